/- Contracts: same, copied, agrees, name, capacity, New (layer 26). Conditions: none. -/
import Derived.Test.YtjlbeakdgadpmaaD10
namespace Go.Proofs.Ytjlbeakdgadpmaa
open Go Go.SL Go.RowKit Go.DskM
set_option linter.unusedVariables false
set_option linter.unusedSimpArgs false
theorem tA36k : aggB Try.prog 36 5 = true := by kernel_rfl
theorem tA51k : aggB Try.prog 51 4 = true := by kernel_rfl
theorem tB65k : placesB Try.prog 65 = some ([(0, 1), (1, 1), (2, 1), (3, 1), (4, 1)], [Value.int .i64 0, Value.map none, Value.bool false, Value.bool false, Value.int .i64 0]) := by kernel_rfl
theorem tF36_0k : fieldB Try.prog 36 0 0 = true := by kernel_rfl
theorem tF36_1k : fieldB Try.prog 36 1 1 = true := by kernel_rfl
theorem tF36_2k : fieldB Try.prog 36 2 2 = true := by kernel_rfl
theorem tF36_3k : fieldB Try.prog 36 3 3 = true := by kernel_rfl
theorem tF36_4k : fieldB Try.prog 36 4 4 = true := by kernel_rfl
theorem tMixk : Try.prog.follows .mixedOrders = true := by kernel_rfl
theorem tN36k : (Try.prog.info? 36).bind (·.zero) = some (Value.agg #[Value.int .i64 0, Value.slice none 0 0, Value.bool false, Value.bool false, Value.int .i64 0]) := by kernel_rfl
theorem tO3k : oneB Try.prog 3 = true := by kernel_rfl
theorem tO34k : oneB Try.prog 34 = true := by kernel_rfl
theorem tO4k : oneB Try.prog 4 = true := by kernel_rfl
theorem tP34k : appB Try.prog 34 51 4 48 = true := by kernel_rfl
theorem tQ63k : mapB Try.prog 63 9 68 KL.desc := ⟨Try.underlying63, Try.underlying9⟩
theorem tS34k : sliceB Try.prog 34 51 4 = true := by kernel_rfl
theorem tZ34k : (Try.prog.info? 34).map (·.size) = some 1 := by kernel_rfl
theorem tZ36k : (Try.prog.info? 36).map (·.size) = some 5 := by kernel_rfl

theorem dec_st2 (s t : St) : decide (s = t) = decide (s.cap = t.cap ∧ s.lim = t.lim ∧ s.left = t.left ∧ s.down = t.down ∧ s.fs = t.fs) := by
  rw [dec_st]; apply decide_eq_decide.2; constructor
  · rintro ⟨h1, h2, h3, h4, h5⟩; exact ⟨h1, h3, h4, h2, h5⟩
  · rintro ⟨h1, h2, h3, h4, h5⟩; exact ⟨h1, h4, h2, h3, h5⟩
set_option maxHeartbeats 2000000 in
set_option maxRecDepth 100000 in
theorem same_any {σ : World} {F : List Res} {b1 b2 : Nat} {s t : St} {a1 a2 : Option Addr} {m1 c1 m2 c2 : Nat} (hd1 : Ent σ F (At ⟨b1, 0, none⟩ (cellS s a1 m1 c1))) (hd2 : Ent σ F (At ⟨b2, 0, none⟩ (cellS t a2 m2 c2))) (h1' : Sl σ F encM 4 (.slice a1 m1 c1) s.fs) (h2' : Sl σ F encM 4 (.slice a2 m2 c2) t.fs) :
    FnT Try.prog σ F 32 [.pointer (some ⟨b1, 0, none⟩), .pointer (some ⟨b2, 0, none⟩)] [] (fun u ρ => u = .bool (decide (s = t)) ∧ ρ = []) := by
  refine fn_of 85 Try.func32 rfl Try.ntmps32 rfl ?_
  have hl1 := h1'.i64
  have hl2 := h2'.i64
  refine w_seq ?_
  refine w_region ?_
  refine wl_det rfl rfl rfl (op_assign rfl) ?_
  refine wl_nil ?_
  refine st_tn ?_
  refine w_seq ?_
  refine w_seq ?_
  by_cases h1 : s.cap = t.cap
  · -- h1+
    by_cases h2 : s.lim = t.lim
    · -- h2+
      by_cases h3 : s.left = t.left
      · -- h3+
        by_cases h4 : s.down = t.down
        · -- h4+
          by_cases h5 : s.fs.length = t.fs.length
          · -- h5+
            refine w_drawW (fun β => (⟨6, [], [], [], noW (_), false, [], []⟩ :: ⟨7, [0], [], [], noW (_), false, [], []⟩ :: ⟨8, [1], [], [], noW (_), false, [], []⟩ :: ⟨9, [2], [], [], noW (_), false, [], []⟩ :: ⟨10, [], [], [], noW (_), false, [], []⟩ :: ⟨11, [4], [], [], noW (_), false, [], []⟩ :: ⟨12, [5], [], [], noW (_), false, [], []⟩ :: ⟨13, [6], [], [], noW (_), false, [], []⟩ :: ⟨14, [3, 7], [], [], noW (_), false, [], []⟩ :: ⟨15, [8], [], [], noW (_), false, [], []⟩ :: ⟨16, [], [], [], noW (_), false, [], []⟩ :: ⟨17, [10], [], [], noW (_), false, [], []⟩ :: ⟨18, [11], [], [], noW (_), false, [], []⟩ :: ⟨19, [12], [], [], noW (_), false, [], []⟩ :: ⟨20, [], [], [], noW (_), false, [], []⟩ :: ⟨21, [14], [], [], noW (_), false, [], []⟩ :: ⟨22, [15], [], [], noW (_), false, [], []⟩ :: ⟨23, [16], [], [], noW (_), false, [], []⟩ :: ⟨24, [13, 17], [], [], noW (_), false, [], []⟩ :: ⟨25, [9, 18], [], [], noW (_), false, [], []⟩ :: ⟨26, [19], [], [], noW (_), false, [], []⟩ :: ⟨27, [], [], [], noW (_), false, [], []⟩ :: ⟨28, [21], [], [], noW (_), false, [], []⟩ :: ⟨29, [22], [], [], noW (_), false, [], []⟩ :: ⟨30, [23], [], [], noW (_), false, [], []⟩ :: ⟨31, [], [], [], noW (_), false, [], []⟩ :: ⟨32, [25], [], [], noW (_), false, [], []⟩ :: ⟨33, [26], [], [], noW (_), false, [], []⟩ :: ⟨34, [27], [], [], noW (_), false, [], []⟩ :: ⟨35, [24, 28], [], [], noW (_), false, [], []⟩ :: ⟨36, [20, 29], [], [], noW (_), false, [], []⟩ :: ⟨37, [30], [], [], noW (_), false, [], []⟩ :: ⟨38, [], [], [], noW (_), false, [], []⟩ :: ⟨39, [32], [], [], noW (_), false, [], []⟩ :: ⟨40, [33], [], [], noW (_), false, [], []⟩ :: ⟨41, [34], [], [], noW (_), false, [], []⟩ :: ⟨42, [], [], [], noW (_), false, [], []⟩ :: ⟨43, [36], [], [], noW (_), false, [], []⟩ :: ⟨44, [37], [], [], noW (_), false, [], []⟩ :: ⟨45, [38], [], [], noW (_), false, [], []⟩ :: ⟨46, [35, 39], [], [], noW (_), false, [], []⟩ :: ⟨47, [31, 40], [], [], noW (_), false, [], []⟩ :: ⟨48, [41], [], [], noW (_), false, [], []⟩ :: ⟨49, [], [], [], noW (_), false, [], []⟩ :: ⟨50, [43], [], [], noW (_), false, [], []⟩ :: ⟨51, [44], [], [], noW (_), false, [], []⟩ :: ⟨52, [45], [], [], noW (_), false, [], []⟩ :: ⟨53, [46], [], [], noW (_), false, [], []⟩ :: ⟨54, [], [], [], noW (_), false, [], []⟩ :: ⟨55, [48], [], [], noW (_), false, [], []⟩ :: ⟨56, [49], [], [], noW (_), false, [], []⟩ :: ⟨57, [50], [], [], noW (_), false, [], []⟩ :: ⟨58, [51], [], [], noW (_), false, [], []⟩ :: ⟨59, [47, 52], [], [], noW (_), false, [], []⟩ :: ⟨60, [42, 53], [], [], noW (_), false, [], []⟩ :: [])) [] [0, 1] (⟨6, [], [], false, [], []⟩ :: ⟨7, [0], [], false, [], []⟩ :: ⟨8, [1], [], false, [], []⟩ :: ⟨9, [2], [], false, [], []⟩ :: ⟨10, [], [], false, [], []⟩ :: ⟨11, [4], [], false, [], []⟩ :: ⟨12, [5], [], false, [], []⟩ :: ⟨13, [6], [], false, [], []⟩ :: ⟨14, [3, 7], [], false, [], []⟩ :: ⟨15, [8], [], false, [], []⟩ :: ⟨16, [], [], false, [], []⟩ :: ⟨17, [10], [], false, [], []⟩ :: ⟨18, [11], [], false, [], []⟩ :: ⟨19, [12], [], false, [], []⟩ :: ⟨20, [], [], false, [], []⟩ :: ⟨21, [14], [], false, [], []⟩ :: ⟨22, [15], [], false, [], []⟩ :: ⟨23, [16], [], false, [], []⟩ :: ⟨24, [13, 17], [], false, [], []⟩ :: ⟨25, [9, 18], [], false, [], []⟩ :: ⟨26, [19], [], false, [], []⟩ :: ⟨27, [], [], false, [], []⟩ :: ⟨28, [21], [], false, [], []⟩ :: ⟨29, [22], [], false, [], []⟩ :: ⟨30, [23], [], false, [], []⟩ :: ⟨31, [], [], false, [], []⟩ :: ⟨32, [25], [], false, [], []⟩ :: ⟨33, [26], [], false, [], []⟩ :: ⟨34, [27], [], false, [], []⟩ :: ⟨35, [24, 28], [], false, [], []⟩ :: ⟨36, [20, 29], [], false, [], []⟩ :: ⟨37, [30], [], false, [], []⟩ :: ⟨38, [], [], false, [], []⟩ :: ⟨39, [32], [], false, [], []⟩ :: ⟨40, [33], [], false, [], []⟩ :: ⟨41, [34], [], false, [], []⟩ :: ⟨42, [], [], false, [], []⟩ :: ⟨43, [36], [], false, [], []⟩ :: ⟨44, [37], [], false, [], []⟩ :: ⟨45, [38], [], false, [], []⟩ :: ⟨46, [35, 39], [], false, [], []⟩ :: ⟨47, [31, 40], [], false, [], []⟩ :: ⟨48, [41], [], false, [], []⟩ :: ⟨49, [], [], false, [], []⟩ :: ⟨50, [43], [], false, [], []⟩ :: ⟨51, [44], [], false, [], []⟩ :: ⟨52, [45], [], false, [], []⟩ :: ⟨53, [46], [], false, [], []⟩ :: ⟨54, [], [], false, [], []⟩ :: ⟨55, [48], [], false, [], []⟩ :: ⟨56, [49], [], false, [], []⟩ :: ⟨57, [50], [], false, [], []⟩ :: ⟨58, [51], [], false, [], []⟩ :: ⟨59, [47, 52], [], false, [], []⟩ :: ⟨60, [42, 53], [], false, [], []⟩ :: []) ([] :: [] :: [] :: [] :: [] :: [] :: [] :: [] :: [] :: [] :: [] :: [] :: [] :: [] :: [] :: [] :: [] :: [] :: [] :: [] :: [] :: [] :: [] :: [] :: [] :: [] :: [] :: [] :: [] :: [] :: [] :: [] :: [] :: [] :: [] :: [] :: [] :: [] :: [] :: [] :: [] :: [] :: [] :: [] :: [] :: [] :: [] :: [] :: [] :: [] :: [] :: [] :: [] :: [] :: [] :: []) ([] :: [] :: [] :: [] :: [] :: [] :: [] :: [] :: [] :: [] :: [] :: [] :: [] :: [] :: [] :: [] :: [] :: [] :: [] :: [] :: [] :: [] :: [] :: [] :: [] :: [] :: [] :: [] :: [] :: [] :: [] :: [] :: [] :: [] :: [] :: [] :: [] :: [] :: [] :: [] :: [] :: [] :: [] :: [] :: [] :: [] :: [] :: [] :: [] :: [] :: [] :: [] :: [] :: [] :: [] :: []) tMixk (fun _ => by rfl) (fun _ => by rfl) (by kernel_rfl) (by kernel_rfl) (by rfl) (by rfl)
                (fun β => ⟨.p rfl (by intro X; exact op_move rfl),
                ⟨.p rfl (by intro X; rintro _ _ ⟨rfl, rfl⟩; exact op_nilCheck rfl),
                ⟨.p rfl (by intro X; rintro _ _ ⟨rfl, rfl⟩; exact op_fieldAddr (off := 0) rfl tF36_0k),
                ⟨.p rfl (by intro X; rintro _ _ ⟨rfl, rfl⟩; exact op_load1 rfl tO3k (Ent.app (Ent.app (Ent.fld hd1 0) X) _)),
                ⟨.p rfl (by intro X; exact op_move rfl),
                ⟨.p rfl (by intro X; rintro _ _ ⟨rfl, rfl⟩; exact op_nilCheck rfl),
                ⟨.p rfl (by intro X; rintro _ _ ⟨rfl, rfl⟩; exact op_fieldAddr (off := 0) rfl tF36_0k),
                ⟨.p rfl (by intro X; rintro _ _ ⟨rfl, rfl⟩; exact op_load1 rfl tO3k (Ent.app (Ent.app (Ent.fld hd2 0) X) _)),
                ⟨.p rfl (by intro X; rintro _ _ ⟨rfl, rfl⟩ _ _ ⟨rfl, rfl⟩; exact op_val (v' := .bool false) (by simp [h1]) (op_neq rfl rfl)),
                ⟨.p rfl (by intro X; rintro _ _ ⟨rfl, rfl⟩; exact op_move rfl),
                ⟨.w rfl rfl rfl (by rintro _ _ ⟨rfl, rfl⟩; rfl) (by intro X; exact op_move rfl),
                ⟨.w rfl rfl rfl (by rintro _ _ ⟨rfl, rfl⟩; rfl) (by intro X; rintro _ _ ⟨rfl, rfl⟩; exact op_nilCheck rfl),
                ⟨.w rfl rfl rfl (by rintro _ _ ⟨rfl, rfl⟩; rfl) (by intro X; rintro _ _ ⟨rfl, rfl⟩; exact op_fieldAddr (off := 2) rfl tF36_2k),
                ⟨.w rfl rfl rfl (by rintro _ _ ⟨rfl, rfl⟩; rfl) (by intro X; rintro _ _ ⟨rfl, rfl⟩; exact op_load1 rfl tO4k (Ent.app (Ent.app (Ent.fld hd1 2) X) _)),
                ⟨.w rfl rfl rfl (by rintro _ _ ⟨rfl, rfl⟩; rfl) (by intro X; exact op_move rfl),
                ⟨.w rfl rfl rfl (by rintro _ _ ⟨rfl, rfl⟩; rfl) (by intro X; rintro _ _ ⟨rfl, rfl⟩; exact op_nilCheck rfl),
                ⟨.w rfl rfl rfl (by rintro _ _ ⟨rfl, rfl⟩; rfl) (by intro X; rintro _ _ ⟨rfl, rfl⟩; exact op_fieldAddr (off := 2) rfl tF36_2k),
                ⟨.w rfl rfl rfl (by rintro _ _ ⟨rfl, rfl⟩; rfl) (by intro X; rintro _ _ ⟨rfl, rfl⟩; exact op_load1 rfl tO4k (Ent.app (Ent.app (Ent.fld hd2 2) X) _)),
                ⟨.w rfl rfl rfl (by rintro _ _ ⟨rfl, rfl⟩; rfl) (by intro X; rintro _ _ ⟨rfl, rfl⟩ _ _ ⟨rfl, rfl⟩; exact op_val (v' := .bool false) (by simp [h2]) (op_neB rfl rfl Try.underlying4)),
                ⟨.p rfl (by intro X; rintro _ _ ⟨rfl, rfl⟩ _ _ ⟨rfl, rfl⟩; exact op_pick_f rfl rfl),
                ⟨.p rfl (by intro X; rintro _ _ ⟨rfl, rfl⟩; exact op_move rfl),
                ⟨.w rfl rfl rfl (by rintro _ _ ⟨rfl, rfl⟩; rfl) (by intro X; exact op_move rfl),
                ⟨.w rfl rfl rfl (by rintro _ _ ⟨rfl, rfl⟩; rfl) (by intro X; rintro _ _ ⟨rfl, rfl⟩; exact op_nilCheck rfl),
                ⟨.w rfl rfl rfl (by rintro _ _ ⟨rfl, rfl⟩; rfl) (by intro X; rintro _ _ ⟨rfl, rfl⟩; exact op_fieldAddr (off := 4) rfl tF36_4k),
                ⟨.w rfl rfl rfl (by rintro _ _ ⟨rfl, rfl⟩; rfl) (by intro X; rintro _ _ ⟨rfl, rfl⟩; exact op_load1 rfl tO3k (Ent.app (Ent.app (Ent.fld hd1 4) X) _)),
                ⟨.w rfl rfl rfl (by rintro _ _ ⟨rfl, rfl⟩; rfl) (by intro X; exact op_move rfl),
                ⟨.w rfl rfl rfl (by rintro _ _ ⟨rfl, rfl⟩; rfl) (by intro X; rintro _ _ ⟨rfl, rfl⟩; exact op_nilCheck rfl),
                ⟨.w rfl rfl rfl (by rintro _ _ ⟨rfl, rfl⟩; rfl) (by intro X; rintro _ _ ⟨rfl, rfl⟩; exact op_fieldAddr (off := 4) rfl tF36_4k),
                ⟨.w rfl rfl rfl (by rintro _ _ ⟨rfl, rfl⟩; rfl) (by intro X; rintro _ _ ⟨rfl, rfl⟩; exact op_load1 rfl tO3k (Ent.app (Ent.app (Ent.fld hd2 4) X) _)),
                ⟨.w rfl rfl rfl (by rintro _ _ ⟨rfl, rfl⟩; rfl) (by intro X; rintro _ _ ⟨rfl, rfl⟩ _ _ ⟨rfl, rfl⟩; exact op_val (v' := .bool false) (by simp [h3]) (op_neq rfl rfl)),
                ⟨.p rfl (by intro X; rintro _ _ ⟨rfl, rfl⟩ _ _ ⟨rfl, rfl⟩; exact op_pick_f rfl rfl),
                ⟨.p rfl (by intro X; rintro _ _ ⟨rfl, rfl⟩; exact op_move rfl),
                ⟨.w rfl rfl rfl (by rintro _ _ ⟨rfl, rfl⟩; rfl) (by intro X; exact op_move rfl),
                ⟨.w rfl rfl rfl (by rintro _ _ ⟨rfl, rfl⟩; rfl) (by intro X; rintro _ _ ⟨rfl, rfl⟩; exact op_nilCheck rfl),
                ⟨.w rfl rfl rfl (by rintro _ _ ⟨rfl, rfl⟩; rfl) (by intro X; rintro _ _ ⟨rfl, rfl⟩; exact op_fieldAddr (off := 3) rfl tF36_3k),
                ⟨.w rfl rfl rfl (by rintro _ _ ⟨rfl, rfl⟩; rfl) (by intro X; rintro _ _ ⟨rfl, rfl⟩; exact op_load1 rfl tO4k (Ent.app (Ent.app (Ent.fld hd1 3) X) _)),
                ⟨.w rfl rfl rfl (by rintro _ _ ⟨rfl, rfl⟩; rfl) (by intro X; exact op_move rfl),
                ⟨.w rfl rfl rfl (by rintro _ _ ⟨rfl, rfl⟩; rfl) (by intro X; rintro _ _ ⟨rfl, rfl⟩; exact op_nilCheck rfl),
                ⟨.w rfl rfl rfl (by rintro _ _ ⟨rfl, rfl⟩; rfl) (by intro X; rintro _ _ ⟨rfl, rfl⟩; exact op_fieldAddr (off := 3) rfl tF36_3k),
                ⟨.w rfl rfl rfl (by rintro _ _ ⟨rfl, rfl⟩; rfl) (by intro X; rintro _ _ ⟨rfl, rfl⟩; exact op_load1 rfl tO4k (Ent.app (Ent.app (Ent.fld hd2 3) X) _)),
                ⟨.w rfl rfl rfl (by rintro _ _ ⟨rfl, rfl⟩; rfl) (by intro X; rintro _ _ ⟨rfl, rfl⟩ _ _ ⟨rfl, rfl⟩; exact op_val (v' := .bool false) (by simp [h4]) (op_neB rfl rfl Try.underlying4)),
                ⟨.p rfl (by intro X; rintro _ _ ⟨rfl, rfl⟩ _ _ ⟨rfl, rfl⟩; exact op_pick_f rfl rfl),
                ⟨.p rfl (by intro X; rintro _ _ ⟨rfl, rfl⟩; exact op_move rfl),
                ⟨.w rfl rfl rfl (by rintro _ _ ⟨rfl, rfl⟩; rfl) (by intro X; exact op_move rfl),
                ⟨.w rfl rfl rfl (by rintro _ _ ⟨rfl, rfl⟩; rfl) (by intro X; rintro _ _ ⟨rfl, rfl⟩; exact op_nilCheck rfl),
                ⟨.w rfl rfl rfl (by rintro _ _ ⟨rfl, rfl⟩; rfl) (by intro X; rintro _ _ ⟨rfl, rfl⟩; exact op_fieldAddr (off := 1) rfl tF36_1k),
                ⟨.w rfl rfl rfl (by rintro _ _ ⟨rfl, rfl⟩; rfl) (by intro X; rintro _ _ ⟨rfl, rfl⟩; exact op_load1 rfl tO34k (Ent.app (Ent.app (Ent.fld hd1 1) X) _)),
                ⟨.w rfl rfl rfl (by rintro _ _ ⟨rfl, rfl⟩; rfl) (by intro X; rintro _ _ ⟨rfl, rfl⟩; exact op_lenT rfl tS34k (Sl.ent (Sl.app (Sl.app h1' X) _))),
                ⟨.w rfl rfl rfl (by rintro _ _ ⟨rfl, rfl⟩; rfl) (by intro X; exact op_move rfl),
                ⟨.w rfl rfl rfl (by rintro _ _ ⟨rfl, rfl⟩; rfl) (by intro X; rintro _ _ ⟨rfl, rfl⟩; exact op_nilCheck rfl),
                ⟨.w rfl rfl rfl (by rintro _ _ ⟨rfl, rfl⟩; rfl) (by intro X; rintro _ _ ⟨rfl, rfl⟩; exact op_fieldAddr (off := 1) rfl tF36_1k),
                ⟨.w rfl rfl rfl (by rintro _ _ ⟨rfl, rfl⟩; rfl) (by intro X; rintro _ _ ⟨rfl, rfl⟩; exact op_load1 rfl tO34k (Ent.app (Ent.app (Ent.fld hd2 1) X) _)),
                ⟨.w rfl rfl rfl (by rintro _ _ ⟨rfl, rfl⟩; rfl) (by intro X; rintro _ _ ⟨rfl, rfl⟩; exact op_lenT rfl tS34k (Sl.ent (Sl.app (Sl.app h2' X) _))),
                ⟨.w rfl rfl rfl (by rintro _ _ ⟨rfl, rfl⟩; rfl) (by intro X; rintro _ _ ⟨rfl, rfl⟩ _ _ ⟨rfl, rfl⟩; exact op_val (v' := .bool false) (by simp [h5]) (op_neq rfl rfl)),
                ⟨.p rfl (by intro X; rintro _ _ ⟨rfl, rfl⟩ _ _ ⟨rfl, rfl⟩; exact op_pick_f rfl rfl),
                trivial⟩⟩⟩⟩⟩⟩⟩⟩⟩⟩⟩⟩⟩⟩⟩⟩⟩⟩⟩⟩⟩⟩⟩⟩⟩⟩⟩⟩⟩⟩⟩⟩⟩⟩⟩⟩⟩⟩⟩⟩⟩⟩⟩⟩⟩⟩⟩⟩⟩⟩⟩⟩⟩⟩⟩)
                (fun β β' => ⟨fun _ => by rfl, ⟨fun _ => by rfl, ⟨fun _ => by rfl, ⟨fun _ => by rfl, ⟨fun _ => by rfl, ⟨fun _ => by rfl, ⟨fun _ => by rfl, ⟨fun _ => by rfl, ⟨fun _ => by rfl, ⟨fun _ => by rfl, ⟨fun _ => by rfl, ⟨fun _ => by rfl, ⟨fun _ => by rfl, ⟨fun _ => by rfl, ⟨fun _ => by rfl, ⟨fun _ => by rfl, ⟨fun _ => by rfl, ⟨fun _ => by rfl, ⟨fun _ => by rfl, ⟨fun _ => by rfl, ⟨fun _ => by rfl, ⟨fun _ => by rfl, ⟨fun _ => by rfl, ⟨fun _ => by rfl, ⟨fun _ => by rfl, ⟨fun _ => by rfl, ⟨fun _ => by rfl, ⟨fun _ => by rfl, ⟨fun _ => by rfl, ⟨fun _ => by rfl, ⟨fun _ => by rfl, ⟨fun _ => by rfl, ⟨fun _ => by rfl, ⟨fun _ => by rfl, ⟨fun _ => by rfl, ⟨fun _ => by rfl, ⟨fun _ => by rfl, ⟨fun _ => by rfl, ⟨fun _ => by rfl, ⟨fun _ => by rfl, ⟨fun _ => by rfl, ⟨fun _ => by rfl, ⟨fun _ => by rfl, ⟨fun _ => by rfl, ⟨fun _ => by rfl, ⟨fun _ => by rfl, ⟨fun _ => by rfl, ⟨fun _ => by rfl, ⟨fun _ => by rfl, ⟨fun _ => by rfl, ⟨fun _ => by rfl, ⟨fun _ => by rfl, ⟨fun _ => by rfl, ⟨fun _ => by rfl, ⟨fun _ => by rfl, trivial⟩⟩⟩⟩⟩⟩⟩⟩⟩⟩⟩⟩⟩⟩⟩⟩⟩⟩⟩⟩⟩⟩⟩⟩⟩⟩⟩⟩⟩⟩⟩⟩⟩⟩⟩⟩⟩⟩⟩⟩⟩⟩⟩⟩⟩⟩⟩⟩⟩⟩⟩⟩⟩⟩⟩) ?_
            intro β
            rintro _ _ ⟨rfl, rfl⟩ _ _ ⟨rfl, rfl⟩ _ _ ⟨rfl, rfl⟩ _ _ ⟨rfl, rfl⟩ _ _ ⟨rfl, rfl⟩ _ _ ⟨rfl, rfl⟩ _ _ ⟨rfl, rfl⟩ _ _ ⟨rfl, rfl⟩ _ _ ⟨rfl, rfl⟩ _ _ ⟨rfl, rfl⟩ _ _ ⟨rfl, rfl⟩ _ _ ⟨rfl, rfl⟩ _ _ ⟨rfl, rfl⟩ _ _ ⟨rfl, rfl⟩ _ _ ⟨rfl, rfl⟩ _ _ ⟨rfl, rfl⟩ _ _ ⟨rfl, rfl⟩ _ _ ⟨rfl, rfl⟩ _ _ ⟨rfl, rfl⟩ _ _ ⟨rfl, rfl⟩ _ _ ⟨rfl, rfl⟩ _ _ ⟨rfl, rfl⟩ _ _ ⟨rfl, rfl⟩ _ _ ⟨rfl, rfl⟩ _ _ ⟨rfl, rfl⟩ _ _ ⟨rfl, rfl⟩ _ _ ⟨rfl, rfl⟩ _ _ ⟨rfl, rfl⟩ _ _ ⟨rfl, rfl⟩ _ _ ⟨rfl, rfl⟩ _ _ ⟨rfl, rfl⟩ _ _ ⟨rfl, rfl⟩ _ _ ⟨rfl, rfl⟩ _ _ ⟨rfl, rfl⟩ _ _ ⟨rfl, rfl⟩ _ _ ⟨rfl, rfl⟩ _ _ ⟨rfl, rfl⟩ _ _ ⟨rfl, rfl⟩ _ _ ⟨rfl, rfl⟩ _ _ ⟨rfl, rfl⟩ _ _ ⟨rfl, rfl⟩ _ _ ⟨rfl, rfl⟩ _ _ ⟨rfl, rfl⟩ _ _ ⟨rfl, rfl⟩ _ _ ⟨rfl, rfl⟩ _ _ ⟨rfl, rfl⟩ _ _ ⟨rfl, rfl⟩ _ _ ⟨rfl, rfl⟩ _ _ ⟨rfl, rfl⟩ _ _ ⟨rfl, rfl⟩ _ _ ⟨rfl, rfl⟩ _ _ ⟨rfl, rfl⟩ _ _ ⟨rfl, rfl⟩ _ _ ⟨rfl, rfl⟩ _ _ ⟨rfl, rfl⟩
            refine wl_norm (e' := [(0, _), (1, _), (60, _)]) (.cons rfl (.cons rfl (.cons rfl (.nil _)))) (by dsimp only [cond_false, cond_true, List.nil_append, List.cons_append]) ?_
            refine wl_nil ?_
            refine st_tn ?_
            refine w_cond_f (rfl) ?_
            refine w_skip ?_
            refine st_tn ?_
            refine w_seq ?_
            refine w_seq ?_
            refine w_region ?_
            refine wl_det rfl rfl rfl (op_assign rfl) ?_
            refine wl_nil ?_
            refine st_tn ?_
            refine w_block ?_
            refine w_loopQ (X := Nat) (fun z => z ≤ s.fs.length ∧ s.fs.take z = t.fs.take z) (fun z => [(5, .int .i64 (z))]) (fun _ => []) (fun z => s.fs.length - z) (0) [(0, _), (1, _)] [] [] rfl (rfl) (.cons rfl (.nil _)) (.cons rfl (.cons rfl (.nil _))) (by
                try dsimp only
                exact ⟨Nat.zero_le _, by simp⟩) ?_
            rintro i ⟨hi, hn⟩
            refine w_norm2 (by dsimp only [List.cons_append, List.nil_append]) (by dsimp only [List.cons_append, List.nil_append]) ?_
            try dsimp only at hi hn ⊢
            refine w_seq ?_
            refine w_seq ?_
            refine w_region ?_
            refine wl_det rfl rfl rfl (op_move rfl) ?_
            refine wl_det rfl rfl rfl (op_move rfl) ?_
            refine wl_det rfl rfl rfl (op_nilCheck rfl) ?_
            refine wl_det rfl rfl rfl (op_fieldAddr (off := 1) rfl tF36_1k) ?_
            refine wl_det rfl rfl rfl (op_load1 rfl tO34k (Ent.app (Ent.fld hd1 1) _)) ?_
            refine wl_det rfl rfl rfl (op_lenT rfl tS34k (Sl.ent (Sl.app h1' _))) ?_
            refine wl_det rfl rfl rfl (op_lss rfl rfl) ?_
            refine wl_nil ?_
            refine st_tn ?_
            refine w_cond_d rfl (fun hc67 => ?_) (fun hc67 => ?_)
            · -- c67.t
              obtain ⟨p, hx⟩ := getE (l := s.fs) (i := i) (by omega)
              obtain ⟨q, hy⟩ := getE (l := t.fs) (i := i) (by omega)
              refine w_skip ?_
              refine st_tn ?_
              refine w_seq ?_
              refine w_block ?_
              refine w_seq ?_
              refine w_drawW (fun β => [⟨70, [], [], [], noW (_), false, [], []⟩, ⟨71, [0], [], [], noW (_), false, [], []⟩, ⟨72, [1], [], [], noW (_), false, [], []⟩, ⟨73, [2], [], [], noW (_), false, [], []⟩, ⟨74, [], [], [], noW (_), false, [], []⟩, ⟨75, [3, 4], [], [], noW (_), false, [], []⟩, ⟨76, [5], [], [], noW (_), false, [], []⟩, ⟨77, [], [], [], noW (_), false, [], []⟩, ⟨78, [7], [], [], noW (_), false, [], []⟩, ⟨79, [8], [], [], noW (_), false, [], []⟩, ⟨80, [9], [], [], noW (_), false, [], []⟩, ⟨81, [], [], [], noW (_), false, [], []⟩, ⟨82, [10, 11], [], [], noW (_), false, [], []⟩, ⟨83, [12], [], [], noW (_), false, [], []⟩]) [] [0, 5, 1] [⟨70, [], [], false, [], []⟩, ⟨71, [0], [], false, [], []⟩, ⟨72, [1], [], false, [], []⟩, ⟨73, [2], [], false, [], []⟩, ⟨74, [], [], false, [], []⟩, ⟨75, [3, 4], [], false, [], []⟩, ⟨76, [5], [], false, [], []⟩, ⟨77, [], [], false, [], []⟩, ⟨78, [7], [], false, [], []⟩, ⟨79, [8], [], false, [], []⟩, ⟨80, [9], [], false, [], []⟩, ⟨81, [], [], false, [], []⟩, ⟨82, [10, 11], [], false, [], []⟩, ⟨83, [12], [], false, [], []⟩] [[], [], [], [], [], [], [], [], [], [], [], [], [], []] [[], [], [], [], [], [], [], [], [], [], [], [], [], []] tMixk (fun _ => by rfl) (fun _ => by rfl) (by kernel_rfl) (by kernel_rfl) (by rfl) (by rfl)
                  (fun β => ⟨.p rfl (by intro X; exact op_move rfl),
                  ⟨.p rfl (by intro X; rintro _ _ ⟨rfl, rfl⟩; exact op_nilCheck rfl),
                  ⟨.p rfl (by intro X; rintro _ _ ⟨rfl, rfl⟩; exact op_fieldAddr (off := 1) rfl tF36_1k),
                  ⟨.p rfl (by intro X; rintro _ _ ⟨rfl, rfl⟩; exact op_load1 rfl tO34k (Ent.app (Ent.app (Ent.fld hd1 1) X) _)),
                  ⟨.p rfl (by intro X; exact op_move rfl),
                  ⟨.p rfl (by intro X; rintro _ _ ⟨rfl, rfl⟩ _ _ ⟨rfl, rfl⟩; exact op_idx rfl rfl tS34k (Sl.ent (Sl.app (Sl.app h1' X) _)) (by omega)),
                  ⟨.p rfl (by intro X; rintro _ _ ⟨rfl, rfl⟩; exact op_ldxA rfl tA51k (Sl.app (Sl.app h1' X) _) hx (by rfl) (by rfl)),
                  ⟨.p rfl (by intro X; exact op_move rfl),
                  ⟨.p rfl (by intro X; rintro _ _ ⟨rfl, rfl⟩; exact op_nilCheck rfl),
                  ⟨.p rfl (by intro X; rintro _ _ ⟨rfl, rfl⟩; exact op_fieldAddr (off := 1) rfl tF36_1k),
                  ⟨.p rfl (by intro X; rintro _ _ ⟨rfl, rfl⟩; exact op_load1 rfl tO34k (Ent.app (Ent.app (Ent.fld hd2 1) X) _)),
                  ⟨.p rfl (by intro X; exact op_move rfl),
                  ⟨.p rfl (by intro X; rintro _ _ ⟨rfl, rfl⟩ _ _ ⟨rfl, rfl⟩; exact op_idx rfl rfl tS34k (Sl.ent (Sl.app (Sl.app h2' X) _)) (by omega)),
                  ⟨.p rfl (by intro X; rintro _ _ ⟨rfl, rfl⟩; exact op_ldxA rfl tA51k (Sl.app (Sl.app h2' X) _) hy (by rfl) (by rfl)),
                  trivial⟩⟩⟩⟩⟩⟩⟩⟩⟩⟩⟩⟩⟩⟩)
                  (fun β β' => ⟨fun _ => by rfl, ⟨fun _ => by rfl, ⟨fun _ => by rfl, ⟨fun _ => by rfl, ⟨fun _ => by rfl, ⟨fun _ => by rfl, ⟨fun _ => by rfl, ⟨fun _ => by rfl, ⟨fun _ => by rfl, ⟨fun _ => by rfl, ⟨fun _ => by rfl, ⟨fun _ => by rfl, ⟨fun _ => by rfl, ⟨fun _ => by rfl, trivial⟩⟩⟩⟩⟩⟩⟩⟩⟩⟩⟩⟩⟩⟩) ?_
              intro β
              rintro _ _ ⟨rfl, rfl⟩ _ _ ⟨rfl, rfl⟩ _ _ ⟨rfl, rfl⟩ _ _ ⟨rfl, rfl⟩ _ _ ⟨rfl, rfl⟩ _ _ ⟨rfl, rfl⟩ _ _ ⟨rfl, rfl⟩ _ _ ⟨rfl, rfl⟩ _ _ ⟨rfl, rfl⟩ _ _ ⟨rfl, rfl⟩ _ _ ⟨rfl, rfl⟩ _ _ ⟨rfl, rfl⟩ _ _ ⟨rfl, rfl⟩ _ _ ⟨rfl, rfl⟩
              refine wl_norm (e' := [(0, _), (1, _), (5, _), (76, _), (83, _)]) (.cons rfl (.cons rfl (.cons rfl (.cons rfl (.cons rfl (.nil _)))))) (by dsimp only [cond_false, cond_true, List.nil_append, List.cons_append]) ?_
              refine wl_det rfl rfl rfl (op_neA rfl rfl g51 (eq_sfile p q)) ?_
              refine wl_nil ?_
              refine st_tn ?_
              refine w_cond rfl (fun hc84 => ?_) (fun hc84 => ?_)
              · -- c84.t
                refine w_seq ?_
                refine w_region ?_
                refine wl_det rfl rfl rfl (op_assign rfl) ?_
                refine wl_nil ?_
                refine st_tn ?_
                refine w_ret ?_
                refine st_br ?_
                refine st_tr ?_
                refine st_tr ?_
                refine st_br ?_
                refine st_tr ?_
                refine st_ret (vs := [_]) [] Try.results32 ⟨rfl, trivial⟩ rfl ?_
                refine ⟨_, rfl, ?_⟩
                have hpq : ¬ p = q := by simpa using hc84
                have : s.fs ≠ t.fs := fun e => hpq (by rw [e, hy] at hx; simpa using hx.symm)
                exact ⟨by rw [dec_st2]; simp [retv, this], rfl⟩
              · -- c84.f
                refine w_skip ?_
                refine st_bn ?_
                refine st_tn ?_
                refine w_region ?_
                refine wl_det rfl rfl rfl (op_move rfl) ?_
                refine wl_det rfl rfl rfl (op_add' rfl rfl (by omega)) ?_
                refine wl_det rfl rfl rfl (op_assign rfl) ?_
                refine wl_nil ?_
                refine st_roundQ (x := i) (i + 1) [] rfl (rfl) (.cons rfl (.nil _)) (.cons rfl (.cons rfl (.nil _))) (by
                    try dsimp only
                    refine ⟨by omega, ?_⟩
                    have : p = q := by simpa using hc84
                    rw [take_snoc hx, take_snoc hy, hn, this]) (by
                    try dsimp only
                    omega) 
            · -- c67.f
              refine w_exit ?_
              refine st_te ?_
              refine st_te ?_
              refine st_be ?_
              refine st_tn ?_
              refine w_seq ?_
              refine w_region ?_
              refine wl_det rfl rfl rfl (op_assign rfl) ?_
              refine wl_nil ?_
              refine st_tn ?_
              refine w_ret ?_
              refine st_ret (vs := [_]) [] Try.results32 ⟨rfl, trivial⟩ rfl ?_
              refine ⟨_, rfl, ?_⟩
              rw [take_all (by omega), take_all (by omega)] at hn
              exact ⟨by rw [dec_st2]; simp [retv, h1, h2, h3, h4, hn], rfl⟩
          · -- h5-
            refine w_drawW (fun β => (⟨6, [], [], [], noW (_), false, [], []⟩ :: ⟨7, [0], [], [], noW (_), false, [], []⟩ :: ⟨8, [1], [], [], noW (_), false, [], []⟩ :: ⟨9, [2], [], [], noW (_), false, [], []⟩ :: ⟨10, [], [], [], noW (_), false, [], []⟩ :: ⟨11, [4], [], [], noW (_), false, [], []⟩ :: ⟨12, [5], [], [], noW (_), false, [], []⟩ :: ⟨13, [6], [], [], noW (_), false, [], []⟩ :: ⟨14, [3, 7], [], [], noW (_), false, [], []⟩ :: ⟨15, [8], [], [], noW (_), false, [], []⟩ :: ⟨16, [], [], [], noW (_), false, [], []⟩ :: ⟨17, [10], [], [], noW (_), false, [], []⟩ :: ⟨18, [11], [], [], noW (_), false, [], []⟩ :: ⟨19, [12], [], [], noW (_), false, [], []⟩ :: ⟨20, [], [], [], noW (_), false, [], []⟩ :: ⟨21, [14], [], [], noW (_), false, [], []⟩ :: ⟨22, [15], [], [], noW (_), false, [], []⟩ :: ⟨23, [16], [], [], noW (_), false, [], []⟩ :: ⟨24, [13, 17], [], [], noW (_), false, [], []⟩ :: ⟨25, [9, 18], [], [], noW (_), false, [], []⟩ :: ⟨26, [19], [], [], noW (_), false, [], []⟩ :: ⟨27, [], [], [], noW (_), false, [], []⟩ :: ⟨28, [21], [], [], noW (_), false, [], []⟩ :: ⟨29, [22], [], [], noW (_), false, [], []⟩ :: ⟨30, [23], [], [], noW (_), false, [], []⟩ :: ⟨31, [], [], [], noW (_), false, [], []⟩ :: ⟨32, [25], [], [], noW (_), false, [], []⟩ :: ⟨33, [26], [], [], noW (_), false, [], []⟩ :: ⟨34, [27], [], [], noW (_), false, [], []⟩ :: ⟨35, [24, 28], [], [], noW (_), false, [], []⟩ :: ⟨36, [20, 29], [], [], noW (_), false, [], []⟩ :: ⟨37, [30], [], [], noW (_), false, [], []⟩ :: ⟨38, [], [], [], noW (_), false, [], []⟩ :: ⟨39, [32], [], [], noW (_), false, [], []⟩ :: ⟨40, [33], [], [], noW (_), false, [], []⟩ :: ⟨41, [34], [], [], noW (_), false, [], []⟩ :: ⟨42, [], [], [], noW (_), false, [], []⟩ :: ⟨43, [36], [], [], noW (_), false, [], []⟩ :: ⟨44, [37], [], [], noW (_), false, [], []⟩ :: ⟨45, [38], [], [], noW (_), false, [], []⟩ :: ⟨46, [35, 39], [], [], noW (_), false, [], []⟩ :: ⟨47, [31, 40], [], [], noW (_), false, [], []⟩ :: ⟨48, [41], [], [], noW (_), false, [], []⟩ :: ⟨49, [], [], [], noW (_), false, [], []⟩ :: ⟨50, [43], [], [], noW (_), false, [], []⟩ :: ⟨51, [44], [], [], noW (_), false, [], []⟩ :: ⟨52, [45], [], [], noW (_), false, [], []⟩ :: ⟨53, [46], [], [], noW (_), false, [], []⟩ :: ⟨54, [], [], [], noW (_), false, [], []⟩ :: ⟨55, [48], [], [], noW (_), false, [], []⟩ :: ⟨56, [49], [], [], noW (_), false, [], []⟩ :: ⟨57, [50], [], [], noW (_), false, [], []⟩ :: ⟨58, [51], [], [], noW (_), false, [], []⟩ :: ⟨59, [47, 52], [], [], noW (_), false, [], []⟩ :: ⟨60, [42, 53], [], [], noW (_), false, [], []⟩ :: [])) [] [0, 1] (⟨6, [], [], false, [], []⟩ :: ⟨7, [0], [], false, [], []⟩ :: ⟨8, [1], [], false, [], []⟩ :: ⟨9, [2], [], false, [], []⟩ :: ⟨10, [], [], false, [], []⟩ :: ⟨11, [4], [], false, [], []⟩ :: ⟨12, [5], [], false, [], []⟩ :: ⟨13, [6], [], false, [], []⟩ :: ⟨14, [3, 7], [], false, [], []⟩ :: ⟨15, [8], [], false, [], []⟩ :: ⟨16, [], [], false, [], []⟩ :: ⟨17, [10], [], false, [], []⟩ :: ⟨18, [11], [], false, [], []⟩ :: ⟨19, [12], [], false, [], []⟩ :: ⟨20, [], [], false, [], []⟩ :: ⟨21, [14], [], false, [], []⟩ :: ⟨22, [15], [], false, [], []⟩ :: ⟨23, [16], [], false, [], []⟩ :: ⟨24, [13, 17], [], false, [], []⟩ :: ⟨25, [9, 18], [], false, [], []⟩ :: ⟨26, [19], [], false, [], []⟩ :: ⟨27, [], [], false, [], []⟩ :: ⟨28, [21], [], false, [], []⟩ :: ⟨29, [22], [], false, [], []⟩ :: ⟨30, [23], [], false, [], []⟩ :: ⟨31, [], [], false, [], []⟩ :: ⟨32, [25], [], false, [], []⟩ :: ⟨33, [26], [], false, [], []⟩ :: ⟨34, [27], [], false, [], []⟩ :: ⟨35, [24, 28], [], false, [], []⟩ :: ⟨36, [20, 29], [], false, [], []⟩ :: ⟨37, [30], [], false, [], []⟩ :: ⟨38, [], [], false, [], []⟩ :: ⟨39, [32], [], false, [], []⟩ :: ⟨40, [33], [], false, [], []⟩ :: ⟨41, [34], [], false, [], []⟩ :: ⟨42, [], [], false, [], []⟩ :: ⟨43, [36], [], false, [], []⟩ :: ⟨44, [37], [], false, [], []⟩ :: ⟨45, [38], [], false, [], []⟩ :: ⟨46, [35, 39], [], false, [], []⟩ :: ⟨47, [31, 40], [], false, [], []⟩ :: ⟨48, [41], [], false, [], []⟩ :: ⟨49, [], [], false, [], []⟩ :: ⟨50, [43], [], false, [], []⟩ :: ⟨51, [44], [], false, [], []⟩ :: ⟨52, [45], [], false, [], []⟩ :: ⟨53, [46], [], false, [], []⟩ :: ⟨54, [], [], false, [], []⟩ :: ⟨55, [48], [], false, [], []⟩ :: ⟨56, [49], [], false, [], []⟩ :: ⟨57, [50], [], false, [], []⟩ :: ⟨58, [51], [], false, [], []⟩ :: ⟨59, [47, 52], [], false, [], []⟩ :: ⟨60, [42, 53], [], false, [], []⟩ :: []) ([] :: [] :: [] :: [] :: [] :: [] :: [] :: [] :: [] :: [] :: [] :: [] :: [] :: [] :: [] :: [] :: [] :: [] :: [] :: [] :: [] :: [] :: [] :: [] :: [] :: [] :: [] :: [] :: [] :: [] :: [] :: [] :: [] :: [] :: [] :: [] :: [] :: [] :: [] :: [] :: [] :: [] :: [] :: [] :: [] :: [] :: [] :: [] :: [] :: [] :: [] :: [] :: [] :: [] :: [] :: []) ([] :: [] :: [] :: [] :: [] :: [] :: [] :: [] :: [] :: [] :: [] :: [] :: [] :: [] :: [] :: [] :: [] :: [] :: [] :: [] :: [] :: [] :: [] :: [] :: [] :: [] :: [] :: [] :: [] :: [] :: [] :: [] :: [] :: [] :: [] :: [] :: [] :: [] :: [] :: [] :: [] :: [] :: [] :: [] :: [] :: [] :: [] :: [] :: [] :: [] :: [] :: [] :: [] :: [] :: [] :: []) tMixk (fun _ => by rfl) (fun _ => by rfl) (by kernel_rfl) (by kernel_rfl) (by rfl) (by rfl)
                (fun β => ⟨.p rfl (by intro X; exact op_move rfl),
                ⟨.p rfl (by intro X; rintro _ _ ⟨rfl, rfl⟩; exact op_nilCheck rfl),
                ⟨.p rfl (by intro X; rintro _ _ ⟨rfl, rfl⟩; exact op_fieldAddr (off := 0) rfl tF36_0k),
                ⟨.p rfl (by intro X; rintro _ _ ⟨rfl, rfl⟩; exact op_load1 rfl tO3k (Ent.app (Ent.app (Ent.fld hd1 0) X) _)),
                ⟨.p rfl (by intro X; exact op_move rfl),
                ⟨.p rfl (by intro X; rintro _ _ ⟨rfl, rfl⟩; exact op_nilCheck rfl),
                ⟨.p rfl (by intro X; rintro _ _ ⟨rfl, rfl⟩; exact op_fieldAddr (off := 0) rfl tF36_0k),
                ⟨.p rfl (by intro X; rintro _ _ ⟨rfl, rfl⟩; exact op_load1 rfl tO3k (Ent.app (Ent.app (Ent.fld hd2 0) X) _)),
                ⟨.p rfl (by intro X; rintro _ _ ⟨rfl, rfl⟩ _ _ ⟨rfl, rfl⟩; exact op_val (v' := .bool false) (by simp [h1]) (op_neq rfl rfl)),
                ⟨.p rfl (by intro X; rintro _ _ ⟨rfl, rfl⟩; exact op_move rfl),
                ⟨.w rfl rfl rfl (by rintro _ _ ⟨rfl, rfl⟩; rfl) (by intro X; exact op_move rfl),
                ⟨.w rfl rfl rfl (by rintro _ _ ⟨rfl, rfl⟩; rfl) (by intro X; rintro _ _ ⟨rfl, rfl⟩; exact op_nilCheck rfl),
                ⟨.w rfl rfl rfl (by rintro _ _ ⟨rfl, rfl⟩; rfl) (by intro X; rintro _ _ ⟨rfl, rfl⟩; exact op_fieldAddr (off := 2) rfl tF36_2k),
                ⟨.w rfl rfl rfl (by rintro _ _ ⟨rfl, rfl⟩; rfl) (by intro X; rintro _ _ ⟨rfl, rfl⟩; exact op_load1 rfl tO4k (Ent.app (Ent.app (Ent.fld hd1 2) X) _)),
                ⟨.w rfl rfl rfl (by rintro _ _ ⟨rfl, rfl⟩; rfl) (by intro X; exact op_move rfl),
                ⟨.w rfl rfl rfl (by rintro _ _ ⟨rfl, rfl⟩; rfl) (by intro X; rintro _ _ ⟨rfl, rfl⟩; exact op_nilCheck rfl),
                ⟨.w rfl rfl rfl (by rintro _ _ ⟨rfl, rfl⟩; rfl) (by intro X; rintro _ _ ⟨rfl, rfl⟩; exact op_fieldAddr (off := 2) rfl tF36_2k),
                ⟨.w rfl rfl rfl (by rintro _ _ ⟨rfl, rfl⟩; rfl) (by intro X; rintro _ _ ⟨rfl, rfl⟩; exact op_load1 rfl tO4k (Ent.app (Ent.app (Ent.fld hd2 2) X) _)),
                ⟨.w rfl rfl rfl (by rintro _ _ ⟨rfl, rfl⟩; rfl) (by intro X; rintro _ _ ⟨rfl, rfl⟩ _ _ ⟨rfl, rfl⟩; exact op_val (v' := .bool false) (by simp [h2]) (op_neB rfl rfl Try.underlying4)),
                ⟨.p rfl (by intro X; rintro _ _ ⟨rfl, rfl⟩ _ _ ⟨rfl, rfl⟩; exact op_pick_f rfl rfl),
                ⟨.p rfl (by intro X; rintro _ _ ⟨rfl, rfl⟩; exact op_move rfl),
                ⟨.w rfl rfl rfl (by rintro _ _ ⟨rfl, rfl⟩; rfl) (by intro X; exact op_move rfl),
                ⟨.w rfl rfl rfl (by rintro _ _ ⟨rfl, rfl⟩; rfl) (by intro X; rintro _ _ ⟨rfl, rfl⟩; exact op_nilCheck rfl),
                ⟨.w rfl rfl rfl (by rintro _ _ ⟨rfl, rfl⟩; rfl) (by intro X; rintro _ _ ⟨rfl, rfl⟩; exact op_fieldAddr (off := 4) rfl tF36_4k),
                ⟨.w rfl rfl rfl (by rintro _ _ ⟨rfl, rfl⟩; rfl) (by intro X; rintro _ _ ⟨rfl, rfl⟩; exact op_load1 rfl tO3k (Ent.app (Ent.app (Ent.fld hd1 4) X) _)),
                ⟨.w rfl rfl rfl (by rintro _ _ ⟨rfl, rfl⟩; rfl) (by intro X; exact op_move rfl),
                ⟨.w rfl rfl rfl (by rintro _ _ ⟨rfl, rfl⟩; rfl) (by intro X; rintro _ _ ⟨rfl, rfl⟩; exact op_nilCheck rfl),
                ⟨.w rfl rfl rfl (by rintro _ _ ⟨rfl, rfl⟩; rfl) (by intro X; rintro _ _ ⟨rfl, rfl⟩; exact op_fieldAddr (off := 4) rfl tF36_4k),
                ⟨.w rfl rfl rfl (by rintro _ _ ⟨rfl, rfl⟩; rfl) (by intro X; rintro _ _ ⟨rfl, rfl⟩; exact op_load1 rfl tO3k (Ent.app (Ent.app (Ent.fld hd2 4) X) _)),
                ⟨.w rfl rfl rfl (by rintro _ _ ⟨rfl, rfl⟩; rfl) (by intro X; rintro _ _ ⟨rfl, rfl⟩ _ _ ⟨rfl, rfl⟩; exact op_val (v' := .bool false) (by simp [h3]) (op_neq rfl rfl)),
                ⟨.p rfl (by intro X; rintro _ _ ⟨rfl, rfl⟩ _ _ ⟨rfl, rfl⟩; exact op_pick_f rfl rfl),
                ⟨.p rfl (by intro X; rintro _ _ ⟨rfl, rfl⟩; exact op_move rfl),
                ⟨.w rfl rfl rfl (by rintro _ _ ⟨rfl, rfl⟩; rfl) (by intro X; exact op_move rfl),
                ⟨.w rfl rfl rfl (by rintro _ _ ⟨rfl, rfl⟩; rfl) (by intro X; rintro _ _ ⟨rfl, rfl⟩; exact op_nilCheck rfl),
                ⟨.w rfl rfl rfl (by rintro _ _ ⟨rfl, rfl⟩; rfl) (by intro X; rintro _ _ ⟨rfl, rfl⟩; exact op_fieldAddr (off := 3) rfl tF36_3k),
                ⟨.w rfl rfl rfl (by rintro _ _ ⟨rfl, rfl⟩; rfl) (by intro X; rintro _ _ ⟨rfl, rfl⟩; exact op_load1 rfl tO4k (Ent.app (Ent.app (Ent.fld hd1 3) X) _)),
                ⟨.w rfl rfl rfl (by rintro _ _ ⟨rfl, rfl⟩; rfl) (by intro X; exact op_move rfl),
                ⟨.w rfl rfl rfl (by rintro _ _ ⟨rfl, rfl⟩; rfl) (by intro X; rintro _ _ ⟨rfl, rfl⟩; exact op_nilCheck rfl),
                ⟨.w rfl rfl rfl (by rintro _ _ ⟨rfl, rfl⟩; rfl) (by intro X; rintro _ _ ⟨rfl, rfl⟩; exact op_fieldAddr (off := 3) rfl tF36_3k),
                ⟨.w rfl rfl rfl (by rintro _ _ ⟨rfl, rfl⟩; rfl) (by intro X; rintro _ _ ⟨rfl, rfl⟩; exact op_load1 rfl tO4k (Ent.app (Ent.app (Ent.fld hd2 3) X) _)),
                ⟨.w rfl rfl rfl (by rintro _ _ ⟨rfl, rfl⟩; rfl) (by intro X; rintro _ _ ⟨rfl, rfl⟩ _ _ ⟨rfl, rfl⟩; exact op_val (v' := .bool false) (by simp [h4]) (op_neB rfl rfl Try.underlying4)),
                ⟨.p rfl (by intro X; rintro _ _ ⟨rfl, rfl⟩ _ _ ⟨rfl, rfl⟩; exact op_pick_f rfl rfl),
                ⟨.p rfl (by intro X; rintro _ _ ⟨rfl, rfl⟩; exact op_move rfl),
                ⟨.w rfl rfl rfl (by rintro _ _ ⟨rfl, rfl⟩; rfl) (by intro X; exact op_move rfl),
                ⟨.w rfl rfl rfl (by rintro _ _ ⟨rfl, rfl⟩; rfl) (by intro X; rintro _ _ ⟨rfl, rfl⟩; exact op_nilCheck rfl),
                ⟨.w rfl rfl rfl (by rintro _ _ ⟨rfl, rfl⟩; rfl) (by intro X; rintro _ _ ⟨rfl, rfl⟩; exact op_fieldAddr (off := 1) rfl tF36_1k),
                ⟨.w rfl rfl rfl (by rintro _ _ ⟨rfl, rfl⟩; rfl) (by intro X; rintro _ _ ⟨rfl, rfl⟩; exact op_load1 rfl tO34k (Ent.app (Ent.app (Ent.fld hd1 1) X) _)),
                ⟨.w rfl rfl rfl (by rintro _ _ ⟨rfl, rfl⟩; rfl) (by intro X; rintro _ _ ⟨rfl, rfl⟩; exact op_lenT rfl tS34k (Sl.ent (Sl.app (Sl.app h1' X) _))),
                ⟨.w rfl rfl rfl (by rintro _ _ ⟨rfl, rfl⟩; rfl) (by intro X; exact op_move rfl),
                ⟨.w rfl rfl rfl (by rintro _ _ ⟨rfl, rfl⟩; rfl) (by intro X; rintro _ _ ⟨rfl, rfl⟩; exact op_nilCheck rfl),
                ⟨.w rfl rfl rfl (by rintro _ _ ⟨rfl, rfl⟩; rfl) (by intro X; rintro _ _ ⟨rfl, rfl⟩; exact op_fieldAddr (off := 1) rfl tF36_1k),
                ⟨.w rfl rfl rfl (by rintro _ _ ⟨rfl, rfl⟩; rfl) (by intro X; rintro _ _ ⟨rfl, rfl⟩; exact op_load1 rfl tO34k (Ent.app (Ent.app (Ent.fld hd2 1) X) _)),
                ⟨.w rfl rfl rfl (by rintro _ _ ⟨rfl, rfl⟩; rfl) (by intro X; rintro _ _ ⟨rfl, rfl⟩; exact op_lenT rfl tS34k (Sl.ent (Sl.app (Sl.app h2' X) _))),
                ⟨.w rfl rfl rfl (by rintro _ _ ⟨rfl, rfl⟩; rfl) (by intro X; rintro _ _ ⟨rfl, rfl⟩ _ _ ⟨rfl, rfl⟩; exact op_val (v' := .bool true) (by simp [h5]; omega) (op_neq rfl rfl)),
                ⟨.p rfl (by intro X; rintro _ _ ⟨rfl, rfl⟩ _ _ ⟨rfl, rfl⟩; exact op_pick_f rfl rfl),
                trivial⟩⟩⟩⟩⟩⟩⟩⟩⟩⟩⟩⟩⟩⟩⟩⟩⟩⟩⟩⟩⟩⟩⟩⟩⟩⟩⟩⟩⟩⟩⟩⟩⟩⟩⟩⟩⟩⟩⟩⟩⟩⟩⟩⟩⟩⟩⟩⟩⟩⟩⟩⟩⟩⟩⟩)
                (fun β β' => ⟨fun _ => by rfl, ⟨fun _ => by rfl, ⟨fun _ => by rfl, ⟨fun _ => by rfl, ⟨fun _ => by rfl, ⟨fun _ => by rfl, ⟨fun _ => by rfl, ⟨fun _ => by rfl, ⟨fun _ => by rfl, ⟨fun _ => by rfl, ⟨fun _ => by rfl, ⟨fun _ => by rfl, ⟨fun _ => by rfl, ⟨fun _ => by rfl, ⟨fun _ => by rfl, ⟨fun _ => by rfl, ⟨fun _ => by rfl, ⟨fun _ => by rfl, ⟨fun _ => by rfl, ⟨fun _ => by rfl, ⟨fun _ => by rfl, ⟨fun _ => by rfl, ⟨fun _ => by rfl, ⟨fun _ => by rfl, ⟨fun _ => by rfl, ⟨fun _ => by rfl, ⟨fun _ => by rfl, ⟨fun _ => by rfl, ⟨fun _ => by rfl, ⟨fun _ => by rfl, ⟨fun _ => by rfl, ⟨fun _ => by rfl, ⟨fun _ => by rfl, ⟨fun _ => by rfl, ⟨fun _ => by rfl, ⟨fun _ => by rfl, ⟨fun _ => by rfl, ⟨fun _ => by rfl, ⟨fun _ => by rfl, ⟨fun _ => by rfl, ⟨fun _ => by rfl, ⟨fun _ => by rfl, ⟨fun _ => by rfl, ⟨fun _ => by rfl, ⟨fun _ => by rfl, ⟨fun _ => by rfl, ⟨fun _ => by rfl, ⟨fun _ => by rfl, ⟨fun _ => by rfl, ⟨fun _ => by rfl, ⟨fun _ => by rfl, ⟨fun _ => by rfl, ⟨fun _ => by rfl, ⟨fun _ => by rfl, ⟨fun _ => by rfl, trivial⟩⟩⟩⟩⟩⟩⟩⟩⟩⟩⟩⟩⟩⟩⟩⟩⟩⟩⟩⟩⟩⟩⟩⟩⟩⟩⟩⟩⟩⟩⟩⟩⟩⟩⟩⟩⟩⟩⟩⟩⟩⟩⟩⟩⟩⟩⟩⟩⟩⟩⟩⟩⟩⟩⟩) ?_
            intro β
            rintro _ _ ⟨rfl, rfl⟩ _ _ ⟨rfl, rfl⟩ _ _ ⟨rfl, rfl⟩ _ _ ⟨rfl, rfl⟩ _ _ ⟨rfl, rfl⟩ _ _ ⟨rfl, rfl⟩ _ _ ⟨rfl, rfl⟩ _ _ ⟨rfl, rfl⟩ _ _ ⟨rfl, rfl⟩ _ _ ⟨rfl, rfl⟩ _ _ ⟨rfl, rfl⟩ _ _ ⟨rfl, rfl⟩ _ _ ⟨rfl, rfl⟩ _ _ ⟨rfl, rfl⟩ _ _ ⟨rfl, rfl⟩ _ _ ⟨rfl, rfl⟩ _ _ ⟨rfl, rfl⟩ _ _ ⟨rfl, rfl⟩ _ _ ⟨rfl, rfl⟩ _ _ ⟨rfl, rfl⟩ _ _ ⟨rfl, rfl⟩ _ _ ⟨rfl, rfl⟩ _ _ ⟨rfl, rfl⟩ _ _ ⟨rfl, rfl⟩ _ _ ⟨rfl, rfl⟩ _ _ ⟨rfl, rfl⟩ _ _ ⟨rfl, rfl⟩ _ _ ⟨rfl, rfl⟩ _ _ ⟨rfl, rfl⟩ _ _ ⟨rfl, rfl⟩ _ _ ⟨rfl, rfl⟩ _ _ ⟨rfl, rfl⟩ _ _ ⟨rfl, rfl⟩ _ _ ⟨rfl, rfl⟩ _ _ ⟨rfl, rfl⟩ _ _ ⟨rfl, rfl⟩ _ _ ⟨rfl, rfl⟩ _ _ ⟨rfl, rfl⟩ _ _ ⟨rfl, rfl⟩ _ _ ⟨rfl, rfl⟩ _ _ ⟨rfl, rfl⟩ _ _ ⟨rfl, rfl⟩ _ _ ⟨rfl, rfl⟩ _ _ ⟨rfl, rfl⟩ _ _ ⟨rfl, rfl⟩ _ _ ⟨rfl, rfl⟩ _ _ ⟨rfl, rfl⟩ _ _ ⟨rfl, rfl⟩ _ _ ⟨rfl, rfl⟩ _ _ ⟨rfl, rfl⟩ _ _ ⟨rfl, rfl⟩ _ _ ⟨rfl, rfl⟩ _ _ ⟨rfl, rfl⟩ _ _ ⟨rfl, rfl⟩ _ _ ⟨rfl, rfl⟩
            refine wl_norm (e' := [(0, _), (1, _), (60, _)]) (.cons rfl (.cons rfl (.cons rfl (.nil _)))) (by dsimp only [cond_false, cond_true, List.nil_append, List.cons_append]) ?_
            refine wl_nil ?_
            refine st_tn ?_
            refine w_cond_t (rfl) ?_
            refine w_seq ?_
            refine w_region ?_
            refine wl_det rfl rfl rfl (op_assign rfl) ?_
            refine wl_nil ?_
            refine st_tn ?_
            refine w_ret ?_
            refine st_tr ?_
            refine st_ret (vs := [_]) [] Try.results32 ⟨rfl, trivial⟩ rfl ?_
            refine ⟨_, rfl, ?_⟩
            have : s.fs ≠ t.fs := fun e => h5 (by rw [e])
            exact ⟨by rw [dec_st2]; simp [retv, this], rfl⟩
        · -- h4-
          refine w_drawW (fun β => (⟨6, [], [], [], noW (_), false, [], []⟩ :: ⟨7, [0], [], [], noW (_), false, [], []⟩ :: ⟨8, [1], [], [], noW (_), false, [], []⟩ :: ⟨9, [2], [], [], noW (_), false, [], []⟩ :: ⟨10, [], [], [], noW (_), false, [], []⟩ :: ⟨11, [4], [], [], noW (_), false, [], []⟩ :: ⟨12, [5], [], [], noW (_), false, [], []⟩ :: ⟨13, [6], [], [], noW (_), false, [], []⟩ :: ⟨14, [3, 7], [], [], noW (_), false, [], []⟩ :: ⟨15, [8], [], [], noW (_), false, [], []⟩ :: ⟨16, [], [], [], noW (_), false, [], []⟩ :: ⟨17, [10], [], [], noW (_), false, [], []⟩ :: ⟨18, [11], [], [], noW (_), false, [], []⟩ :: ⟨19, [12], [], [], noW (_), false, [], []⟩ :: ⟨20, [], [], [], noW (_), false, [], []⟩ :: ⟨21, [14], [], [], noW (_), false, [], []⟩ :: ⟨22, [15], [], [], noW (_), false, [], []⟩ :: ⟨23, [16], [], [], noW (_), false, [], []⟩ :: ⟨24, [13, 17], [], [], noW (_), false, [], []⟩ :: ⟨25, [9, 18], [], [], noW (_), false, [], []⟩ :: ⟨26, [19], [], [], noW (_), false, [], []⟩ :: ⟨27, [], [], [], noW (_), false, [], []⟩ :: ⟨28, [21], [], [], noW (_), false, [], []⟩ :: ⟨29, [22], [], [], noW (_), false, [], []⟩ :: ⟨30, [23], [], [], noW (_), false, [], []⟩ :: ⟨31, [], [], [], noW (_), false, [], []⟩ :: ⟨32, [25], [], [], noW (_), false, [], []⟩ :: ⟨33, [26], [], [], noW (_), false, [], []⟩ :: ⟨34, [27], [], [], noW (_), false, [], []⟩ :: ⟨35, [24, 28], [], [], noW (_), false, [], []⟩ :: ⟨36, [20, 29], [], [], noW (_), false, [], []⟩ :: ⟨37, [30], [], [], noW (_), false, [], []⟩ :: ⟨38, [], [], [], noW (_), false, [], []⟩ :: ⟨39, [32], [], [], noW (_), false, [], []⟩ :: ⟨40, [33], [], [], noW (_), false, [], []⟩ :: ⟨41, [34], [], [], noW (_), false, [], []⟩ :: ⟨42, [], [], [], noW (_), false, [], []⟩ :: ⟨43, [36], [], [], noW (_), false, [], []⟩ :: ⟨44, [37], [], [], noW (_), false, [], []⟩ :: ⟨45, [38], [], [], noW (_), false, [], []⟩ :: ⟨46, [35, 39], [], [], noW (_), false, [], []⟩ :: ⟨47, [31, 40], [], [], noW (_), false, [], []⟩ :: ⟨48, [41], [], [], noW (_), false, [], []⟩ :: ⟨49, [], [], [], noW (Det undef), false, [], []⟩ :: ⟨50, [], [], [], noW (Det undef), false, [], []⟩ :: ⟨51, [], [], [], noW (Det undef), false, [], []⟩ :: ⟨52, [], [], [], noW (Det undef), false, [], []⟩ :: ⟨53, [], [], [], noW (Det undef), false, [], []⟩ :: ⟨54, [], [], [], noW (Det undef), false, [], []⟩ :: ⟨55, [], [], [], noW (Det undef), false, [], []⟩ :: ⟨56, [], [], [], noW (Det undef), false, [], []⟩ :: ⟨57, [], [], [], noW (Det undef), false, [], []⟩ :: ⟨58, [], [], [], noW (Det undef), false, [], []⟩ :: ⟨59, [], [], [], noW (Det undef), false, [], []⟩ :: ⟨60, [42, 53], [], [], noW (_), false, [], []⟩ :: [])) [] [0, 1] (⟨6, [], [], false, [], []⟩ :: ⟨7, [0], [], false, [], []⟩ :: ⟨8, [1], [], false, [], []⟩ :: ⟨9, [2], [], false, [], []⟩ :: ⟨10, [], [], false, [], []⟩ :: ⟨11, [4], [], false, [], []⟩ :: ⟨12, [5], [], false, [], []⟩ :: ⟨13, [6], [], false, [], []⟩ :: ⟨14, [3, 7], [], false, [], []⟩ :: ⟨15, [8], [], false, [], []⟩ :: ⟨16, [], [], false, [], []⟩ :: ⟨17, [10], [], false, [], []⟩ :: ⟨18, [11], [], false, [], []⟩ :: ⟨19, [12], [], false, [], []⟩ :: ⟨20, [], [], false, [], []⟩ :: ⟨21, [14], [], false, [], []⟩ :: ⟨22, [15], [], false, [], []⟩ :: ⟨23, [16], [], false, [], []⟩ :: ⟨24, [13, 17], [], false, [], []⟩ :: ⟨25, [9, 18], [], false, [], []⟩ :: ⟨26, [19], [], false, [], []⟩ :: ⟨27, [], [], false, [], []⟩ :: ⟨28, [21], [], false, [], []⟩ :: ⟨29, [22], [], false, [], []⟩ :: ⟨30, [23], [], false, [], []⟩ :: ⟨31, [], [], false, [], []⟩ :: ⟨32, [25], [], false, [], []⟩ :: ⟨33, [26], [], false, [], []⟩ :: ⟨34, [27], [], false, [], []⟩ :: ⟨35, [24, 28], [], false, [], []⟩ :: ⟨36, [20, 29], [], false, [], []⟩ :: ⟨37, [30], [], false, [], []⟩ :: ⟨38, [], [], false, [], []⟩ :: ⟨39, [32], [], false, [], []⟩ :: ⟨40, [33], [], false, [], []⟩ :: ⟨41, [34], [], false, [], []⟩ :: ⟨42, [], [], false, [], []⟩ :: ⟨43, [36], [], false, [], []⟩ :: ⟨44, [37], [], false, [], []⟩ :: ⟨45, [38], [], false, [], []⟩ :: ⟨46, [35, 39], [], false, [], []⟩ :: ⟨47, [31, 40], [], false, [], []⟩ :: ⟨48, [41], [], false, [], []⟩ :: ⟨49, [], [], false, [], []⟩ :: ⟨50, [], [], false, [], []⟩ :: ⟨51, [], [], false, [], []⟩ :: ⟨52, [], [], false, [], []⟩ :: ⟨53, [], [], false, [], []⟩ :: ⟨54, [], [], false, [], []⟩ :: ⟨55, [], [], false, [], []⟩ :: ⟨56, [], [], false, [], []⟩ :: ⟨57, [], [], false, [], []⟩ :: ⟨58, [], [], false, [], []⟩ :: ⟨59, [], [], false, [], []⟩ :: ⟨60, [42, 53], [], false, [], []⟩ :: []) ([] :: [] :: [] :: [] :: [] :: [] :: [] :: [] :: [] :: [] :: [] :: [] :: [] :: [] :: [] :: [] :: [] :: [] :: [] :: [] :: [] :: [] :: [] :: [] :: [] :: [] :: [] :: [] :: [] :: [] :: [] :: [] :: [] :: [] :: [] :: [] :: [] :: [] :: [] :: [] :: [] :: [] :: [] :: [] :: [] :: [] :: [] :: [] :: [] :: [] :: [] :: [] :: [] :: [] :: [] :: []) ([] :: [] :: [] :: [] :: [] :: [] :: [] :: [] :: [] :: [] :: [] :: [] :: [] :: [] :: [] :: [] :: [] :: [] :: [] :: [] :: [] :: [] :: [] :: [] :: [] :: [] :: [] :: [] :: [] :: [] :: [] :: [] :: [] :: [] :: [] :: [] :: [] :: [] :: [] :: [] :: [] :: [] :: [] :: [] :: [] :: [] :: [] :: [] :: [] :: [] :: [] :: [] :: [] :: [] :: [] :: []) tMixk (fun _ => by rfl) (fun _ => by rfl) (by kernel_rfl) (by kernel_rfl) (by rfl) (by rfl)
              (fun β => ⟨.p rfl (by intro X; exact op_move rfl),
              ⟨.p rfl (by intro X; rintro _ _ ⟨rfl, rfl⟩; exact op_nilCheck rfl),
              ⟨.p rfl (by intro X; rintro _ _ ⟨rfl, rfl⟩; exact op_fieldAddr (off := 0) rfl tF36_0k),
              ⟨.p rfl (by intro X; rintro _ _ ⟨rfl, rfl⟩; exact op_load1 rfl tO3k (Ent.app (Ent.app (Ent.fld hd1 0) X) _)),
              ⟨.p rfl (by intro X; exact op_move rfl),
              ⟨.p rfl (by intro X; rintro _ _ ⟨rfl, rfl⟩; exact op_nilCheck rfl),
              ⟨.p rfl (by intro X; rintro _ _ ⟨rfl, rfl⟩; exact op_fieldAddr (off := 0) rfl tF36_0k),
              ⟨.p rfl (by intro X; rintro _ _ ⟨rfl, rfl⟩; exact op_load1 rfl tO3k (Ent.app (Ent.app (Ent.fld hd2 0) X) _)),
              ⟨.p rfl (by intro X; rintro _ _ ⟨rfl, rfl⟩ _ _ ⟨rfl, rfl⟩; exact op_val (v' := .bool false) (by simp [h1]) (op_neq rfl rfl)),
              ⟨.p rfl (by intro X; rintro _ _ ⟨rfl, rfl⟩; exact op_move rfl),
              ⟨.w rfl rfl rfl (by rintro _ _ ⟨rfl, rfl⟩; rfl) (by intro X; exact op_move rfl),
              ⟨.w rfl rfl rfl (by rintro _ _ ⟨rfl, rfl⟩; rfl) (by intro X; rintro _ _ ⟨rfl, rfl⟩; exact op_nilCheck rfl),
              ⟨.w rfl rfl rfl (by rintro _ _ ⟨rfl, rfl⟩; rfl) (by intro X; rintro _ _ ⟨rfl, rfl⟩; exact op_fieldAddr (off := 2) rfl tF36_2k),
              ⟨.w rfl rfl rfl (by rintro _ _ ⟨rfl, rfl⟩; rfl) (by intro X; rintro _ _ ⟨rfl, rfl⟩; exact op_load1 rfl tO4k (Ent.app (Ent.app (Ent.fld hd1 2) X) _)),
              ⟨.w rfl rfl rfl (by rintro _ _ ⟨rfl, rfl⟩; rfl) (by intro X; exact op_move rfl),
              ⟨.w rfl rfl rfl (by rintro _ _ ⟨rfl, rfl⟩; rfl) (by intro X; rintro _ _ ⟨rfl, rfl⟩; exact op_nilCheck rfl),
              ⟨.w rfl rfl rfl (by rintro _ _ ⟨rfl, rfl⟩; rfl) (by intro X; rintro _ _ ⟨rfl, rfl⟩; exact op_fieldAddr (off := 2) rfl tF36_2k),
              ⟨.w rfl rfl rfl (by rintro _ _ ⟨rfl, rfl⟩; rfl) (by intro X; rintro _ _ ⟨rfl, rfl⟩; exact op_load1 rfl tO4k (Ent.app (Ent.app (Ent.fld hd2 2) X) _)),
              ⟨.w rfl rfl rfl (by rintro _ _ ⟨rfl, rfl⟩; rfl) (by intro X; rintro _ _ ⟨rfl, rfl⟩ _ _ ⟨rfl, rfl⟩; exact op_val (v' := .bool false) (by simp [h2]) (op_neB rfl rfl Try.underlying4)),
              ⟨.p rfl (by intro X; rintro _ _ ⟨rfl, rfl⟩ _ _ ⟨rfl, rfl⟩; exact op_pick_f rfl rfl),
              ⟨.p rfl (by intro X; rintro _ _ ⟨rfl, rfl⟩; exact op_move rfl),
              ⟨.w rfl rfl rfl (by rintro _ _ ⟨rfl, rfl⟩; rfl) (by intro X; exact op_move rfl),
              ⟨.w rfl rfl rfl (by rintro _ _ ⟨rfl, rfl⟩; rfl) (by intro X; rintro _ _ ⟨rfl, rfl⟩; exact op_nilCheck rfl),
              ⟨.w rfl rfl rfl (by rintro _ _ ⟨rfl, rfl⟩; rfl) (by intro X; rintro _ _ ⟨rfl, rfl⟩; exact op_fieldAddr (off := 4) rfl tF36_4k),
              ⟨.w rfl rfl rfl (by rintro _ _ ⟨rfl, rfl⟩; rfl) (by intro X; rintro _ _ ⟨rfl, rfl⟩; exact op_load1 rfl tO3k (Ent.app (Ent.app (Ent.fld hd1 4) X) _)),
              ⟨.w rfl rfl rfl (by rintro _ _ ⟨rfl, rfl⟩; rfl) (by intro X; exact op_move rfl),
              ⟨.w rfl rfl rfl (by rintro _ _ ⟨rfl, rfl⟩; rfl) (by intro X; rintro _ _ ⟨rfl, rfl⟩; exact op_nilCheck rfl),
              ⟨.w rfl rfl rfl (by rintro _ _ ⟨rfl, rfl⟩; rfl) (by intro X; rintro _ _ ⟨rfl, rfl⟩; exact op_fieldAddr (off := 4) rfl tF36_4k),
              ⟨.w rfl rfl rfl (by rintro _ _ ⟨rfl, rfl⟩; rfl) (by intro X; rintro _ _ ⟨rfl, rfl⟩; exact op_load1 rfl tO3k (Ent.app (Ent.app (Ent.fld hd2 4) X) _)),
              ⟨.w rfl rfl rfl (by rintro _ _ ⟨rfl, rfl⟩; rfl) (by intro X; rintro _ _ ⟨rfl, rfl⟩ _ _ ⟨rfl, rfl⟩; exact op_val (v' := .bool false) (by simp [h3]) (op_neq rfl rfl)),
              ⟨.p rfl (by intro X; rintro _ _ ⟨rfl, rfl⟩ _ _ ⟨rfl, rfl⟩; exact op_pick_f rfl rfl),
              ⟨.p rfl (by intro X; rintro _ _ ⟨rfl, rfl⟩; exact op_move rfl),
              ⟨.w rfl rfl rfl (by rintro _ _ ⟨rfl, rfl⟩; rfl) (by intro X; exact op_move rfl),
              ⟨.w rfl rfl rfl (by rintro _ _ ⟨rfl, rfl⟩; rfl) (by intro X; rintro _ _ ⟨rfl, rfl⟩; exact op_nilCheck rfl),
              ⟨.w rfl rfl rfl (by rintro _ _ ⟨rfl, rfl⟩; rfl) (by intro X; rintro _ _ ⟨rfl, rfl⟩; exact op_fieldAddr (off := 3) rfl tF36_3k),
              ⟨.w rfl rfl rfl (by rintro _ _ ⟨rfl, rfl⟩; rfl) (by intro X; rintro _ _ ⟨rfl, rfl⟩; exact op_load1 rfl tO4k (Ent.app (Ent.app (Ent.fld hd1 3) X) _)),
              ⟨.w rfl rfl rfl (by rintro _ _ ⟨rfl, rfl⟩; rfl) (by intro X; exact op_move rfl),
              ⟨.w rfl rfl rfl (by rintro _ _ ⟨rfl, rfl⟩; rfl) (by intro X; rintro _ _ ⟨rfl, rfl⟩; exact op_nilCheck rfl),
              ⟨.w rfl rfl rfl (by rintro _ _ ⟨rfl, rfl⟩; rfl) (by intro X; rintro _ _ ⟨rfl, rfl⟩; exact op_fieldAddr (off := 3) rfl tF36_3k),
              ⟨.w rfl rfl rfl (by rintro _ _ ⟨rfl, rfl⟩; rfl) (by intro X; rintro _ _ ⟨rfl, rfl⟩; exact op_load1 rfl tO4k (Ent.app (Ent.app (Ent.fld hd2 3) X) _)),
              ⟨.w rfl rfl rfl (by rintro _ _ ⟨rfl, rfl⟩; rfl) (by intro X; rintro _ _ ⟨rfl, rfl⟩ _ _ ⟨rfl, rfl⟩; exact op_val (v' := .bool true) (by simp [h4]) (op_neB rfl rfl Try.underlying4)),
              ⟨.p rfl (by intro X; rintro _ _ ⟨rfl, rfl⟩ _ _ ⟨rfl, rfl⟩; exact op_pick_f rfl rfl),
              ⟨.p rfl (by intro X; rintro _ _ ⟨rfl, rfl⟩; exact op_move rfl),
              ⟨.u rfl rfl rfl (by rintro _ _ ⟨rfl, rfl⟩; exact congrArg (offB false) (by rfl : _ = Value.bool true)) ⟨rfl, rfl⟩ rfl rfl,
              ⟨.u rfl rfl rfl (by rintro _ _ ⟨rfl, rfl⟩; exact congrArg (offB false) (by rfl : _ = Value.bool true)) ⟨rfl, rfl⟩ rfl rfl,
              ⟨.u rfl rfl rfl (by rintro _ _ ⟨rfl, rfl⟩; exact congrArg (offB false) (by rfl : _ = Value.bool true)) ⟨rfl, rfl⟩ rfl rfl,
              ⟨.u rfl rfl rfl (by rintro _ _ ⟨rfl, rfl⟩; exact congrArg (offB false) (by rfl : _ = Value.bool true)) ⟨rfl, rfl⟩ rfl rfl,
              ⟨.u rfl rfl rfl (by rintro _ _ ⟨rfl, rfl⟩; exact congrArg (offB false) (by rfl : _ = Value.bool true)) ⟨rfl, rfl⟩ rfl rfl,
              ⟨.u rfl rfl rfl (by rintro _ _ ⟨rfl, rfl⟩; exact congrArg (offB false) (by rfl : _ = Value.bool true)) ⟨rfl, rfl⟩ rfl rfl,
              ⟨.u rfl rfl rfl (by rintro _ _ ⟨rfl, rfl⟩; exact congrArg (offB false) (by rfl : _ = Value.bool true)) ⟨rfl, rfl⟩ rfl rfl,
              ⟨.u rfl rfl rfl (by rintro _ _ ⟨rfl, rfl⟩; exact congrArg (offB false) (by rfl : _ = Value.bool true)) ⟨rfl, rfl⟩ rfl rfl,
              ⟨.u rfl rfl rfl (by rintro _ _ ⟨rfl, rfl⟩; exact congrArg (offB false) (by rfl : _ = Value.bool true)) ⟨rfl, rfl⟩ rfl rfl,
              ⟨.u rfl rfl rfl (by rintro _ _ ⟨rfl, rfl⟩; exact congrArg (offB false) (by rfl : _ = Value.bool true)) ⟨rfl, rfl⟩ rfl rfl,
              ⟨.u rfl rfl rfl (by rintro _ _ ⟨rfl, rfl⟩; exact congrArg (offB false) (by rfl : _ = Value.bool true)) ⟨rfl, rfl⟩ rfl rfl,
              ⟨.p rfl (by intro X; rintro _ _ ⟨rfl, rfl⟩ _ _ ⟨rfl, rfl⟩; exact op_pick_t rfl rfl),
              trivial⟩⟩⟩⟩⟩⟩⟩⟩⟩⟩⟩⟩⟩⟩⟩⟩⟩⟩⟩⟩⟩⟩⟩⟩⟩⟩⟩⟩⟩⟩⟩⟩⟩⟩⟩⟩⟩⟩⟩⟩⟩⟩⟩⟩⟩⟩⟩⟩⟩⟩⟩⟩⟩⟩⟩)
              (fun β β' => ⟨fun _ => by rfl, ⟨fun _ => by rfl, ⟨fun _ => by rfl, ⟨fun _ => by rfl, ⟨fun _ => by rfl, ⟨fun _ => by rfl, ⟨fun _ => by rfl, ⟨fun _ => by rfl, ⟨fun _ => by rfl, ⟨fun _ => by rfl, ⟨fun _ => by rfl, ⟨fun _ => by rfl, ⟨fun _ => by rfl, ⟨fun _ => by rfl, ⟨fun _ => by rfl, ⟨fun _ => by rfl, ⟨fun _ => by rfl, ⟨fun _ => by rfl, ⟨fun _ => by rfl, ⟨fun _ => by rfl, ⟨fun _ => by rfl, ⟨fun _ => by rfl, ⟨fun _ => by rfl, ⟨fun _ => by rfl, ⟨fun _ => by rfl, ⟨fun _ => by rfl, ⟨fun _ => by rfl, ⟨fun _ => by rfl, ⟨fun _ => by rfl, ⟨fun _ => by rfl, ⟨fun _ => by rfl, ⟨fun _ => by rfl, ⟨fun _ => by rfl, ⟨fun _ => by rfl, ⟨fun _ => by rfl, ⟨fun _ => by rfl, ⟨fun _ => by rfl, ⟨fun _ => by rfl, ⟨fun _ => by rfl, ⟨fun _ => by rfl, ⟨fun _ => by rfl, ⟨fun _ => by rfl, ⟨fun _ => by rfl, ⟨fun _ => by rfl, ⟨fun _ => by rfl, ⟨fun _ => by rfl, ⟨fun _ => by rfl, ⟨fun _ => by rfl, ⟨fun _ => by rfl, ⟨fun _ => by rfl, ⟨fun _ => by rfl, ⟨fun _ => by rfl, ⟨fun _ => by rfl, ⟨fun _ => by rfl, ⟨fun _ => by rfl, trivial⟩⟩⟩⟩⟩⟩⟩⟩⟩⟩⟩⟩⟩⟩⟩⟩⟩⟩⟩⟩⟩⟩⟩⟩⟩⟩⟩⟩⟩⟩⟩⟩⟩⟩⟩⟩⟩⟩⟩⟩⟩⟩⟩⟩⟩⟩⟩⟩⟩⟩⟩⟩⟩⟩⟩) ?_
          intro β
          rintro _ _ ⟨rfl, rfl⟩ _ _ ⟨rfl, rfl⟩ _ _ ⟨rfl, rfl⟩ _ _ ⟨rfl, rfl⟩ _ _ ⟨rfl, rfl⟩ _ _ ⟨rfl, rfl⟩ _ _ ⟨rfl, rfl⟩ _ _ ⟨rfl, rfl⟩ _ _ ⟨rfl, rfl⟩ _ _ ⟨rfl, rfl⟩ _ _ ⟨rfl, rfl⟩ _ _ ⟨rfl, rfl⟩ _ _ ⟨rfl, rfl⟩ _ _ ⟨rfl, rfl⟩ _ _ ⟨rfl, rfl⟩ _ _ ⟨rfl, rfl⟩ _ _ ⟨rfl, rfl⟩ _ _ ⟨rfl, rfl⟩ _ _ ⟨rfl, rfl⟩ _ _ ⟨rfl, rfl⟩ _ _ ⟨rfl, rfl⟩ _ _ ⟨rfl, rfl⟩ _ _ ⟨rfl, rfl⟩ _ _ ⟨rfl, rfl⟩ _ _ ⟨rfl, rfl⟩ _ _ ⟨rfl, rfl⟩ _ _ ⟨rfl, rfl⟩ _ _ ⟨rfl, rfl⟩ _ _ ⟨rfl, rfl⟩ _ _ ⟨rfl, rfl⟩ _ _ ⟨rfl, rfl⟩ _ _ ⟨rfl, rfl⟩ _ _ ⟨rfl, rfl⟩ _ _ ⟨rfl, rfl⟩ _ _ ⟨rfl, rfl⟩ _ _ ⟨rfl, rfl⟩ _ _ ⟨rfl, rfl⟩ _ _ ⟨rfl, rfl⟩ _ _ ⟨rfl, rfl⟩ _ _ ⟨rfl, rfl⟩ _ _ ⟨rfl, rfl⟩ _ _ ⟨rfl, rfl⟩ _ _ ⟨rfl, rfl⟩ _ _ ⟨rfl, rfl⟩ _ _ ⟨rfl, rfl⟩ _ _ ⟨rfl, rfl⟩ _ _ ⟨rfl, rfl⟩ _ _ ⟨rfl, rfl⟩ _ _ ⟨rfl, rfl⟩ _ _ ⟨rfl, rfl⟩ _ _ ⟨rfl, rfl⟩ _ _ ⟨rfl, rfl⟩ _ _ ⟨rfl, rfl⟩ _ _ ⟨rfl, rfl⟩ _ _ ⟨rfl, rfl⟩
          refine wl_norm (e' := [(0, _), (1, _), (60, _)]) (.cons rfl (.cons rfl (.cons rfl (.nil _)))) (by dsimp only [cond_false, cond_true, List.nil_append, List.cons_append]) ?_
          refine wl_nil ?_
          refine st_tn ?_
          refine w_cond_t (rfl) ?_
          refine w_seq ?_
          refine w_region ?_
          refine wl_det rfl rfl rfl (op_assign rfl) ?_
          refine wl_nil ?_
          refine st_tn ?_
          refine w_ret ?_
          refine st_tr ?_
          refine st_ret (vs := [_]) [] Try.results32 ⟨rfl, trivial⟩ rfl ?_
          refine ⟨_, rfl, ?_⟩
          exact ⟨by rw [dec_st2]; simp [retv, h4], rfl⟩
      · -- h3-
        refine w_drawW (fun β => (⟨6, [], [], [], noW (_), false, [], []⟩ :: ⟨7, [0], [], [], noW (_), false, [], []⟩ :: ⟨8, [1], [], [], noW (_), false, [], []⟩ :: ⟨9, [2], [], [], noW (_), false, [], []⟩ :: ⟨10, [], [], [], noW (_), false, [], []⟩ :: ⟨11, [4], [], [], noW (_), false, [], []⟩ :: ⟨12, [5], [], [], noW (_), false, [], []⟩ :: ⟨13, [6], [], [], noW (_), false, [], []⟩ :: ⟨14, [3, 7], [], [], noW (_), false, [], []⟩ :: ⟨15, [8], [], [], noW (_), false, [], []⟩ :: ⟨16, [], [], [], noW (_), false, [], []⟩ :: ⟨17, [10], [], [], noW (_), false, [], []⟩ :: ⟨18, [11], [], [], noW (_), false, [], []⟩ :: ⟨19, [12], [], [], noW (_), false, [], []⟩ :: ⟨20, [], [], [], noW (_), false, [], []⟩ :: ⟨21, [14], [], [], noW (_), false, [], []⟩ :: ⟨22, [15], [], [], noW (_), false, [], []⟩ :: ⟨23, [16], [], [], noW (_), false, [], []⟩ :: ⟨24, [13, 17], [], [], noW (_), false, [], []⟩ :: ⟨25, [9, 18], [], [], noW (_), false, [], []⟩ :: ⟨26, [19], [], [], noW (_), false, [], []⟩ :: ⟨27, [], [], [], noW (_), false, [], []⟩ :: ⟨28, [21], [], [], noW (_), false, [], []⟩ :: ⟨29, [22], [], [], noW (_), false, [], []⟩ :: ⟨30, [23], [], [], noW (_), false, [], []⟩ :: ⟨31, [], [], [], noW (_), false, [], []⟩ :: ⟨32, [25], [], [], noW (_), false, [], []⟩ :: ⟨33, [26], [], [], noW (_), false, [], []⟩ :: ⟨34, [27], [], [], noW (_), false, [], []⟩ :: ⟨35, [24, 28], [], [], noW (_), false, [], []⟩ :: ⟨36, [20, 29], [], [], noW (_), false, [], []⟩ :: ⟨37, [30], [], [], noW (_), false, [], []⟩ :: ⟨38, [], [], [], noW (Det undef), false, [], []⟩ :: ⟨39, [], [], [], noW (Det undef), false, [], []⟩ :: ⟨40, [], [], [], noW (Det undef), false, [], []⟩ :: ⟨41, [], [], [], noW (Det undef), false, [], []⟩ :: ⟨42, [], [], [], noW (Det undef), false, [], []⟩ :: ⟨43, [], [], [], noW (Det undef), false, [], []⟩ :: ⟨44, [], [], [], noW (Det undef), false, [], []⟩ :: ⟨45, [], [], [], noW (Det undef), false, [], []⟩ :: ⟨46, [], [], [], noW (Det undef), false, [], []⟩ :: ⟨47, [31, 40], [], [], noW (_), false, [], []⟩ :: ⟨48, [41], [], [], noW (_), false, [], []⟩ :: ⟨49, [], [], [], noW (Det undef), false, [], []⟩ :: ⟨50, [], [], [], noW (Det undef), false, [], []⟩ :: ⟨51, [], [], [], noW (Det undef), false, [], []⟩ :: ⟨52, [], [], [], noW (Det undef), false, [], []⟩ :: ⟨53, [], [], [], noW (Det undef), false, [], []⟩ :: ⟨54, [], [], [], noW (Det undef), false, [], []⟩ :: ⟨55, [], [], [], noW (Det undef), false, [], []⟩ :: ⟨56, [], [], [], noW (Det undef), false, [], []⟩ :: ⟨57, [], [], [], noW (Det undef), false, [], []⟩ :: ⟨58, [], [], [], noW (Det undef), false, [], []⟩ :: ⟨59, [], [], [], noW (Det undef), false, [], []⟩ :: ⟨60, [42, 53], [], [], noW (_), false, [], []⟩ :: [])) [] [0, 1] (⟨6, [], [], false, [], []⟩ :: ⟨7, [0], [], false, [], []⟩ :: ⟨8, [1], [], false, [], []⟩ :: ⟨9, [2], [], false, [], []⟩ :: ⟨10, [], [], false, [], []⟩ :: ⟨11, [4], [], false, [], []⟩ :: ⟨12, [5], [], false, [], []⟩ :: ⟨13, [6], [], false, [], []⟩ :: ⟨14, [3, 7], [], false, [], []⟩ :: ⟨15, [8], [], false, [], []⟩ :: ⟨16, [], [], false, [], []⟩ :: ⟨17, [10], [], false, [], []⟩ :: ⟨18, [11], [], false, [], []⟩ :: ⟨19, [12], [], false, [], []⟩ :: ⟨20, [], [], false, [], []⟩ :: ⟨21, [14], [], false, [], []⟩ :: ⟨22, [15], [], false, [], []⟩ :: ⟨23, [16], [], false, [], []⟩ :: ⟨24, [13, 17], [], false, [], []⟩ :: ⟨25, [9, 18], [], false, [], []⟩ :: ⟨26, [19], [], false, [], []⟩ :: ⟨27, [], [], false, [], []⟩ :: ⟨28, [21], [], false, [], []⟩ :: ⟨29, [22], [], false, [], []⟩ :: ⟨30, [23], [], false, [], []⟩ :: ⟨31, [], [], false, [], []⟩ :: ⟨32, [25], [], false, [], []⟩ :: ⟨33, [26], [], false, [], []⟩ :: ⟨34, [27], [], false, [], []⟩ :: ⟨35, [24, 28], [], false, [], []⟩ :: ⟨36, [20, 29], [], false, [], []⟩ :: ⟨37, [30], [], false, [], []⟩ :: ⟨38, [], [], false, [], []⟩ :: ⟨39, [], [], false, [], []⟩ :: ⟨40, [], [], false, [], []⟩ :: ⟨41, [], [], false, [], []⟩ :: ⟨42, [], [], false, [], []⟩ :: ⟨43, [], [], false, [], []⟩ :: ⟨44, [], [], false, [], []⟩ :: ⟨45, [], [], false, [], []⟩ :: ⟨46, [], [], false, [], []⟩ :: ⟨47, [31, 40], [], false, [], []⟩ :: ⟨48, [41], [], false, [], []⟩ :: ⟨49, [], [], false, [], []⟩ :: ⟨50, [], [], false, [], []⟩ :: ⟨51, [], [], false, [], []⟩ :: ⟨52, [], [], false, [], []⟩ :: ⟨53, [], [], false, [], []⟩ :: ⟨54, [], [], false, [], []⟩ :: ⟨55, [], [], false, [], []⟩ :: ⟨56, [], [], false, [], []⟩ :: ⟨57, [], [], false, [], []⟩ :: ⟨58, [], [], false, [], []⟩ :: ⟨59, [], [], false, [], []⟩ :: ⟨60, [42, 53], [], false, [], []⟩ :: []) ([] :: [] :: [] :: [] :: [] :: [] :: [] :: [] :: [] :: [] :: [] :: [] :: [] :: [] :: [] :: [] :: [] :: [] :: [] :: [] :: [] :: [] :: [] :: [] :: [] :: [] :: [] :: [] :: [] :: [] :: [] :: [] :: [] :: [] :: [] :: [] :: [] :: [] :: [] :: [] :: [] :: [] :: [] :: [] :: [] :: [] :: [] :: [] :: [] :: [] :: [] :: [] :: [] :: [] :: [] :: []) ([] :: [] :: [] :: [] :: [] :: [] :: [] :: [] :: [] :: [] :: [] :: [] :: [] :: [] :: [] :: [] :: [] :: [] :: [] :: [] :: [] :: [] :: [] :: [] :: [] :: [] :: [] :: [] :: [] :: [] :: [] :: [] :: [] :: [] :: [] :: [] :: [] :: [] :: [] :: [] :: [] :: [] :: [] :: [] :: [] :: [] :: [] :: [] :: [] :: [] :: [] :: [] :: [] :: [] :: [] :: []) tMixk (fun _ => by rfl) (fun _ => by rfl) (by kernel_rfl) (by kernel_rfl) (by rfl) (by rfl)
            (fun β => ⟨.p rfl (by intro X; exact op_move rfl),
            ⟨.p rfl (by intro X; rintro _ _ ⟨rfl, rfl⟩; exact op_nilCheck rfl),
            ⟨.p rfl (by intro X; rintro _ _ ⟨rfl, rfl⟩; exact op_fieldAddr (off := 0) rfl tF36_0k),
            ⟨.p rfl (by intro X; rintro _ _ ⟨rfl, rfl⟩; exact op_load1 rfl tO3k (Ent.app (Ent.app (Ent.fld hd1 0) X) _)),
            ⟨.p rfl (by intro X; exact op_move rfl),
            ⟨.p rfl (by intro X; rintro _ _ ⟨rfl, rfl⟩; exact op_nilCheck rfl),
            ⟨.p rfl (by intro X; rintro _ _ ⟨rfl, rfl⟩; exact op_fieldAddr (off := 0) rfl tF36_0k),
            ⟨.p rfl (by intro X; rintro _ _ ⟨rfl, rfl⟩; exact op_load1 rfl tO3k (Ent.app (Ent.app (Ent.fld hd2 0) X) _)),
            ⟨.p rfl (by intro X; rintro _ _ ⟨rfl, rfl⟩ _ _ ⟨rfl, rfl⟩; exact op_val (v' := .bool false) (by simp [h1]) (op_neq rfl rfl)),
            ⟨.p rfl (by intro X; rintro _ _ ⟨rfl, rfl⟩; exact op_move rfl),
            ⟨.w rfl rfl rfl (by rintro _ _ ⟨rfl, rfl⟩; rfl) (by intro X; exact op_move rfl),
            ⟨.w rfl rfl rfl (by rintro _ _ ⟨rfl, rfl⟩; rfl) (by intro X; rintro _ _ ⟨rfl, rfl⟩; exact op_nilCheck rfl),
            ⟨.w rfl rfl rfl (by rintro _ _ ⟨rfl, rfl⟩; rfl) (by intro X; rintro _ _ ⟨rfl, rfl⟩; exact op_fieldAddr (off := 2) rfl tF36_2k),
            ⟨.w rfl rfl rfl (by rintro _ _ ⟨rfl, rfl⟩; rfl) (by intro X; rintro _ _ ⟨rfl, rfl⟩; exact op_load1 rfl tO4k (Ent.app (Ent.app (Ent.fld hd1 2) X) _)),
            ⟨.w rfl rfl rfl (by rintro _ _ ⟨rfl, rfl⟩; rfl) (by intro X; exact op_move rfl),
            ⟨.w rfl rfl rfl (by rintro _ _ ⟨rfl, rfl⟩; rfl) (by intro X; rintro _ _ ⟨rfl, rfl⟩; exact op_nilCheck rfl),
            ⟨.w rfl rfl rfl (by rintro _ _ ⟨rfl, rfl⟩; rfl) (by intro X; rintro _ _ ⟨rfl, rfl⟩; exact op_fieldAddr (off := 2) rfl tF36_2k),
            ⟨.w rfl rfl rfl (by rintro _ _ ⟨rfl, rfl⟩; rfl) (by intro X; rintro _ _ ⟨rfl, rfl⟩; exact op_load1 rfl tO4k (Ent.app (Ent.app (Ent.fld hd2 2) X) _)),
            ⟨.w rfl rfl rfl (by rintro _ _ ⟨rfl, rfl⟩; rfl) (by intro X; rintro _ _ ⟨rfl, rfl⟩ _ _ ⟨rfl, rfl⟩; exact op_val (v' := .bool false) (by simp [h2]) (op_neB rfl rfl Try.underlying4)),
            ⟨.p rfl (by intro X; rintro _ _ ⟨rfl, rfl⟩ _ _ ⟨rfl, rfl⟩; exact op_pick_f rfl rfl),
            ⟨.p rfl (by intro X; rintro _ _ ⟨rfl, rfl⟩; exact op_move rfl),
            ⟨.w rfl rfl rfl (by rintro _ _ ⟨rfl, rfl⟩; rfl) (by intro X; exact op_move rfl),
            ⟨.w rfl rfl rfl (by rintro _ _ ⟨rfl, rfl⟩; rfl) (by intro X; rintro _ _ ⟨rfl, rfl⟩; exact op_nilCheck rfl),
            ⟨.w rfl rfl rfl (by rintro _ _ ⟨rfl, rfl⟩; rfl) (by intro X; rintro _ _ ⟨rfl, rfl⟩; exact op_fieldAddr (off := 4) rfl tF36_4k),
            ⟨.w rfl rfl rfl (by rintro _ _ ⟨rfl, rfl⟩; rfl) (by intro X; rintro _ _ ⟨rfl, rfl⟩; exact op_load1 rfl tO3k (Ent.app (Ent.app (Ent.fld hd1 4) X) _)),
            ⟨.w rfl rfl rfl (by rintro _ _ ⟨rfl, rfl⟩; rfl) (by intro X; exact op_move rfl),
            ⟨.w rfl rfl rfl (by rintro _ _ ⟨rfl, rfl⟩; rfl) (by intro X; rintro _ _ ⟨rfl, rfl⟩; exact op_nilCheck rfl),
            ⟨.w rfl rfl rfl (by rintro _ _ ⟨rfl, rfl⟩; rfl) (by intro X; rintro _ _ ⟨rfl, rfl⟩; exact op_fieldAddr (off := 4) rfl tF36_4k),
            ⟨.w rfl rfl rfl (by rintro _ _ ⟨rfl, rfl⟩; rfl) (by intro X; rintro _ _ ⟨rfl, rfl⟩; exact op_load1 rfl tO3k (Ent.app (Ent.app (Ent.fld hd2 4) X) _)),
            ⟨.w rfl rfl rfl (by rintro _ _ ⟨rfl, rfl⟩; rfl) (by intro X; rintro _ _ ⟨rfl, rfl⟩ _ _ ⟨rfl, rfl⟩; exact op_val (v' := .bool true) (by simp [h3]) (op_neq rfl rfl)),
            ⟨.p rfl (by intro X; rintro _ _ ⟨rfl, rfl⟩ _ _ ⟨rfl, rfl⟩; exact op_pick_f rfl rfl),
            ⟨.p rfl (by intro X; rintro _ _ ⟨rfl, rfl⟩; exact op_move rfl),
            ⟨.u rfl rfl rfl (by rintro _ _ ⟨rfl, rfl⟩; exact congrArg (offB false) (by rfl : _ = Value.bool true)) ⟨rfl, rfl⟩ rfl rfl,
            ⟨.u rfl rfl rfl (by rintro _ _ ⟨rfl, rfl⟩; exact congrArg (offB false) (by rfl : _ = Value.bool true)) ⟨rfl, rfl⟩ rfl rfl,
            ⟨.u rfl rfl rfl (by rintro _ _ ⟨rfl, rfl⟩; exact congrArg (offB false) (by rfl : _ = Value.bool true)) ⟨rfl, rfl⟩ rfl rfl,
            ⟨.u rfl rfl rfl (by rintro _ _ ⟨rfl, rfl⟩; exact congrArg (offB false) (by rfl : _ = Value.bool true)) ⟨rfl, rfl⟩ rfl rfl,
            ⟨.u rfl rfl rfl (by rintro _ _ ⟨rfl, rfl⟩; exact congrArg (offB false) (by rfl : _ = Value.bool true)) ⟨rfl, rfl⟩ rfl rfl,
            ⟨.u rfl rfl rfl (by rintro _ _ ⟨rfl, rfl⟩; exact congrArg (offB false) (by rfl : _ = Value.bool true)) ⟨rfl, rfl⟩ rfl rfl,
            ⟨.u rfl rfl rfl (by rintro _ _ ⟨rfl, rfl⟩; exact congrArg (offB false) (by rfl : _ = Value.bool true)) ⟨rfl, rfl⟩ rfl rfl,
            ⟨.u rfl rfl rfl (by rintro _ _ ⟨rfl, rfl⟩; exact congrArg (offB false) (by rfl : _ = Value.bool true)) ⟨rfl, rfl⟩ rfl rfl,
            ⟨.u rfl rfl rfl (by rintro _ _ ⟨rfl, rfl⟩; exact congrArg (offB false) (by rfl : _ = Value.bool true)) ⟨rfl, rfl⟩ rfl rfl,
            ⟨.p rfl (by intro X; rintro _ _ ⟨rfl, rfl⟩ _ _ ⟨rfl, rfl⟩; exact op_pick_t rfl rfl),
            ⟨.p rfl (by intro X; rintro _ _ ⟨rfl, rfl⟩; exact op_move rfl),
            ⟨.u rfl rfl rfl (by rintro _ _ ⟨rfl, rfl⟩; exact congrArg (offB false) (by rfl : _ = Value.bool true)) ⟨rfl, rfl⟩ rfl rfl,
            ⟨.u rfl rfl rfl (by rintro _ _ ⟨rfl, rfl⟩; exact congrArg (offB false) (by rfl : _ = Value.bool true)) ⟨rfl, rfl⟩ rfl rfl,
            ⟨.u rfl rfl rfl (by rintro _ _ ⟨rfl, rfl⟩; exact congrArg (offB false) (by rfl : _ = Value.bool true)) ⟨rfl, rfl⟩ rfl rfl,
            ⟨.u rfl rfl rfl (by rintro _ _ ⟨rfl, rfl⟩; exact congrArg (offB false) (by rfl : _ = Value.bool true)) ⟨rfl, rfl⟩ rfl rfl,
            ⟨.u rfl rfl rfl (by rintro _ _ ⟨rfl, rfl⟩; exact congrArg (offB false) (by rfl : _ = Value.bool true)) ⟨rfl, rfl⟩ rfl rfl,
            ⟨.u rfl rfl rfl (by rintro _ _ ⟨rfl, rfl⟩; exact congrArg (offB false) (by rfl : _ = Value.bool true)) ⟨rfl, rfl⟩ rfl rfl,
            ⟨.u rfl rfl rfl (by rintro _ _ ⟨rfl, rfl⟩; exact congrArg (offB false) (by rfl : _ = Value.bool true)) ⟨rfl, rfl⟩ rfl rfl,
            ⟨.u rfl rfl rfl (by rintro _ _ ⟨rfl, rfl⟩; exact congrArg (offB false) (by rfl : _ = Value.bool true)) ⟨rfl, rfl⟩ rfl rfl,
            ⟨.u rfl rfl rfl (by rintro _ _ ⟨rfl, rfl⟩; exact congrArg (offB false) (by rfl : _ = Value.bool true)) ⟨rfl, rfl⟩ rfl rfl,
            ⟨.u rfl rfl rfl (by rintro _ _ ⟨rfl, rfl⟩; exact congrArg (offB false) (by rfl : _ = Value.bool true)) ⟨rfl, rfl⟩ rfl rfl,
            ⟨.u rfl rfl rfl (by rintro _ _ ⟨rfl, rfl⟩; exact congrArg (offB false) (by rfl : _ = Value.bool true)) ⟨rfl, rfl⟩ rfl rfl,
            ⟨.p rfl (by intro X; rintro _ _ ⟨rfl, rfl⟩ _ _ ⟨rfl, rfl⟩; exact op_pick_t rfl rfl),
            trivial⟩⟩⟩⟩⟩⟩⟩⟩⟩⟩⟩⟩⟩⟩⟩⟩⟩⟩⟩⟩⟩⟩⟩⟩⟩⟩⟩⟩⟩⟩⟩⟩⟩⟩⟩⟩⟩⟩⟩⟩⟩⟩⟩⟩⟩⟩⟩⟩⟩⟩⟩⟩⟩⟩⟩)
            (fun β β' => ⟨fun _ => by rfl, ⟨fun _ => by rfl, ⟨fun _ => by rfl, ⟨fun _ => by rfl, ⟨fun _ => by rfl, ⟨fun _ => by rfl, ⟨fun _ => by rfl, ⟨fun _ => by rfl, ⟨fun _ => by rfl, ⟨fun _ => by rfl, ⟨fun _ => by rfl, ⟨fun _ => by rfl, ⟨fun _ => by rfl, ⟨fun _ => by rfl, ⟨fun _ => by rfl, ⟨fun _ => by rfl, ⟨fun _ => by rfl, ⟨fun _ => by rfl, ⟨fun _ => by rfl, ⟨fun _ => by rfl, ⟨fun _ => by rfl, ⟨fun _ => by rfl, ⟨fun _ => by rfl, ⟨fun _ => by rfl, ⟨fun _ => by rfl, ⟨fun _ => by rfl, ⟨fun _ => by rfl, ⟨fun _ => by rfl, ⟨fun _ => by rfl, ⟨fun _ => by rfl, ⟨fun _ => by rfl, ⟨fun _ => by rfl, ⟨fun _ => by rfl, ⟨fun _ => by rfl, ⟨fun _ => by rfl, ⟨fun _ => by rfl, ⟨fun _ => by rfl, ⟨fun _ => by rfl, ⟨fun _ => by rfl, ⟨fun _ => by rfl, ⟨fun _ => by rfl, ⟨fun _ => by rfl, ⟨fun _ => by rfl, ⟨fun _ => by rfl, ⟨fun _ => by rfl, ⟨fun _ => by rfl, ⟨fun _ => by rfl, ⟨fun _ => by rfl, ⟨fun _ => by rfl, ⟨fun _ => by rfl, ⟨fun _ => by rfl, ⟨fun _ => by rfl, ⟨fun _ => by rfl, ⟨fun _ => by rfl, ⟨fun _ => by rfl, trivial⟩⟩⟩⟩⟩⟩⟩⟩⟩⟩⟩⟩⟩⟩⟩⟩⟩⟩⟩⟩⟩⟩⟩⟩⟩⟩⟩⟩⟩⟩⟩⟩⟩⟩⟩⟩⟩⟩⟩⟩⟩⟩⟩⟩⟩⟩⟩⟩⟩⟩⟩⟩⟩⟩⟩) ?_
        intro β
        rintro _ _ ⟨rfl, rfl⟩ _ _ ⟨rfl, rfl⟩ _ _ ⟨rfl, rfl⟩ _ _ ⟨rfl, rfl⟩ _ _ ⟨rfl, rfl⟩ _ _ ⟨rfl, rfl⟩ _ _ ⟨rfl, rfl⟩ _ _ ⟨rfl, rfl⟩ _ _ ⟨rfl, rfl⟩ _ _ ⟨rfl, rfl⟩ _ _ ⟨rfl, rfl⟩ _ _ ⟨rfl, rfl⟩ _ _ ⟨rfl, rfl⟩ _ _ ⟨rfl, rfl⟩ _ _ ⟨rfl, rfl⟩ _ _ ⟨rfl, rfl⟩ _ _ ⟨rfl, rfl⟩ _ _ ⟨rfl, rfl⟩ _ _ ⟨rfl, rfl⟩ _ _ ⟨rfl, rfl⟩ _ _ ⟨rfl, rfl⟩ _ _ ⟨rfl, rfl⟩ _ _ ⟨rfl, rfl⟩ _ _ ⟨rfl, rfl⟩ _ _ ⟨rfl, rfl⟩ _ _ ⟨rfl, rfl⟩ _ _ ⟨rfl, rfl⟩ _ _ ⟨rfl, rfl⟩ _ _ ⟨rfl, rfl⟩ _ _ ⟨rfl, rfl⟩ _ _ ⟨rfl, rfl⟩ _ _ ⟨rfl, rfl⟩ _ _ ⟨rfl, rfl⟩ _ _ ⟨rfl, rfl⟩ _ _ ⟨rfl, rfl⟩ _ _ ⟨rfl, rfl⟩ _ _ ⟨rfl, rfl⟩ _ _ ⟨rfl, rfl⟩ _ _ ⟨rfl, rfl⟩ _ _ ⟨rfl, rfl⟩ _ _ ⟨rfl, rfl⟩ _ _ ⟨rfl, rfl⟩ _ _ ⟨rfl, rfl⟩ _ _ ⟨rfl, rfl⟩ _ _ ⟨rfl, rfl⟩ _ _ ⟨rfl, rfl⟩ _ _ ⟨rfl, rfl⟩ _ _ ⟨rfl, rfl⟩ _ _ ⟨rfl, rfl⟩ _ _ ⟨rfl, rfl⟩ _ _ ⟨rfl, rfl⟩ _ _ ⟨rfl, rfl⟩ _ _ ⟨rfl, rfl⟩ _ _ ⟨rfl, rfl⟩ _ _ ⟨rfl, rfl⟩
        refine wl_norm (e' := [(0, _), (1, _), (60, _)]) (.cons rfl (.cons rfl (.cons rfl (.nil _)))) (by dsimp only [cond_false, cond_true, List.nil_append, List.cons_append]) ?_
        refine wl_nil ?_
        refine st_tn ?_
        refine w_cond_t (rfl) ?_
        refine w_seq ?_
        refine w_region ?_
        refine wl_det rfl rfl rfl (op_assign rfl) ?_
        refine wl_nil ?_
        refine st_tn ?_
        refine w_ret ?_
        refine st_tr ?_
        refine st_ret (vs := [_]) [] Try.results32 ⟨rfl, trivial⟩ rfl ?_
        refine ⟨_, rfl, ?_⟩
        exact ⟨by rw [dec_st2]; simp [retv, h3], rfl⟩
    · -- h2-
      refine w_drawW (fun β => (⟨6, [], [], [], noW (_), false, [], []⟩ :: ⟨7, [0], [], [], noW (_), false, [], []⟩ :: ⟨8, [1], [], [], noW (_), false, [], []⟩ :: ⟨9, [2], [], [], noW (_), false, [], []⟩ :: ⟨10, [], [], [], noW (_), false, [], []⟩ :: ⟨11, [4], [], [], noW (_), false, [], []⟩ :: ⟨12, [5], [], [], noW (_), false, [], []⟩ :: ⟨13, [6], [], [], noW (_), false, [], []⟩ :: ⟨14, [3, 7], [], [], noW (_), false, [], []⟩ :: ⟨15, [8], [], [], noW (_), false, [], []⟩ :: ⟨16, [], [], [], noW (_), false, [], []⟩ :: ⟨17, [10], [], [], noW (_), false, [], []⟩ :: ⟨18, [11], [], [], noW (_), false, [], []⟩ :: ⟨19, [12], [], [], noW (_), false, [], []⟩ :: ⟨20, [], [], [], noW (_), false, [], []⟩ :: ⟨21, [14], [], [], noW (_), false, [], []⟩ :: ⟨22, [15], [], [], noW (_), false, [], []⟩ :: ⟨23, [16], [], [], noW (_), false, [], []⟩ :: ⟨24, [13, 17], [], [], noW (_), false, [], []⟩ :: ⟨25, [9, 18], [], [], noW (_), false, [], []⟩ :: ⟨26, [19], [], [], noW (_), false, [], []⟩ :: ⟨27, [], [], [], noW (Det undef), false, [], []⟩ :: ⟨28, [], [], [], noW (Det undef), false, [], []⟩ :: ⟨29, [], [], [], noW (Det undef), false, [], []⟩ :: ⟨30, [], [], [], noW (Det undef), false, [], []⟩ :: ⟨31, [], [], [], noW (Det undef), false, [], []⟩ :: ⟨32, [], [], [], noW (Det undef), false, [], []⟩ :: ⟨33, [], [], [], noW (Det undef), false, [], []⟩ :: ⟨34, [], [], [], noW (Det undef), false, [], []⟩ :: ⟨35, [], [], [], noW (Det undef), false, [], []⟩ :: ⟨36, [20, 29], [], [], noW (_), false, [], []⟩ :: ⟨37, [30], [], [], noW (_), false, [], []⟩ :: ⟨38, [], [], [], noW (Det undef), false, [], []⟩ :: ⟨39, [], [], [], noW (Det undef), false, [], []⟩ :: ⟨40, [], [], [], noW (Det undef), false, [], []⟩ :: ⟨41, [], [], [], noW (Det undef), false, [], []⟩ :: ⟨42, [], [], [], noW (Det undef), false, [], []⟩ :: ⟨43, [], [], [], noW (Det undef), false, [], []⟩ :: ⟨44, [], [], [], noW (Det undef), false, [], []⟩ :: ⟨45, [], [], [], noW (Det undef), false, [], []⟩ :: ⟨46, [], [], [], noW (Det undef), false, [], []⟩ :: ⟨47, [31, 40], [], [], noW (_), false, [], []⟩ :: ⟨48, [41], [], [], noW (_), false, [], []⟩ :: ⟨49, [], [], [], noW (Det undef), false, [], []⟩ :: ⟨50, [], [], [], noW (Det undef), false, [], []⟩ :: ⟨51, [], [], [], noW (Det undef), false, [], []⟩ :: ⟨52, [], [], [], noW (Det undef), false, [], []⟩ :: ⟨53, [], [], [], noW (Det undef), false, [], []⟩ :: ⟨54, [], [], [], noW (Det undef), false, [], []⟩ :: ⟨55, [], [], [], noW (Det undef), false, [], []⟩ :: ⟨56, [], [], [], noW (Det undef), false, [], []⟩ :: ⟨57, [], [], [], noW (Det undef), false, [], []⟩ :: ⟨58, [], [], [], noW (Det undef), false, [], []⟩ :: ⟨59, [], [], [], noW (Det undef), false, [], []⟩ :: ⟨60, [42, 53], [], [], noW (_), false, [], []⟩ :: [])) [] [0, 1] (⟨6, [], [], false, [], []⟩ :: ⟨7, [0], [], false, [], []⟩ :: ⟨8, [1], [], false, [], []⟩ :: ⟨9, [2], [], false, [], []⟩ :: ⟨10, [], [], false, [], []⟩ :: ⟨11, [4], [], false, [], []⟩ :: ⟨12, [5], [], false, [], []⟩ :: ⟨13, [6], [], false, [], []⟩ :: ⟨14, [3, 7], [], false, [], []⟩ :: ⟨15, [8], [], false, [], []⟩ :: ⟨16, [], [], false, [], []⟩ :: ⟨17, [10], [], false, [], []⟩ :: ⟨18, [11], [], false, [], []⟩ :: ⟨19, [12], [], false, [], []⟩ :: ⟨20, [], [], false, [], []⟩ :: ⟨21, [14], [], false, [], []⟩ :: ⟨22, [15], [], false, [], []⟩ :: ⟨23, [16], [], false, [], []⟩ :: ⟨24, [13, 17], [], false, [], []⟩ :: ⟨25, [9, 18], [], false, [], []⟩ :: ⟨26, [19], [], false, [], []⟩ :: ⟨27, [], [], false, [], []⟩ :: ⟨28, [], [], false, [], []⟩ :: ⟨29, [], [], false, [], []⟩ :: ⟨30, [], [], false, [], []⟩ :: ⟨31, [], [], false, [], []⟩ :: ⟨32, [], [], false, [], []⟩ :: ⟨33, [], [], false, [], []⟩ :: ⟨34, [], [], false, [], []⟩ :: ⟨35, [], [], false, [], []⟩ :: ⟨36, [20, 29], [], false, [], []⟩ :: ⟨37, [30], [], false, [], []⟩ :: ⟨38, [], [], false, [], []⟩ :: ⟨39, [], [], false, [], []⟩ :: ⟨40, [], [], false, [], []⟩ :: ⟨41, [], [], false, [], []⟩ :: ⟨42, [], [], false, [], []⟩ :: ⟨43, [], [], false, [], []⟩ :: ⟨44, [], [], false, [], []⟩ :: ⟨45, [], [], false, [], []⟩ :: ⟨46, [], [], false, [], []⟩ :: ⟨47, [31, 40], [], false, [], []⟩ :: ⟨48, [41], [], false, [], []⟩ :: ⟨49, [], [], false, [], []⟩ :: ⟨50, [], [], false, [], []⟩ :: ⟨51, [], [], false, [], []⟩ :: ⟨52, [], [], false, [], []⟩ :: ⟨53, [], [], false, [], []⟩ :: ⟨54, [], [], false, [], []⟩ :: ⟨55, [], [], false, [], []⟩ :: ⟨56, [], [], false, [], []⟩ :: ⟨57, [], [], false, [], []⟩ :: ⟨58, [], [], false, [], []⟩ :: ⟨59, [], [], false, [], []⟩ :: ⟨60, [42, 53], [], false, [], []⟩ :: []) ([] :: [] :: [] :: [] :: [] :: [] :: [] :: [] :: [] :: [] :: [] :: [] :: [] :: [] :: [] :: [] :: [] :: [] :: [] :: [] :: [] :: [] :: [] :: [] :: [] :: [] :: [] :: [] :: [] :: [] :: [] :: [] :: [] :: [] :: [] :: [] :: [] :: [] :: [] :: [] :: [] :: [] :: [] :: [] :: [] :: [] :: [] :: [] :: [] :: [] :: [] :: [] :: [] :: [] :: [] :: []) ([] :: [] :: [] :: [] :: [] :: [] :: [] :: [] :: [] :: [] :: [] :: [] :: [] :: [] :: [] :: [] :: [] :: [] :: [] :: [] :: [] :: [] :: [] :: [] :: [] :: [] :: [] :: [] :: [] :: [] :: [] :: [] :: [] :: [] :: [] :: [] :: [] :: [] :: [] :: [] :: [] :: [] :: [] :: [] :: [] :: [] :: [] :: [] :: [] :: [] :: [] :: [] :: [] :: [] :: [] :: []) tMixk (fun _ => by rfl) (fun _ => by rfl) (by kernel_rfl) (by kernel_rfl) (by rfl) (by rfl)
          (fun β => ⟨.p rfl (by intro X; exact op_move rfl),
          ⟨.p rfl (by intro X; rintro _ _ ⟨rfl, rfl⟩; exact op_nilCheck rfl),
          ⟨.p rfl (by intro X; rintro _ _ ⟨rfl, rfl⟩; exact op_fieldAddr (off := 0) rfl tF36_0k),
          ⟨.p rfl (by intro X; rintro _ _ ⟨rfl, rfl⟩; exact op_load1 rfl tO3k (Ent.app (Ent.app (Ent.fld hd1 0) X) _)),
          ⟨.p rfl (by intro X; exact op_move rfl),
          ⟨.p rfl (by intro X; rintro _ _ ⟨rfl, rfl⟩; exact op_nilCheck rfl),
          ⟨.p rfl (by intro X; rintro _ _ ⟨rfl, rfl⟩; exact op_fieldAddr (off := 0) rfl tF36_0k),
          ⟨.p rfl (by intro X; rintro _ _ ⟨rfl, rfl⟩; exact op_load1 rfl tO3k (Ent.app (Ent.app (Ent.fld hd2 0) X) _)),
          ⟨.p rfl (by intro X; rintro _ _ ⟨rfl, rfl⟩ _ _ ⟨rfl, rfl⟩; exact op_val (v' := .bool false) (by simp [h1]) (op_neq rfl rfl)),
          ⟨.p rfl (by intro X; rintro _ _ ⟨rfl, rfl⟩; exact op_move rfl),
          ⟨.w rfl rfl rfl (by rintro _ _ ⟨rfl, rfl⟩; rfl) (by intro X; exact op_move rfl),
          ⟨.w rfl rfl rfl (by rintro _ _ ⟨rfl, rfl⟩; rfl) (by intro X; rintro _ _ ⟨rfl, rfl⟩; exact op_nilCheck rfl),
          ⟨.w rfl rfl rfl (by rintro _ _ ⟨rfl, rfl⟩; rfl) (by intro X; rintro _ _ ⟨rfl, rfl⟩; exact op_fieldAddr (off := 2) rfl tF36_2k),
          ⟨.w rfl rfl rfl (by rintro _ _ ⟨rfl, rfl⟩; rfl) (by intro X; rintro _ _ ⟨rfl, rfl⟩; exact op_load1 rfl tO4k (Ent.app (Ent.app (Ent.fld hd1 2) X) _)),
          ⟨.w rfl rfl rfl (by rintro _ _ ⟨rfl, rfl⟩; rfl) (by intro X; exact op_move rfl),
          ⟨.w rfl rfl rfl (by rintro _ _ ⟨rfl, rfl⟩; rfl) (by intro X; rintro _ _ ⟨rfl, rfl⟩; exact op_nilCheck rfl),
          ⟨.w rfl rfl rfl (by rintro _ _ ⟨rfl, rfl⟩; rfl) (by intro X; rintro _ _ ⟨rfl, rfl⟩; exact op_fieldAddr (off := 2) rfl tF36_2k),
          ⟨.w rfl rfl rfl (by rintro _ _ ⟨rfl, rfl⟩; rfl) (by intro X; rintro _ _ ⟨rfl, rfl⟩; exact op_load1 rfl tO4k (Ent.app (Ent.app (Ent.fld hd2 2) X) _)),
          ⟨.w rfl rfl rfl (by rintro _ _ ⟨rfl, rfl⟩; rfl) (by intro X; rintro _ _ ⟨rfl, rfl⟩ _ _ ⟨rfl, rfl⟩; exact op_val (v' := .bool true) (by simp [h2]) (op_neB rfl rfl Try.underlying4)),
          ⟨.p rfl (by intro X; rintro _ _ ⟨rfl, rfl⟩ _ _ ⟨rfl, rfl⟩; exact op_pick_f rfl rfl),
          ⟨.p rfl (by intro X; rintro _ _ ⟨rfl, rfl⟩; exact op_move rfl),
          ⟨.u rfl rfl rfl (by rintro _ _ ⟨rfl, rfl⟩; exact congrArg (offB false) (by rfl : _ = Value.bool true)) ⟨rfl, rfl⟩ rfl rfl,
          ⟨.u rfl rfl rfl (by rintro _ _ ⟨rfl, rfl⟩; exact congrArg (offB false) (by rfl : _ = Value.bool true)) ⟨rfl, rfl⟩ rfl rfl,
          ⟨.u rfl rfl rfl (by rintro _ _ ⟨rfl, rfl⟩; exact congrArg (offB false) (by rfl : _ = Value.bool true)) ⟨rfl, rfl⟩ rfl rfl,
          ⟨.u rfl rfl rfl (by rintro _ _ ⟨rfl, rfl⟩; exact congrArg (offB false) (by rfl : _ = Value.bool true)) ⟨rfl, rfl⟩ rfl rfl,
          ⟨.u rfl rfl rfl (by rintro _ _ ⟨rfl, rfl⟩; exact congrArg (offB false) (by rfl : _ = Value.bool true)) ⟨rfl, rfl⟩ rfl rfl,
          ⟨.u rfl rfl rfl (by rintro _ _ ⟨rfl, rfl⟩; exact congrArg (offB false) (by rfl : _ = Value.bool true)) ⟨rfl, rfl⟩ rfl rfl,
          ⟨.u rfl rfl rfl (by rintro _ _ ⟨rfl, rfl⟩; exact congrArg (offB false) (by rfl : _ = Value.bool true)) ⟨rfl, rfl⟩ rfl rfl,
          ⟨.u rfl rfl rfl (by rintro _ _ ⟨rfl, rfl⟩; exact congrArg (offB false) (by rfl : _ = Value.bool true)) ⟨rfl, rfl⟩ rfl rfl,
          ⟨.u rfl rfl rfl (by rintro _ _ ⟨rfl, rfl⟩; exact congrArg (offB false) (by rfl : _ = Value.bool true)) ⟨rfl, rfl⟩ rfl rfl,
          ⟨.p rfl (by intro X; rintro _ _ ⟨rfl, rfl⟩ _ _ ⟨rfl, rfl⟩; exact op_pick_t rfl rfl),
          ⟨.p rfl (by intro X; rintro _ _ ⟨rfl, rfl⟩; exact op_move rfl),
          ⟨.u rfl rfl rfl (by rintro _ _ ⟨rfl, rfl⟩; exact congrArg (offB false) (by rfl : _ = Value.bool true)) ⟨rfl, rfl⟩ rfl rfl,
          ⟨.u rfl rfl rfl (by rintro _ _ ⟨rfl, rfl⟩; exact congrArg (offB false) (by rfl : _ = Value.bool true)) ⟨rfl, rfl⟩ rfl rfl,
          ⟨.u rfl rfl rfl (by rintro _ _ ⟨rfl, rfl⟩; exact congrArg (offB false) (by rfl : _ = Value.bool true)) ⟨rfl, rfl⟩ rfl rfl,
          ⟨.u rfl rfl rfl (by rintro _ _ ⟨rfl, rfl⟩; exact congrArg (offB false) (by rfl : _ = Value.bool true)) ⟨rfl, rfl⟩ rfl rfl,
          ⟨.u rfl rfl rfl (by rintro _ _ ⟨rfl, rfl⟩; exact congrArg (offB false) (by rfl : _ = Value.bool true)) ⟨rfl, rfl⟩ rfl rfl,
          ⟨.u rfl rfl rfl (by rintro _ _ ⟨rfl, rfl⟩; exact congrArg (offB false) (by rfl : _ = Value.bool true)) ⟨rfl, rfl⟩ rfl rfl,
          ⟨.u rfl rfl rfl (by rintro _ _ ⟨rfl, rfl⟩; exact congrArg (offB false) (by rfl : _ = Value.bool true)) ⟨rfl, rfl⟩ rfl rfl,
          ⟨.u rfl rfl rfl (by rintro _ _ ⟨rfl, rfl⟩; exact congrArg (offB false) (by rfl : _ = Value.bool true)) ⟨rfl, rfl⟩ rfl rfl,
          ⟨.u rfl rfl rfl (by rintro _ _ ⟨rfl, rfl⟩; exact congrArg (offB false) (by rfl : _ = Value.bool true)) ⟨rfl, rfl⟩ rfl rfl,
          ⟨.p rfl (by intro X; rintro _ _ ⟨rfl, rfl⟩ _ _ ⟨rfl, rfl⟩; exact op_pick_t rfl rfl),
          ⟨.p rfl (by intro X; rintro _ _ ⟨rfl, rfl⟩; exact op_move rfl),
          ⟨.u rfl rfl rfl (by rintro _ _ ⟨rfl, rfl⟩; exact congrArg (offB false) (by rfl : _ = Value.bool true)) ⟨rfl, rfl⟩ rfl rfl,
          ⟨.u rfl rfl rfl (by rintro _ _ ⟨rfl, rfl⟩; exact congrArg (offB false) (by rfl : _ = Value.bool true)) ⟨rfl, rfl⟩ rfl rfl,
          ⟨.u rfl rfl rfl (by rintro _ _ ⟨rfl, rfl⟩; exact congrArg (offB false) (by rfl : _ = Value.bool true)) ⟨rfl, rfl⟩ rfl rfl,
          ⟨.u rfl rfl rfl (by rintro _ _ ⟨rfl, rfl⟩; exact congrArg (offB false) (by rfl : _ = Value.bool true)) ⟨rfl, rfl⟩ rfl rfl,
          ⟨.u rfl rfl rfl (by rintro _ _ ⟨rfl, rfl⟩; exact congrArg (offB false) (by rfl : _ = Value.bool true)) ⟨rfl, rfl⟩ rfl rfl,
          ⟨.u rfl rfl rfl (by rintro _ _ ⟨rfl, rfl⟩; exact congrArg (offB false) (by rfl : _ = Value.bool true)) ⟨rfl, rfl⟩ rfl rfl,
          ⟨.u rfl rfl rfl (by rintro _ _ ⟨rfl, rfl⟩; exact congrArg (offB false) (by rfl : _ = Value.bool true)) ⟨rfl, rfl⟩ rfl rfl,
          ⟨.u rfl rfl rfl (by rintro _ _ ⟨rfl, rfl⟩; exact congrArg (offB false) (by rfl : _ = Value.bool true)) ⟨rfl, rfl⟩ rfl rfl,
          ⟨.u rfl rfl rfl (by rintro _ _ ⟨rfl, rfl⟩; exact congrArg (offB false) (by rfl : _ = Value.bool true)) ⟨rfl, rfl⟩ rfl rfl,
          ⟨.u rfl rfl rfl (by rintro _ _ ⟨rfl, rfl⟩; exact congrArg (offB false) (by rfl : _ = Value.bool true)) ⟨rfl, rfl⟩ rfl rfl,
          ⟨.u rfl rfl rfl (by rintro _ _ ⟨rfl, rfl⟩; exact congrArg (offB false) (by rfl : _ = Value.bool true)) ⟨rfl, rfl⟩ rfl rfl,
          ⟨.p rfl (by intro X; rintro _ _ ⟨rfl, rfl⟩ _ _ ⟨rfl, rfl⟩; exact op_pick_t rfl rfl),
          trivial⟩⟩⟩⟩⟩⟩⟩⟩⟩⟩⟩⟩⟩⟩⟩⟩⟩⟩⟩⟩⟩⟩⟩⟩⟩⟩⟩⟩⟩⟩⟩⟩⟩⟩⟩⟩⟩⟩⟩⟩⟩⟩⟩⟩⟩⟩⟩⟩⟩⟩⟩⟩⟩⟩⟩)
          (fun β β' => ⟨fun _ => by rfl, ⟨fun _ => by rfl, ⟨fun _ => by rfl, ⟨fun _ => by rfl, ⟨fun _ => by rfl, ⟨fun _ => by rfl, ⟨fun _ => by rfl, ⟨fun _ => by rfl, ⟨fun _ => by rfl, ⟨fun _ => by rfl, ⟨fun _ => by rfl, ⟨fun _ => by rfl, ⟨fun _ => by rfl, ⟨fun _ => by rfl, ⟨fun _ => by rfl, ⟨fun _ => by rfl, ⟨fun _ => by rfl, ⟨fun _ => by rfl, ⟨fun _ => by rfl, ⟨fun _ => by rfl, ⟨fun _ => by rfl, ⟨fun _ => by rfl, ⟨fun _ => by rfl, ⟨fun _ => by rfl, ⟨fun _ => by rfl, ⟨fun _ => by rfl, ⟨fun _ => by rfl, ⟨fun _ => by rfl, ⟨fun _ => by rfl, ⟨fun _ => by rfl, ⟨fun _ => by rfl, ⟨fun _ => by rfl, ⟨fun _ => by rfl, ⟨fun _ => by rfl, ⟨fun _ => by rfl, ⟨fun _ => by rfl, ⟨fun _ => by rfl, ⟨fun _ => by rfl, ⟨fun _ => by rfl, ⟨fun _ => by rfl, ⟨fun _ => by rfl, ⟨fun _ => by rfl, ⟨fun _ => by rfl, ⟨fun _ => by rfl, ⟨fun _ => by rfl, ⟨fun _ => by rfl, ⟨fun _ => by rfl, ⟨fun _ => by rfl, ⟨fun _ => by rfl, ⟨fun _ => by rfl, ⟨fun _ => by rfl, ⟨fun _ => by rfl, ⟨fun _ => by rfl, ⟨fun _ => by rfl, ⟨fun _ => by rfl, trivial⟩⟩⟩⟩⟩⟩⟩⟩⟩⟩⟩⟩⟩⟩⟩⟩⟩⟩⟩⟩⟩⟩⟩⟩⟩⟩⟩⟩⟩⟩⟩⟩⟩⟩⟩⟩⟩⟩⟩⟩⟩⟩⟩⟩⟩⟩⟩⟩⟩⟩⟩⟩⟩⟩⟩) ?_
      intro β
      rintro _ _ ⟨rfl, rfl⟩ _ _ ⟨rfl, rfl⟩ _ _ ⟨rfl, rfl⟩ _ _ ⟨rfl, rfl⟩ _ _ ⟨rfl, rfl⟩ _ _ ⟨rfl, rfl⟩ _ _ ⟨rfl, rfl⟩ _ _ ⟨rfl, rfl⟩ _ _ ⟨rfl, rfl⟩ _ _ ⟨rfl, rfl⟩ _ _ ⟨rfl, rfl⟩ _ _ ⟨rfl, rfl⟩ _ _ ⟨rfl, rfl⟩ _ _ ⟨rfl, rfl⟩ _ _ ⟨rfl, rfl⟩ _ _ ⟨rfl, rfl⟩ _ _ ⟨rfl, rfl⟩ _ _ ⟨rfl, rfl⟩ _ _ ⟨rfl, rfl⟩ _ _ ⟨rfl, rfl⟩ _ _ ⟨rfl, rfl⟩ _ _ ⟨rfl, rfl⟩ _ _ ⟨rfl, rfl⟩ _ _ ⟨rfl, rfl⟩ _ _ ⟨rfl, rfl⟩ _ _ ⟨rfl, rfl⟩ _ _ ⟨rfl, rfl⟩ _ _ ⟨rfl, rfl⟩ _ _ ⟨rfl, rfl⟩ _ _ ⟨rfl, rfl⟩ _ _ ⟨rfl, rfl⟩ _ _ ⟨rfl, rfl⟩ _ _ ⟨rfl, rfl⟩ _ _ ⟨rfl, rfl⟩ _ _ ⟨rfl, rfl⟩ _ _ ⟨rfl, rfl⟩ _ _ ⟨rfl, rfl⟩ _ _ ⟨rfl, rfl⟩ _ _ ⟨rfl, rfl⟩ _ _ ⟨rfl, rfl⟩ _ _ ⟨rfl, rfl⟩ _ _ ⟨rfl, rfl⟩ _ _ ⟨rfl, rfl⟩ _ _ ⟨rfl, rfl⟩ _ _ ⟨rfl, rfl⟩ _ _ ⟨rfl, rfl⟩ _ _ ⟨rfl, rfl⟩ _ _ ⟨rfl, rfl⟩ _ _ ⟨rfl, rfl⟩ _ _ ⟨rfl, rfl⟩ _ _ ⟨rfl, rfl⟩ _ _ ⟨rfl, rfl⟩ _ _ ⟨rfl, rfl⟩ _ _ ⟨rfl, rfl⟩ _ _ ⟨rfl, rfl⟩
      refine wl_norm (e' := [(0, _), (1, _), (60, _)]) (.cons rfl (.cons rfl (.cons rfl (.nil _)))) (by dsimp only [cond_false, cond_true, List.nil_append, List.cons_append]) ?_
      refine wl_nil ?_
      refine st_tn ?_
      refine w_cond_t (rfl) ?_
      refine w_seq ?_
      refine w_region ?_
      refine wl_det rfl rfl rfl (op_assign rfl) ?_
      refine wl_nil ?_
      refine st_tn ?_
      refine w_ret ?_
      refine st_tr ?_
      refine st_ret (vs := [_]) [] Try.results32 ⟨rfl, trivial⟩ rfl ?_
      refine ⟨_, rfl, ?_⟩
      exact ⟨by rw [dec_st2]; simp [retv, h2], rfl⟩
  · -- h1-
    refine w_drawW (fun β => (⟨6, [], [], [], noW (_), false, [], []⟩ :: ⟨7, [0], [], [], noW (_), false, [], []⟩ :: ⟨8, [1], [], [], noW (_), false, [], []⟩ :: ⟨9, [2], [], [], noW (_), false, [], []⟩ :: ⟨10, [], [], [], noW (_), false, [], []⟩ :: ⟨11, [4], [], [], noW (_), false, [], []⟩ :: ⟨12, [5], [], [], noW (_), false, [], []⟩ :: ⟨13, [6], [], [], noW (_), false, [], []⟩ :: ⟨14, [3, 7], [], [], noW (_), false, [], []⟩ :: ⟨15, [8], [], [], noW (_), false, [], []⟩ :: ⟨16, [], [], [], noW (Det undef), false, [], []⟩ :: ⟨17, [], [], [], noW (Det undef), false, [], []⟩ :: ⟨18, [], [], [], noW (Det undef), false, [], []⟩ :: ⟨19, [], [], [], noW (Det undef), false, [], []⟩ :: ⟨20, [], [], [], noW (Det undef), false, [], []⟩ :: ⟨21, [], [], [], noW (Det undef), false, [], []⟩ :: ⟨22, [], [], [], noW (Det undef), false, [], []⟩ :: ⟨23, [], [], [], noW (Det undef), false, [], []⟩ :: ⟨24, [], [], [], noW (Det undef), false, [], []⟩ :: ⟨25, [9, 18], [], [], noW (_), false, [], []⟩ :: ⟨26, [19], [], [], noW (_), false, [], []⟩ :: ⟨27, [], [], [], noW (Det undef), false, [], []⟩ :: ⟨28, [], [], [], noW (Det undef), false, [], []⟩ :: ⟨29, [], [], [], noW (Det undef), false, [], []⟩ :: ⟨30, [], [], [], noW (Det undef), false, [], []⟩ :: ⟨31, [], [], [], noW (Det undef), false, [], []⟩ :: ⟨32, [], [], [], noW (Det undef), false, [], []⟩ :: ⟨33, [], [], [], noW (Det undef), false, [], []⟩ :: ⟨34, [], [], [], noW (Det undef), false, [], []⟩ :: ⟨35, [], [], [], noW (Det undef), false, [], []⟩ :: ⟨36, [20, 29], [], [], noW (_), false, [], []⟩ :: ⟨37, [30], [], [], noW (_), false, [], []⟩ :: ⟨38, [], [], [], noW (Det undef), false, [], []⟩ :: ⟨39, [], [], [], noW (Det undef), false, [], []⟩ :: ⟨40, [], [], [], noW (Det undef), false, [], []⟩ :: ⟨41, [], [], [], noW (Det undef), false, [], []⟩ :: ⟨42, [], [], [], noW (Det undef), false, [], []⟩ :: ⟨43, [], [], [], noW (Det undef), false, [], []⟩ :: ⟨44, [], [], [], noW (Det undef), false, [], []⟩ :: ⟨45, [], [], [], noW (Det undef), false, [], []⟩ :: ⟨46, [], [], [], noW (Det undef), false, [], []⟩ :: ⟨47, [31, 40], [], [], noW (_), false, [], []⟩ :: ⟨48, [41], [], [], noW (_), false, [], []⟩ :: ⟨49, [], [], [], noW (Det undef), false, [], []⟩ :: ⟨50, [], [], [], noW (Det undef), false, [], []⟩ :: ⟨51, [], [], [], noW (Det undef), false, [], []⟩ :: ⟨52, [], [], [], noW (Det undef), false, [], []⟩ :: ⟨53, [], [], [], noW (Det undef), false, [], []⟩ :: ⟨54, [], [], [], noW (Det undef), false, [], []⟩ :: ⟨55, [], [], [], noW (Det undef), false, [], []⟩ :: ⟨56, [], [], [], noW (Det undef), false, [], []⟩ :: ⟨57, [], [], [], noW (Det undef), false, [], []⟩ :: ⟨58, [], [], [], noW (Det undef), false, [], []⟩ :: ⟨59, [], [], [], noW (Det undef), false, [], []⟩ :: ⟨60, [42, 53], [], [], noW (_), false, [], []⟩ :: [])) [] [0, 1] (⟨6, [], [], false, [], []⟩ :: ⟨7, [0], [], false, [], []⟩ :: ⟨8, [1], [], false, [], []⟩ :: ⟨9, [2], [], false, [], []⟩ :: ⟨10, [], [], false, [], []⟩ :: ⟨11, [4], [], false, [], []⟩ :: ⟨12, [5], [], false, [], []⟩ :: ⟨13, [6], [], false, [], []⟩ :: ⟨14, [3, 7], [], false, [], []⟩ :: ⟨15, [8], [], false, [], []⟩ :: ⟨16, [], [], false, [], []⟩ :: ⟨17, [], [], false, [], []⟩ :: ⟨18, [], [], false, [], []⟩ :: ⟨19, [], [], false, [], []⟩ :: ⟨20, [], [], false, [], []⟩ :: ⟨21, [], [], false, [], []⟩ :: ⟨22, [], [], false, [], []⟩ :: ⟨23, [], [], false, [], []⟩ :: ⟨24, [], [], false, [], []⟩ :: ⟨25, [9, 18], [], false, [], []⟩ :: ⟨26, [19], [], false, [], []⟩ :: ⟨27, [], [], false, [], []⟩ :: ⟨28, [], [], false, [], []⟩ :: ⟨29, [], [], false, [], []⟩ :: ⟨30, [], [], false, [], []⟩ :: ⟨31, [], [], false, [], []⟩ :: ⟨32, [], [], false, [], []⟩ :: ⟨33, [], [], false, [], []⟩ :: ⟨34, [], [], false, [], []⟩ :: ⟨35, [], [], false, [], []⟩ :: ⟨36, [20, 29], [], false, [], []⟩ :: ⟨37, [30], [], false, [], []⟩ :: ⟨38, [], [], false, [], []⟩ :: ⟨39, [], [], false, [], []⟩ :: ⟨40, [], [], false, [], []⟩ :: ⟨41, [], [], false, [], []⟩ :: ⟨42, [], [], false, [], []⟩ :: ⟨43, [], [], false, [], []⟩ :: ⟨44, [], [], false, [], []⟩ :: ⟨45, [], [], false, [], []⟩ :: ⟨46, [], [], false, [], []⟩ :: ⟨47, [31, 40], [], false, [], []⟩ :: ⟨48, [41], [], false, [], []⟩ :: ⟨49, [], [], false, [], []⟩ :: ⟨50, [], [], false, [], []⟩ :: ⟨51, [], [], false, [], []⟩ :: ⟨52, [], [], false, [], []⟩ :: ⟨53, [], [], false, [], []⟩ :: ⟨54, [], [], false, [], []⟩ :: ⟨55, [], [], false, [], []⟩ :: ⟨56, [], [], false, [], []⟩ :: ⟨57, [], [], false, [], []⟩ :: ⟨58, [], [], false, [], []⟩ :: ⟨59, [], [], false, [], []⟩ :: ⟨60, [42, 53], [], false, [], []⟩ :: []) ([] :: [] :: [] :: [] :: [] :: [] :: [] :: [] :: [] :: [] :: [] :: [] :: [] :: [] :: [] :: [] :: [] :: [] :: [] :: [] :: [] :: [] :: [] :: [] :: [] :: [] :: [] :: [] :: [] :: [] :: [] :: [] :: [] :: [] :: [] :: [] :: [] :: [] :: [] :: [] :: [] :: [] :: [] :: [] :: [] :: [] :: [] :: [] :: [] :: [] :: [] :: [] :: [] :: [] :: [] :: []) ([] :: [] :: [] :: [] :: [] :: [] :: [] :: [] :: [] :: [] :: [] :: [] :: [] :: [] :: [] :: [] :: [] :: [] :: [] :: [] :: [] :: [] :: [] :: [] :: [] :: [] :: [] :: [] :: [] :: [] :: [] :: [] :: [] :: [] :: [] :: [] :: [] :: [] :: [] :: [] :: [] :: [] :: [] :: [] :: [] :: [] :: [] :: [] :: [] :: [] :: [] :: [] :: [] :: [] :: [] :: []) tMixk (fun _ => by rfl) (fun _ => by rfl) (by kernel_rfl) (by kernel_rfl) (by rfl) (by rfl)
        (fun β => ⟨.p rfl (by intro X; exact op_move rfl),
        ⟨.p rfl (by intro X; rintro _ _ ⟨rfl, rfl⟩; exact op_nilCheck rfl),
        ⟨.p rfl (by intro X; rintro _ _ ⟨rfl, rfl⟩; exact op_fieldAddr (off := 0) rfl tF36_0k),
        ⟨.p rfl (by intro X; rintro _ _ ⟨rfl, rfl⟩; exact op_load1 rfl tO3k (Ent.app (Ent.app (Ent.fld hd1 0) X) _)),
        ⟨.p rfl (by intro X; exact op_move rfl),
        ⟨.p rfl (by intro X; rintro _ _ ⟨rfl, rfl⟩; exact op_nilCheck rfl),
        ⟨.p rfl (by intro X; rintro _ _ ⟨rfl, rfl⟩; exact op_fieldAddr (off := 0) rfl tF36_0k),
        ⟨.p rfl (by intro X; rintro _ _ ⟨rfl, rfl⟩; exact op_load1 rfl tO3k (Ent.app (Ent.app (Ent.fld hd2 0) X) _)),
        ⟨.p rfl (by intro X; rintro _ _ ⟨rfl, rfl⟩ _ _ ⟨rfl, rfl⟩; exact op_val (v' := .bool true) (by simp [h1]) (op_neq rfl rfl)),
        ⟨.p rfl (by intro X; rintro _ _ ⟨rfl, rfl⟩; exact op_move rfl),
        ⟨.u rfl rfl rfl (by rintro _ _ ⟨rfl, rfl⟩; exact congrArg (offB false) (by rfl : _ = Value.bool true)) ⟨rfl, rfl⟩ rfl rfl,
        ⟨.u rfl rfl rfl (by rintro _ _ ⟨rfl, rfl⟩; exact congrArg (offB false) (by rfl : _ = Value.bool true)) ⟨rfl, rfl⟩ rfl rfl,
        ⟨.u rfl rfl rfl (by rintro _ _ ⟨rfl, rfl⟩; exact congrArg (offB false) (by rfl : _ = Value.bool true)) ⟨rfl, rfl⟩ rfl rfl,
        ⟨.u rfl rfl rfl (by rintro _ _ ⟨rfl, rfl⟩; exact congrArg (offB false) (by rfl : _ = Value.bool true)) ⟨rfl, rfl⟩ rfl rfl,
        ⟨.u rfl rfl rfl (by rintro _ _ ⟨rfl, rfl⟩; exact congrArg (offB false) (by rfl : _ = Value.bool true)) ⟨rfl, rfl⟩ rfl rfl,
        ⟨.u rfl rfl rfl (by rintro _ _ ⟨rfl, rfl⟩; exact congrArg (offB false) (by rfl : _ = Value.bool true)) ⟨rfl, rfl⟩ rfl rfl,
        ⟨.u rfl rfl rfl (by rintro _ _ ⟨rfl, rfl⟩; exact congrArg (offB false) (by rfl : _ = Value.bool true)) ⟨rfl, rfl⟩ rfl rfl,
        ⟨.u rfl rfl rfl (by rintro _ _ ⟨rfl, rfl⟩; exact congrArg (offB false) (by rfl : _ = Value.bool true)) ⟨rfl, rfl⟩ rfl rfl,
        ⟨.u rfl rfl rfl (by rintro _ _ ⟨rfl, rfl⟩; exact congrArg (offB false) (by rfl : _ = Value.bool true)) ⟨rfl, rfl⟩ rfl rfl,
        ⟨.p rfl (by intro X; rintro _ _ ⟨rfl, rfl⟩ _ _ ⟨rfl, rfl⟩; exact op_pick_t rfl rfl),
        ⟨.p rfl (by intro X; rintro _ _ ⟨rfl, rfl⟩; exact op_move rfl),
        ⟨.u rfl rfl rfl (by rintro _ _ ⟨rfl, rfl⟩; exact congrArg (offB false) (by rfl : _ = Value.bool true)) ⟨rfl, rfl⟩ rfl rfl,
        ⟨.u rfl rfl rfl (by rintro _ _ ⟨rfl, rfl⟩; exact congrArg (offB false) (by rfl : _ = Value.bool true)) ⟨rfl, rfl⟩ rfl rfl,
        ⟨.u rfl rfl rfl (by rintro _ _ ⟨rfl, rfl⟩; exact congrArg (offB false) (by rfl : _ = Value.bool true)) ⟨rfl, rfl⟩ rfl rfl,
        ⟨.u rfl rfl rfl (by rintro _ _ ⟨rfl, rfl⟩; exact congrArg (offB false) (by rfl : _ = Value.bool true)) ⟨rfl, rfl⟩ rfl rfl,
        ⟨.u rfl rfl rfl (by rintro _ _ ⟨rfl, rfl⟩; exact congrArg (offB false) (by rfl : _ = Value.bool true)) ⟨rfl, rfl⟩ rfl rfl,
        ⟨.u rfl rfl rfl (by rintro _ _ ⟨rfl, rfl⟩; exact congrArg (offB false) (by rfl : _ = Value.bool true)) ⟨rfl, rfl⟩ rfl rfl,
        ⟨.u rfl rfl rfl (by rintro _ _ ⟨rfl, rfl⟩; exact congrArg (offB false) (by rfl : _ = Value.bool true)) ⟨rfl, rfl⟩ rfl rfl,
        ⟨.u rfl rfl rfl (by rintro _ _ ⟨rfl, rfl⟩; exact congrArg (offB false) (by rfl : _ = Value.bool true)) ⟨rfl, rfl⟩ rfl rfl,
        ⟨.u rfl rfl rfl (by rintro _ _ ⟨rfl, rfl⟩; exact congrArg (offB false) (by rfl : _ = Value.bool true)) ⟨rfl, rfl⟩ rfl rfl,
        ⟨.p rfl (by intro X; rintro _ _ ⟨rfl, rfl⟩ _ _ ⟨rfl, rfl⟩; exact op_pick_t rfl rfl),
        ⟨.p rfl (by intro X; rintro _ _ ⟨rfl, rfl⟩; exact op_move rfl),
        ⟨.u rfl rfl rfl (by rintro _ _ ⟨rfl, rfl⟩; exact congrArg (offB false) (by rfl : _ = Value.bool true)) ⟨rfl, rfl⟩ rfl rfl,
        ⟨.u rfl rfl rfl (by rintro _ _ ⟨rfl, rfl⟩; exact congrArg (offB false) (by rfl : _ = Value.bool true)) ⟨rfl, rfl⟩ rfl rfl,
        ⟨.u rfl rfl rfl (by rintro _ _ ⟨rfl, rfl⟩; exact congrArg (offB false) (by rfl : _ = Value.bool true)) ⟨rfl, rfl⟩ rfl rfl,
        ⟨.u rfl rfl rfl (by rintro _ _ ⟨rfl, rfl⟩; exact congrArg (offB false) (by rfl : _ = Value.bool true)) ⟨rfl, rfl⟩ rfl rfl,
        ⟨.u rfl rfl rfl (by rintro _ _ ⟨rfl, rfl⟩; exact congrArg (offB false) (by rfl : _ = Value.bool true)) ⟨rfl, rfl⟩ rfl rfl,
        ⟨.u rfl rfl rfl (by rintro _ _ ⟨rfl, rfl⟩; exact congrArg (offB false) (by rfl : _ = Value.bool true)) ⟨rfl, rfl⟩ rfl rfl,
        ⟨.u rfl rfl rfl (by rintro _ _ ⟨rfl, rfl⟩; exact congrArg (offB false) (by rfl : _ = Value.bool true)) ⟨rfl, rfl⟩ rfl rfl,
        ⟨.u rfl rfl rfl (by rintro _ _ ⟨rfl, rfl⟩; exact congrArg (offB false) (by rfl : _ = Value.bool true)) ⟨rfl, rfl⟩ rfl rfl,
        ⟨.u rfl rfl rfl (by rintro _ _ ⟨rfl, rfl⟩; exact congrArg (offB false) (by rfl : _ = Value.bool true)) ⟨rfl, rfl⟩ rfl rfl,
        ⟨.p rfl (by intro X; rintro _ _ ⟨rfl, rfl⟩ _ _ ⟨rfl, rfl⟩; exact op_pick_t rfl rfl),
        ⟨.p rfl (by intro X; rintro _ _ ⟨rfl, rfl⟩; exact op_move rfl),
        ⟨.u rfl rfl rfl (by rintro _ _ ⟨rfl, rfl⟩; exact congrArg (offB false) (by rfl : _ = Value.bool true)) ⟨rfl, rfl⟩ rfl rfl,
        ⟨.u rfl rfl rfl (by rintro _ _ ⟨rfl, rfl⟩; exact congrArg (offB false) (by rfl : _ = Value.bool true)) ⟨rfl, rfl⟩ rfl rfl,
        ⟨.u rfl rfl rfl (by rintro _ _ ⟨rfl, rfl⟩; exact congrArg (offB false) (by rfl : _ = Value.bool true)) ⟨rfl, rfl⟩ rfl rfl,
        ⟨.u rfl rfl rfl (by rintro _ _ ⟨rfl, rfl⟩; exact congrArg (offB false) (by rfl : _ = Value.bool true)) ⟨rfl, rfl⟩ rfl rfl,
        ⟨.u rfl rfl rfl (by rintro _ _ ⟨rfl, rfl⟩; exact congrArg (offB false) (by rfl : _ = Value.bool true)) ⟨rfl, rfl⟩ rfl rfl,
        ⟨.u rfl rfl rfl (by rintro _ _ ⟨rfl, rfl⟩; exact congrArg (offB false) (by rfl : _ = Value.bool true)) ⟨rfl, rfl⟩ rfl rfl,
        ⟨.u rfl rfl rfl (by rintro _ _ ⟨rfl, rfl⟩; exact congrArg (offB false) (by rfl : _ = Value.bool true)) ⟨rfl, rfl⟩ rfl rfl,
        ⟨.u rfl rfl rfl (by rintro _ _ ⟨rfl, rfl⟩; exact congrArg (offB false) (by rfl : _ = Value.bool true)) ⟨rfl, rfl⟩ rfl rfl,
        ⟨.u rfl rfl rfl (by rintro _ _ ⟨rfl, rfl⟩; exact congrArg (offB false) (by rfl : _ = Value.bool true)) ⟨rfl, rfl⟩ rfl rfl,
        ⟨.u rfl rfl rfl (by rintro _ _ ⟨rfl, rfl⟩; exact congrArg (offB false) (by rfl : _ = Value.bool true)) ⟨rfl, rfl⟩ rfl rfl,
        ⟨.u rfl rfl rfl (by rintro _ _ ⟨rfl, rfl⟩; exact congrArg (offB false) (by rfl : _ = Value.bool true)) ⟨rfl, rfl⟩ rfl rfl,
        ⟨.p rfl (by intro X; rintro _ _ ⟨rfl, rfl⟩ _ _ ⟨rfl, rfl⟩; exact op_pick_t rfl rfl),
        trivial⟩⟩⟩⟩⟩⟩⟩⟩⟩⟩⟩⟩⟩⟩⟩⟩⟩⟩⟩⟩⟩⟩⟩⟩⟩⟩⟩⟩⟩⟩⟩⟩⟩⟩⟩⟩⟩⟩⟩⟩⟩⟩⟩⟩⟩⟩⟩⟩⟩⟩⟩⟩⟩⟩⟩)
        (fun β β' => ⟨fun _ => by rfl, ⟨fun _ => by rfl, ⟨fun _ => by rfl, ⟨fun _ => by rfl, ⟨fun _ => by rfl, ⟨fun _ => by rfl, ⟨fun _ => by rfl, ⟨fun _ => by rfl, ⟨fun _ => by rfl, ⟨fun _ => by rfl, ⟨fun _ => by rfl, ⟨fun _ => by rfl, ⟨fun _ => by rfl, ⟨fun _ => by rfl, ⟨fun _ => by rfl, ⟨fun _ => by rfl, ⟨fun _ => by rfl, ⟨fun _ => by rfl, ⟨fun _ => by rfl, ⟨fun _ => by rfl, ⟨fun _ => by rfl, ⟨fun _ => by rfl, ⟨fun _ => by rfl, ⟨fun _ => by rfl, ⟨fun _ => by rfl, ⟨fun _ => by rfl, ⟨fun _ => by rfl, ⟨fun _ => by rfl, ⟨fun _ => by rfl, ⟨fun _ => by rfl, ⟨fun _ => by rfl, ⟨fun _ => by rfl, ⟨fun _ => by rfl, ⟨fun _ => by rfl, ⟨fun _ => by rfl, ⟨fun _ => by rfl, ⟨fun _ => by rfl, ⟨fun _ => by rfl, ⟨fun _ => by rfl, ⟨fun _ => by rfl, ⟨fun _ => by rfl, ⟨fun _ => by rfl, ⟨fun _ => by rfl, ⟨fun _ => by rfl, ⟨fun _ => by rfl, ⟨fun _ => by rfl, ⟨fun _ => by rfl, ⟨fun _ => by rfl, ⟨fun _ => by rfl, ⟨fun _ => by rfl, ⟨fun _ => by rfl, ⟨fun _ => by rfl, ⟨fun _ => by rfl, ⟨fun _ => by rfl, ⟨fun _ => by rfl, trivial⟩⟩⟩⟩⟩⟩⟩⟩⟩⟩⟩⟩⟩⟩⟩⟩⟩⟩⟩⟩⟩⟩⟩⟩⟩⟩⟩⟩⟩⟩⟩⟩⟩⟩⟩⟩⟩⟩⟩⟩⟩⟩⟩⟩⟩⟩⟩⟩⟩⟩⟩⟩⟩⟩⟩) ?_
    intro β
    rintro _ _ ⟨rfl, rfl⟩ _ _ ⟨rfl, rfl⟩ _ _ ⟨rfl, rfl⟩ _ _ ⟨rfl, rfl⟩ _ _ ⟨rfl, rfl⟩ _ _ ⟨rfl, rfl⟩ _ _ ⟨rfl, rfl⟩ _ _ ⟨rfl, rfl⟩ _ _ ⟨rfl, rfl⟩ _ _ ⟨rfl, rfl⟩ _ _ ⟨rfl, rfl⟩ _ _ ⟨rfl, rfl⟩ _ _ ⟨rfl, rfl⟩ _ _ ⟨rfl, rfl⟩ _ _ ⟨rfl, rfl⟩ _ _ ⟨rfl, rfl⟩ _ _ ⟨rfl, rfl⟩ _ _ ⟨rfl, rfl⟩ _ _ ⟨rfl, rfl⟩ _ _ ⟨rfl, rfl⟩ _ _ ⟨rfl, rfl⟩ _ _ ⟨rfl, rfl⟩ _ _ ⟨rfl, rfl⟩ _ _ ⟨rfl, rfl⟩ _ _ ⟨rfl, rfl⟩ _ _ ⟨rfl, rfl⟩ _ _ ⟨rfl, rfl⟩ _ _ ⟨rfl, rfl⟩ _ _ ⟨rfl, rfl⟩ _ _ ⟨rfl, rfl⟩ _ _ ⟨rfl, rfl⟩ _ _ ⟨rfl, rfl⟩ _ _ ⟨rfl, rfl⟩ _ _ ⟨rfl, rfl⟩ _ _ ⟨rfl, rfl⟩ _ _ ⟨rfl, rfl⟩ _ _ ⟨rfl, rfl⟩ _ _ ⟨rfl, rfl⟩ _ _ ⟨rfl, rfl⟩ _ _ ⟨rfl, rfl⟩ _ _ ⟨rfl, rfl⟩ _ _ ⟨rfl, rfl⟩ _ _ ⟨rfl, rfl⟩ _ _ ⟨rfl, rfl⟩ _ _ ⟨rfl, rfl⟩ _ _ ⟨rfl, rfl⟩ _ _ ⟨rfl, rfl⟩ _ _ ⟨rfl, rfl⟩ _ _ ⟨rfl, rfl⟩ _ _ ⟨rfl, rfl⟩ _ _ ⟨rfl, rfl⟩ _ _ ⟨rfl, rfl⟩ _ _ ⟨rfl, rfl⟩ _ _ ⟨rfl, rfl⟩ _ _ ⟨rfl, rfl⟩
    refine wl_norm (e' := [(0, _), (1, _), (60, _)]) (.cons rfl (.cons rfl (.cons rfl (.nil _)))) (by dsimp only [cond_false, cond_true, List.nil_append, List.cons_append]) ?_
    refine wl_nil ?_
    refine st_tn ?_
    refine w_cond_t (rfl) ?_
    refine w_seq ?_
    refine w_region ?_
    refine wl_det rfl rfl rfl (op_assign rfl) ?_
    refine wl_nil ?_
    refine st_tn ?_
    refine w_ret ?_
    refine st_tr ?_
    refine st_ret (vs := [_]) [] Try.results32 ⟨rfl, trivial⟩ rfl ?_
    refine ⟨_, rfl, ?_⟩
    exact ⟨by rw [dec_st2]; simp [retv, h1], rfl⟩

set_option maxHeartbeats 400000 in
set_option maxRecDepth 100000 in
theorem copied_any {σ : World} {F : List Res} {b : Nat} {s : St} {a : Option Addr} {m c : Nat} (lab1 lab2 : Nat) (hg : DskM.Good s) (hd : Ent σ F (At ⟨b, 0, none⟩ (cellS s a m c))) (h : Sl σ F encM 4 (.slice a m c) s.fs) :
    FnT Try.prog σ F 31 [.pointer (some ⟨b, 0, none⟩)] [] (fun u ρ => ∃ bb a' m' c', u = .pointer (some ⟨bb, 0, none⟩) ∧ ρ = [(lab1, cel bb (cellS s a' m' c') 36), (lab2, slW 51 encM 4 (.slice a' m' c') s.fs)]) := by
  refine fn_of 14 Try.func31 rfl Try.ntmps31 rfl ?_
  have hcnt := hg.cnt
  refine w_seq ?_
  refine w_region ?_
  refine wl_det rfl rfl rfl (op_assign rfl) ?_
  refine wl_nil ?_
  refine st_tn ?_
  refine w_seq ?_
  refine w_region ?_
  refine wl_det rfl rfl rfl (op_move rfl) ?_
  refine wl_det rfl rfl rfl (op_nilCheck rfl) ?_
  refine wl_det rfl rfl rfl (op_loadA rfl tA36k (Ent.app hd _) (Nat.le_of_ble_eq_true rfl)) ?_
  refine wl_op [] rfl rfl rfl rfl (op_alloc (l := 3) tN36k) ?_
  rintro _ _ ⟨b3, rfl, rfl⟩
  refine wl_op0 [3] rfl rfl rfl (op_store rfl rfl tZ36k (by rfl) (by rfl) (by exact Nat.le_of_ble_eq_true rfl)) ?_
  rintro _ _ ⟨rfl, rfl⟩
  refine wl_nil ?_
  refine st_tn ?_
  refine w_seq ?_
  refine w_region ?_
  refine wl_op [] rfl rfl rfl rfl (op_lit0 (enc := encM) (lab := 7) tS34k) ?_
  rintro _ _ ⟨a7, c7, rfl, rfl⟩
  refine wl_det rfl rfl rfl (op_move rfl) ?_
  refine wl_det rfl rfl rfl (op_nilCheck rfl) ?_
  refine wl_det rfl rfl rfl (op_fieldAddr (off := 1) rfl tF36_1k) ?_
  refine wl_det rfl rfl rfl (op_load1 rfl tO34k (Ent.app (Ent.fld hd 1) _)) ?_
  refine wl_op [7] rfl rfl rfl rfl (op_append (lab := 7) (lab' := 12) rfl rfl tP34k enc1M (Sl.app h _) (by first | omega | (simp; done) | (simp; omega) | (simp [*]; omega)) (by first | omega | (simp; done) | (simp; omega) | (simp [*]; omega))) ?_
  rintro _ _ ⟨a12, c12, rfl, rfl⟩
  refine wl_det rfl rfl rfl (op_fieldAddr (off := 1) rfl tF36_1k) ?_
  refine wl_op0 [3] rfl rfl rfl (op_store rfl rfl tZ34k (by rfl) (by rfl) (by exact Nat.le_of_ble_eq_true rfl)) ?_
  rintro _ _ ⟨rfl, rfl⟩
  refine wl_nil ?_
  refine st_tn ?_
  refine w_seq ?_
  refine w_region ?_
  refine wl_det rfl rfl rfl (op_assign rfl) ?_
  refine wl_nil ?_
  refine st_tn ?_
  refine w_ret ?_
  refine st_ret (vs := [_]) [3, 12] Try.results31 ⟨rfl, trivial⟩ rfl ?_
  refine ⟨[(lab1, _), (lab2, _)], rfl, ?_⟩
  exact ⟨_, _, _, _, rfl, rfl⟩

set_option maxHeartbeats 400000 in
set_option maxRecDepth 100000 in
theorem capac_any {σ : World} {F : List Res} (n : Int) (hn : 0 ≤ n ∧ n ≤ 255) :
    FnT Try.prog σ F 13 [.int .u8 n] [] (fun u ρ => u = .int .i64 (20 + n) ∧ ρ = []) := by
  refine fn_of 6 Try.func13 rfl Try.ntmps13 rfl ?_
  refine w_seq ?_
  refine w_region ?_
  refine wl_det rfl rfl rfl (op_assign rfl) ?_
  refine wl_nil ?_
  refine st_tn ?_
  refine w_seq ?_
  refine w_region ?_
  refine wl_det rfl rfl rfl (op_move rfl) ?_
  refine wl_det rfl rfl rfl (op_convI64 rfl (by rw [Try.underlying5]; rfl) Try.underlying3 (by omega)) ?_
  refine wl_det rfl rfl rfl (op_add' rfl rfl (by omega)) ?_
  refine wl_det rfl rfl rfl (op_assign rfl) ?_
  refine wl_nil ?_
  refine st_tn ?_
  refine w_ret ?_
  refine st_ret (vs := [_]) [] Try.results13 ⟨rfl, trivial⟩ rfl ?_
  refine ⟨_, rfl, ?_⟩
  exact ⟨rfl, rfl⟩

def newS (n : Int) : St := ⟨n, [], false, false, 0⟩
theorem good_new {n : Int} (h : 0 ≤ n ∧ n ≤ 67108864) : DskM.Good (newS n) := ⟨List.Pairwise.nil, by simp [newS], by simp [newS], by simp [newS], by simp [newS, used]; omega, h.2, Int.le_refl _, by show (0 : Int) ≤ _; omega⟩
set_option maxHeartbeats 400000 in
set_option maxRecDepth 100000 in
theorem new_ok {σ : World} {F : List Res} (n : Int) (lab1 lab2 : Nat) (hn : 0 ≤ n ∧ n ≤ 67108864) :
    FnT Try.prog σ F 12 [.int .i64 n] [] (fun u ρ => ∃ b m, u = .tuple #[.pointer (some ⟨b, 0, none⟩), .int .i64 0] ∧ ρ = [(lab1, cel b (cellD (newS n) m) 65), (lab2, mp KL encF m [])]) := by
  refine fn_of 14 Try.func12 rfl Try.ntmps12 rfl ?_
  refine w_seq ?_
  refine w_region ?_
  refine wl_det rfl rfl rfl (op_assign rfl) ?_
  refine wl_det rfl rfl rfl (op_assign rfl) ?_
  refine wl_nil ?_
  refine st_tn ?_
  refine w_seq ?_
  refine w_seq ?_
  refine w_region ?_
  refine wl_det rfl rfl rfl (op_move rfl) ?_
  refine wl_det rfl rfl rfl (op_val (v' := .bool false) (by simp; omega) (op_lss rfl rfl)) ?_
  refine wl_det rfl rfl rfl (op_move rfl) ?_
  refine wl_wanted_det rfl rfl rfl rfl rfl rfl rfl (op_move rfl) ?_
  refine wl_wanted_det rfl rfl rfl rfl rfl rfl rfl (op_val (v' := .bool false) (by simp; omega) (op_gtr rfl rfl)) ?_
  refine wl_det rfl rfl rfl (op_pick_f rfl rfl) ?_
  refine wl_nil ?_
  refine st_tn ?_
  refine w_cond_f (rfl) ?_
  refine w_skip ?_
  refine st_tn ?_
  refine w_seq ?_
  refine w_region ?_
  refine wl_det rfl rfl rfl (op_move rfl) ?_
  refine wl_op [] rfl rfl rfl rfl (op_makeMap (kt := KL) (encV := encF) (lab := 11)) ?_
  rintro _ _ ⟨b11, rfl, rfl⟩
  refine wl_det rfl rfl rfl (op_build tB65k rfl rfl) ?_
  refine wl_op [] rfl rfl rfl rfl (op_box (T := 65) (l := 13) rfl) ?_
  rintro _ _ ⟨b13, rfl, rfl⟩
  refine wl_det rfl rfl rfl (op_assign rfl) ?_
  refine wl_det rfl rfl rfl (op_assign rfl) ?_
  refine wl_nil ?_
  refine st_tn ?_
  refine w_ret ?_
  refine st_ret (vs := [_, _]) [13, 11] Try.results12 ⟨rfl, ⟨rfl, trivial⟩⟩ rfl ?_
  refine ⟨[(lab1, _), (lab2, _)], rfl, ?_⟩
  exact ⟨_, _, rfl, rfl⟩

set_option maxHeartbeats 400000 in
set_option maxRecDepth 100000 in
theorem new_err {σ : World} {F : List Res} (n : Int) (hn : ¬ (0 ≤ n ∧ n ≤ 67108864)) :
    FnT Try.prog σ F 12 [.int .i64 n] [] (fun u ρ => u = .tuple #[.pointer none, .int .i64 2] ∧ ρ = []) := by
  refine fn_of 14 Try.func12 rfl Try.ntmps12 rfl ?_
  refine w_seq ?_
  refine w_region ?_
  refine wl_det rfl rfl rfl (op_assign rfl) ?_
  refine wl_det rfl rfl rfl (op_assign rfl) ?_
  refine wl_nil ?_
  refine st_tn ?_
  refine w_seq ?_
  refine w_seq ?_
  refine w_cutL [(9, .bool (decide (n < 0 ∨ n > 67108864)))] [0] [] rfl (fun K' hK => ?_) ?_
  · -- cut r1
    refine w_region ?_
    refine wl_det rfl rfl rfl (op_move rfl) ?_
    refine wl_det rfl rfl rfl (op_lss rfl rfl) ?_
    refine wl_det rfl rfl rfl (op_move rfl) ?_
    refine wl_gsplit (t := 6) rfl (fun hg6 => ?_) (fun hg6 => ?_)
    · -- 6 is True
      refine wl_unwanted rfl rfl rfl rfl rfl rfl rfl rfl ?_
      refine wl_unwanted rfl rfl rfl rfl rfl rfl rfl rfl ?_
      refine wl_det rfl rfl rfl (op_pick_t rfl rfl) ?_
      refine wl_nil ?_
      refine st_tn ?_
      exact cut_done1 [] hK rfl (by first | (rw [decide_eq_decide]; omega) | (symm; rw [decide_eq_false_iff_not]; omega) | (symm; rw [decide_eq_true_iff]; omega) | (simp; done) | (simp; omega) | (simp [*]; done) | (simp [*]; omega)) (by rfl) rfl rfl
    · -- 6 is False
      refine wl_wanted_det rfl rfl rfl rfl rfl rfl rfl (op_move rfl) ?_
      refine wl_wanted_det rfl rfl rfl rfl rfl rfl rfl (op_gtr rfl rfl) ?_
      refine wl_det rfl rfl rfl (op_pick_f rfl rfl) ?_
      refine wl_nil ?_
      refine st_tn ?_
      exact cut_done1 [] hK rfl (by first | (rw [decide_eq_decide]; omega) | (symm; rw [decide_eq_false_iff_not]; omega) | (symm; rw [decide_eq_true_iff]; omega) | (simp; done) | (simp; omega) | (simp [*]; done) | (simp [*]; omega)) (by rfl) rfl rfl
  · -- behind r1
    show W _ _ _ _ _ [(9, _), (0, _)] [] _
    refine w_cond_d rfl (fun hc9 => ?_) (fun hc9 => ?_)
    · -- c9.t
      refine w_seq ?_
      refine w_region ?_
      refine wl_det rfl rfl rfl (op_assign rfl) ?_
      refine wl_det rfl rfl rfl (op_assign rfl) ?_
      refine wl_nil ?_
      refine st_tn ?_
      refine w_ret ?_
      refine st_tr ?_
      refine st_ret (vs := [_, _]) [] Try.results12 ⟨rfl, ⟨rfl, trivial⟩⟩ rfl ?_
      refine ⟨_, rfl, ?_⟩
      exact ⟨rfl, rfl⟩
    · -- c9.f
      exact absurd hc9 (by omega)

end Go.Proofs.Ytjlbeakdgadpmaa
