/- Match on the law's own two lists: each round of the loops walked by itself (printed by mkc6.py). The example of layer 45. What a story's series come to (layer 45). The series of a law's story: splitting, joining, shifting (layer 45). The law TopSeriesCommute. The story argument of the laws of layer 43, opened. Conditions: none. -/
import Derived.Test.YtecmigildpkigaaGreatSlZ
import Derived.Test.YtecmigildpkigaaGreatTCc
import Derived.Test.YtecmigildpkigaaGreatTCb
import Derived.Test.YtecmigildpkigaaGreatTCa
import Derived.Test.YtecmigildpkigaaGreatSlD
namespace Go.Proofs.YtecmigildpkigaaGreat
open Go Go.SL Go.RowKit Go.SegP
set_option linter.unusedVariables false
set_option linter.unusedSimpArgs false
def encPt (x : Option Nat) : List Value := [.pointer (x.map fun b => ⟨b, 0, none⟩)]
def encPr (x : Int × Int) : List Value := [.int .i64 x.1, .int .i64 x.2]
theorem enc1Pr : Enc1 encPr 2 := ⟨fun _ => rfl, fun a u h => by simp only [encPr, List.mem_cons, List.not_mem_nil, or_false] at h; rcases h with rfl | rfl <;> rfl⟩
theorem w_lab {P : Program} {σ : World} {n : Nat} {c : Code} {Q : Exit → Act → World → Prop} {e : Env} {R R' A B : RL} {F : List Res} (L : List Nat) (ht : takeL R L = some (A, B)) (hA : rs A = rs R') (h : W P σ n c Q e R' F) : W P σ n c Q e R F := fun a w hr ho => h a w hr (hA ▸ ho.keep ht)
abbrev chA : List ChV := [(10, 0, 1), (20, 0, 1)]
abbrev chB : List ChV := [(12, 0, 1), (19, 0, 1)]
theorem tA52vf : aggB Tryz.prog 52 3 = true := by kernel_rfl
theorem tA96vf : aggB Tryz.prog 96 2 = true := by kernel_rfl
theorem tB125vf : placesB Tryz.prog 125 = some ([(0, 1), (1, 1), (2, 2), (4, 1)], [Value.int .i64 0, Value.int .i64 0, Value.int .i64 0, Value.int .i64 0, Value.pointer none]) := by kernel_rfl
theorem tC96vf : arrZB Tryz.prog 96 2 1 = some [Value.int .i64 0, Value.int .i64 0] := by kernel_rfl
theorem tF125_0vf : fieldB Tryz.prog 125 0 0 = true := by kernel_rfl
theorem tF125_1vf : fieldB Tryz.prog 125 1 1 = true := by kernel_rfl
theorem tF125_2vf : fieldB Tryz.prog 125 2 2 = true := by kernel_rfl
theorem tF125_3vf : fieldB Tryz.prog 125 3 4 = true := by kernel_rfl
theorem tF52_0vf : fieldB Tryz.prog 52 0 0 = true := by kernel_rfl
theorem tL93_1vf : zerosB Tryz.prog 93 96 2 1 = some [Value.int .i64 0, Value.int .i64 0] := by kernel_rfl
theorem tMixvf : Tryz.prog.follows .mixedOrders = true := by kernel_rfl
theorem tO123vf : oneB Tryz.prog 123 = true := by kernel_rfl
theorem tO3vf : oneB Tryz.prog 3 = true := by kernel_rfl
theorem tS126vf : sliceB Tryz.prog 126 123 1 = true := by kernel_rfl
theorem tS48vf : sliceB Tryz.prog 48 52 3 = true := by kernel_rfl
theorem tPp : appB Tryz.prog 93 96 2 16 = true := by kernel_rfl
theorem tMp : makeB Tryz.prog 126 123 8 = some (.pointer none) := by kernel_rfl
theorem op_stP {P : Program} {σ : World} {n : Nat} {e : Env} {F : List Res} {dst : Option Tmp} {ty : TypeId} {pos : String} {after : Array Edge} {guard : Option (Nat × Bool)} {T E i lab : Nat} {x y : Operand} {a : Option Addr} {m c : Nat} {l : List (Option Nat)} {q : Option Nat} (hx : ev e x = some (.pointer (some (idxA (.slice a m c) i 1)))) (hy : ev e y = some (.pointer (q.map fun b => ⟨b, 0, none⟩))) (ht : oneB P T = true) (hi : i < l.length) :
    OpT P σ n F ⟨dst, .store T x y, ty, pos, after, guard⟩ e [(lab, slW E encPt 1 (.slice a m c) l)] (fun u ρ => u = undef ∧ ρ = [(lab, slW E encPt 1 (.slice a m c) (l.set i q))]) :=
  op_storeX (j := 0) hx hy ht rfl rfl (by rfl) (List.getElem?_eq_getElem hi) (by decide) (by rfl)
set_option maxHeartbeats 6000000 in
set_option maxRecDepth 100000 in
theorem matchS {σ : World} {F : List Res} {a b : Option Addr} {c d : Nat} (lab : Nat) (ha : Sl σ F encCh 3 (.slice a 2 c) chA) (hb : Sl σ F encCh 3 (.slice b 2 d) chB) :
    FnT Tryz.prog σ F 39 [.slice a 2 c, .slice b 2 d, .int .i64 1] [] (fun u ρ => ∃ (a' : Option Addr) (c' : Nat), u = .tuple #[.slice a' 1 c', .int .i64 0] ∧ ρ = [(lab, slW 96 encPr 2 (.slice a' 1 c') [(1, 1)])]) := by
  refine fn_of 172 Tryz.func39 rfl Tryz.ntmps39 rfl ?_
  refine w_seq (w_region (za rfl (za rfl (wl_nil (st_tn (w_seq (w_block (w_seq (w_region (zm rfl (zd rfl (op_lenT rfl tS48vf (Sl.ent (ha.app _))) (zd rfl (op_val (v' := .bool false) (by rfl) (op_gtr rfl rfl)) ?_))))))))))))
  refine zm rfl (wl_wanted_det rfl rfl rfl rfl rfl rfl rfl (op_move rfl) (wl_wanted_det rfl rfl rfl rfl rfl rfl rfl (op_lenT rfl tS48vf (Sl.ent (hb.app _))) (wl_wanted_det rfl rfl rfl rfl rfl rfl rfl (op_val (v' := .bool false) (by rfl) (op_gtr rfl rfl)) ?_)))
  refine zd rfl (op_pick_f rfl rfl) (za rfl (wl_nil (st_tn (w_cond_f (rfl) ?_))))
  refine w_seq (w_region (zm rfl (zd rfl (op_val (v' := .bool false) (by rfl) (op_lss rfl rfl)) ?_)))
  refine zm rfl (wl_wanted_det rfl rfl rfl rfl rfl rfl rfl (op_move rfl) (wl_wanted_det rfl rfl rfl rfl rfl rfl rfl (op_val (v' := .bool false) (by rfl) (op_gtr rfl rfl)) ?_))
  refine zd rfl (op_pick_f rfl rfl) (za rfl (wl_nil (st_tn (w_cond_f (rfl) ?_))))
  refine w_skip (st_bn (st_tn (w_seq (w_region (zd rfl (op_build tB125vf rfl rfl) (wl_op [] rfl rfl rfl rfl (op_box (T := 125) (l := 37) rfl) ?_))))))
  rintro _ _ ⟨b37, rfl, rfl⟩
  refine za rfl (wl_nil (st_tn (w_seq (w_region (zm rfl (zd rfl (op_lenT rfl tS48vf (Sl.ent (hb.app _))) (zd rfl (op_val (v' := .int .i64 ((3 : Nat) : Int)) (by rfl) (op_add' rfl rfl (by first | omega | decide))) ?_)))))))
  refine wl_op [] rfl rfl rfl rfl (op_makeSlice (enc := encPt) (a0 := none) (m := 3) (lab := 41) rfl rfl tMp (fun _ => rfl) rfl rfl (by decide) (by unfold maxLen; decide)) ?_
  rintro _ _ ⟨a41, c41, rfl, rfl⟩
  refine za rfl (wl_nil (st_tn (w_seq (w_seq (w_region (zm rfl (zd rfl (op_lenT rfl tS126vf (Sl.ent (Sl.lab (l := [none, none, none]) 41 rfl (Nat.le_of_ble_eq_true rfl)))) (zm rfl (wl_nil (st_tn (w_block (w_rounds 3 ?_))))))))))))
  -- round l1.0
  refine w_sub (e' := [(0, _), (1, _), (2, _), (8, _), (9, _), (43, _), (44, _)]) (.cons rfl (.cons rfl (.cons rfl (.cons rfl (.cons rfl (.cons rfl (.cons rfl (.nil _)))))))) ?_
  refine w_seq (w_region (zd rfl (op_lss rfl rfl) (wl_nil (st_tn (w_seq (w_cond_t (rfl) ?_))))))
  refine w_skip (st_tn (w_seq (w_block (w_seq (w_region (zm rfl (za rfl (wl_nil (st_tn (w_region (zm rfl (zm rfl (zm rfl ?_)))))))))))))
  refine zd rfl (op_idx (i := 0) rfl rfl tS126vf (Sl.ent (Sl.lab (l := [none, none, none]) 41 rfl (Nat.le_of_ble_eq_true rfl))) (Nat.le_of_ble_eq_true rfl)) (wl_op0 [41] rfl rfl rfl (op_stP (lab := 41) (i := 0) (q := some b37) (l := [none, none, none]) rfl rfl tO123vf (Nat.le_of_ble_eq_true rfl)) ?_)
  rintro _ _ ⟨rfl, rfl⟩
  refine wl_nil (st_bn (st_tn (w_region (zd rfl (op_val (v' := .int .i64 ((1 : Nat) : Int)) (by rfl) (op_add' rfl rfl (by first | omega | decide))) ?_))))
  refine zm rfl (wl_nil (st_rounds ?_))
  -- round l1.1
  refine w_sub (e' := [(0, _), (1, _), (2, _), (8, _), (9, _), (43, _), (44, _)]) (.cons rfl (.cons rfl (.cons rfl (.cons rfl (.cons rfl (.cons rfl (.cons rfl (.nil _)))))))) ?_
  refine w_seq (w_region (zd rfl (op_lss rfl rfl) (wl_nil (st_tn (w_seq (w_cond_t (rfl) ?_))))))
  refine w_skip (st_tn (w_seq (w_block (w_seq (w_region (zm rfl (za rfl (wl_nil (st_tn (w_region (zm rfl (zm rfl (zm rfl ?_)))))))))))))
  refine zd rfl (op_idx (i := 1) rfl rfl tS126vf (Sl.ent (Sl.lab (l := [some b37, none, none]) 41 rfl (Nat.le_of_ble_eq_true rfl))) (Nat.le_of_ble_eq_true rfl)) (wl_op0 [41] rfl rfl rfl (op_stP (lab := 41) (i := 1) (q := some b37) (l := [some b37, none, none]) rfl rfl tO123vf (Nat.le_of_ble_eq_true rfl)) ?_)
  rintro _ _ ⟨rfl, rfl⟩
  refine wl_nil (st_bn (st_tn (w_region (zd rfl (op_val (v' := .int .i64 ((2 : Nat) : Int)) (by rfl) (op_add' rfl rfl (by first | omega | decide))) ?_))))
  refine zm rfl (wl_nil (st_rounds ?_))
  -- round l1.2
  refine w_sub (e' := [(0, _), (1, _), (2, _), (8, _), (9, _), (43, _), (44, _)]) (.cons rfl (.cons rfl (.cons rfl (.cons rfl (.cons rfl (.cons rfl (.cons rfl (.nil _)))))))) ?_
  refine w_seq (w_region (zd rfl (op_lss rfl rfl) (wl_nil (st_tn (w_seq (w_cond_t (rfl) ?_))))))
  refine w_skip (st_tn (w_seq (w_block (w_seq (w_region (zm rfl (za rfl (wl_nil (st_tn (w_region (zm rfl (zm rfl (zm rfl ?_)))))))))))))
  refine zd rfl (op_idx (i := 2) rfl rfl tS126vf (Sl.ent (Sl.lab (l := [some b37, some b37, none]) 41 rfl (Nat.le_of_ble_eq_true rfl))) (Nat.le_of_ble_eq_true rfl)) (wl_op0 [41] rfl rfl rfl (op_stP (lab := 41) (i := 2) (q := some b37) (l := [some b37, some b37, none]) rfl rfl tO123vf (Nat.le_of_ble_eq_true rfl)) ?_)
  rintro _ _ ⟨rfl, rfl⟩
  refine wl_nil (st_bn (st_tn (w_region (zd rfl (op_val (v' := .int .i64 ((3 : Nat) : Int)) (by rfl) (op_add' rfl rfl (by first | omega | decide))) ?_))))
  refine zm rfl (wl_nil (st_rounds ?_))
  -- round l1.3
  refine w_sub (e' := [(0, _), (1, _), (2, _), (8, _), (9, _), (43, _), (44, _)]) (.cons rfl (.cons rfl (.cons rfl (.cons rfl (.cons rfl (.cons rfl (.cons rfl (.nil _)))))))) ?_
  refine w_seq (w_region (zd rfl (op_lss rfl rfl) (wl_nil (st_tn (w_seq (w_cond_f (rfl) ?_))))))
  refine w_exit (st_te ?_)
  refine st_te ?_
  refine st_be (st_tn (w_seq (w_seq (w_region (zm rfl (zd rfl (op_lenT rfl tS48vf (Sl.ent (ha.app _))) (zd rfl (op_val (v' := .int .i64 ((1 : Nat) : Int)) (by rfl) (op_sub' rfl rfl (by first | omega | decide))) ?_)))))))
  refine za rfl (wl_nil (st_tn (w_block (w_rounds 2 ?_))))
  -- round l3.0
  refine w_sub (e' := [(0, _), (1, _), (2, _), (8, _), (9, _), (11, _)]) (.cons rfl (.cons rfl (.cons rfl (.cons rfl (.cons rfl (.cons rfl (.nil _))))))) ?_
  refine w_seq (w_seq (w_region (zm rfl (zd rfl (op_geq rfl rfl) (wl_nil (st_tn (w_cond_t (rfl) ?_)))))))
  refine w_skip (st_tn (w_seq (w_block (w_seq (w_region (zm rfl (zd rfl (op_lenT rfl tS48vf (Sl.ent (hb.app _))) (zd rfl (op_val (v' := .int .i64 ((3 : Nat) : Int)) (by rfl) (op_add' rfl rfl (by first | omega | decide))) ?_))))))))
  refine wl_op [] rfl rfl rfl rfl (op_makeSlice (enc := encPt) (a0 := none) (m := 3) (lab := 62) rfl rfl tMp (fun _ => rfl) rfl rfl (by decide) (by unfold maxLen; decide)) ?_
  rintro _ _ ⟨a62, c62, rfl, rfl⟩
  refine za rfl (wl_nil (st_tn (w_seq (w_region (zm rfl (zm rfl (zd rfl (op_lenT rfl tS48vf (Sl.ent (hb.app _))) (zm rfl (zd rfl (op_idx (i := 2) rfl rfl tS126vf (Sl.ent (Sl.lab (l := [none, none, none]) 62 rfl (Nat.le_of_ble_eq_true rfl))) (Nat.le_of_ble_eq_true rfl)) (wl_op0 [62] rfl rfl rfl (op_stP (lab := 62) (i := 2) (q := some b37) (l := [none, none, none]) rfl rfl tO123vf (Nat.le_of_ble_eq_true rfl)) ?_))))))))))
  rintro _ _ ⟨rfl, rfl⟩
  refine wl_nil (st_tn (w_seq (w_seq (w_region (zm rfl (zd rfl (op_lenT rfl tS48vf (Sl.ent (hb.app _))) (zd rfl (op_val (v' := .int .i64 ((1 : Nat) : Int)) (by rfl) (op_sub' rfl rfl (by first | omega | decide))) ?_)))))))
  refine za rfl (wl_nil (st_tn (w_block (w_rounds 2 ?_))))
  -- round l3.0/l5.0
  refine w_sub (e' := [(0, _), (1, _), (2, _), (8, _), (9, _), (11, _), (12, _), (13, _)]) (.cons rfl (.cons rfl (.cons rfl (.cons rfl (.cons rfl (.cons rfl (.cons rfl (.cons rfl (.nil _))))))))) ?_
  refine w_seq (w_seq (w_lab [37, 41, 62] (R' := [(37, cel b37 (encPart 0 0 0 0 none) 125), (41, slW 123 encPt 1 (.slice a41 3 c41) [some b37, some b37, some b37]), (62, slW 123 encPt 1 (.slice a62 3 c62) [none, none, some b37])]) rfl rfl ?_))
  refine w_region (zm rfl (zd rfl (op_geq rfl rfl) (wl_nil (st_tn (w_cond_t (rfl) ?_)))))
  refine w_skip (st_tn (w_seq (w_block (w_seq (w_region (zm rfl (zm rfl (zd rfl (op_idx (i := 1) rfl rfl tS126vf (Sl.ent (Sl.lab (l := [some b37, some b37, some b37]) 41 rfl (Nat.le_of_ble_eq_true rfl))) (Nat.le_of_ble_eq_true rfl)) (zd rfl (op_ldx rfl tO123vf (Sl.lab (l := [some b37, some b37, some b37]) 41 rfl (Nat.le_of_ble_eq_true rfl)) (i := 1) rfl rfl) (za rfl (wl_nil (st_tn (w_seq ?_)))))))))))))
  refine w_seq (w_region (zm rfl (zm rfl (zd rfl (op_val (v' := .int .i64 ((2 : Nat) : Int)) (by rfl) (op_add' rfl rfl (by first | omega | decide))) ?_))))
  refine zd rfl (op_idx (i := 2) rfl rfl tS126vf (Sl.ent (Sl.lab (l := [none, none, some b37]) 62 rfl (Nat.le_of_ble_eq_true rfl))) (Nat.le_of_ble_eq_true rfl)) (zd rfl (op_ldx rfl tO123vf (Sl.lab (l := [none, none, some b37]) 62 rfl (Nat.le_of_ble_eq_true rfl)) (i := 2) rfl rfl) (zm rfl (zd rfl (op_val (v' := .int .i64 (0)) (by rfl) (op_fn Tryz.func59 rfl rfl rfl (cmpPart (pp := 0) (ps := 0) (pi := 0) (pk := 0) (qp := 0) (qs := 0) (qi := 0) (qk := 0) (Ent.lab (l := 37) rfl (says_cel 0)) (Ent.lab (l := 37) rfl (says_cel 0)) (.inr rfl)))) ?_)))
  refine zd rfl (op_val (v' := .bool false) (by rfl) (op_lss rfl rfl)) ?_
  refine wl_nil (st_tn (w_cond_f (rfl) ?_))
  refine w_skip (st_tn (w_seq (w_seq ?_)))
  refine w_drawW (fun β => [⟨92, [], [], [], noW (_), false, [], []⟩, ⟨93, [], [], [], noW (_), false, [], []⟩, ⟨94, [0, 1], [], [], noW (_), false, [], []⟩, ⟨95, [2], [], [], noW (_), false, [], []⟩, ⟨96, [3], [], [], noW (_), false, [], []⟩, ⟨97, [], [], [], noW (_), false, [], []⟩, ⟨98, [], [], [], noW (_), false, [], []⟩, ⟨99, [5, 6], [], [], noW (_), false, [], []⟩, ⟨100, [7], [], [], noW (_), false, [], []⟩, ⟨101, [8], [], [], noW (_), false, [], []⟩]) [] [0, 11, 1, 13] [⟨92, [], [], false, [], []⟩, ⟨93, [], [], false, [], []⟩, ⟨94, [0, 1], [], false, [], []⟩, ⟨95, [2], [], false, [], []⟩, ⟨96, [3], [], false, [], []⟩, ⟨97, [], [], false, [], []⟩, ⟨98, [], [], false, [], []⟩, ⟨99, [5, 6], [], false, [], []⟩, ⟨100, [7], [], false, [], []⟩, ⟨101, [8], [], false, [], []⟩] [[], [], [], [], [], [], [], [], [], []] [[], [], [], [], [], [], [], [], [], []] tMixvf (fun _ => by rfl) (fun _ => by rfl) (by kernel_rfl) (by kernel_rfl) (by rfl) (by rfl)
      (fun β => ⟨.p rfl (by intro X; exact op_move rfl),
      ⟨.p rfl (by intro X; exact op_move rfl),
      ⟨.p rfl (by intro X; rintro _ _ ⟨rfl, rfl⟩ _ _ ⟨rfl, rfl⟩; exact op_idx (i := 1) rfl rfl tS48vf (Sl.ent ((ha.app X).app _)) (by decide)),
      ⟨.p rfl (by intro X; rintro _ _ ⟨rfl, rfl⟩; exact op_fieldAddr (off := 0) rfl tF52_0vf),
      ⟨.p rfl (by intro X; rintro _ _ ⟨rfl, rfl⟩; exact op_ldxf rfl tO3vf ((ha.app X).app _) (i := 1) (show chA[1]? = some (20, 0, 1) from rfl) rfl),
      ⟨.p rfl (by intro X; exact op_move rfl),
      ⟨.p rfl (by intro X; exact op_move rfl),
      ⟨.p rfl (by intro X; rintro _ _ ⟨rfl, rfl⟩ _ _ ⟨rfl, rfl⟩; exact op_idx (i := 1) rfl rfl tS48vf (Sl.ent ((hb.app X).app _)) (by decide)),
      ⟨.p rfl (by intro X; rintro _ _ ⟨rfl, rfl⟩; exact op_fieldAddr (off := 0) rfl tF52_0vf),
      ⟨.p rfl (by intro X; rintro _ _ ⟨rfl, rfl⟩; exact op_ldxf rfl tO3vf ((hb.app X).app _) (i := 1) (show chB[1]? = some (19, 0, 1) from rfl) rfl),
      trivial⟩⟩⟩⟩⟩⟩⟩⟩⟩⟩)
      (fun β β' => ⟨fun _ => by rfl, ⟨fun _ => by rfl, ⟨fun _ => by rfl, ⟨fun _ => by rfl, ⟨fun _ => by rfl, ⟨fun _ => by rfl, ⟨fun _ => by rfl, ⟨fun _ => by rfl, ⟨fun _ => by rfl, ⟨fun _ => by rfl, trivial⟩⟩⟩⟩⟩⟩⟩⟩⟩⟩) ?_
  intro β
  rintro _ _ ⟨rfl, rfl⟩ _ _ ⟨rfl, rfl⟩ _ _ ⟨rfl, rfl⟩ _ _ ⟨rfl, rfl⟩ _ _ ⟨rfl, rfl⟩ _ _ ⟨rfl, rfl⟩ _ _ ⟨rfl, rfl⟩ _ _ ⟨rfl, rfl⟩ _ _ ⟨rfl, rfl⟩ _ _ ⟨rfl, rfl⟩
  refine wl_norm (e' := [(0, _), (1, _), (2, _), (8, _), (9, _), (11, _), (12, _), (13, _), (14, _), (96, _), (101, _)]) (.cons rfl (.cons rfl (.cons rfl (.cons rfl (.cons rfl (.cons rfl (.cons rfl (.cons rfl (.cons rfl (.cons rfl (.cons rfl (.nil _)))))))))))) (by dsimp only [cond_false, cond_true, List.nil_append, List.cons_append]) ?_
  refine zd rfl (op_sub' rfl rfl (by first | omega | decide)) ?_
  refine zd rfl (op_val (v' := .int .i64 1) (by rfl) (op_fn Tryz.func58 rfl rfl rfl (absS (20 - 19) (by decide)))) ?_
  refine za rfl (wl_nil (st_tn (w_seq ?_)))
  refine w_drawW (fun β => [⟨104, [], [], [], noW (_), false, [], []⟩, ⟨105, [], [], [], noW (_), false, [], []⟩, ⟨106, [0, 1], [], [], noW (_), false, [], []⟩, ⟨107, [2], [], [], noW (_), false, [], []⟩, ⟨108, [], [], [], noW (_), false, [], []⟩, ⟨109, [], [], [], noW (_), false, [], []⟩, ⟨110, [4, 5], [], [], noW (_), false, [], []⟩, ⟨111, [6], [], [], noW (_), false, [], []⟩, ⟨112, [7], [], [], noW (_), false, [], []⟩, ⟨113, [], [], [], noW (_), false, [], []⟩, ⟨114, [], [], [], noW (_), false, [], []⟩, ⟨115, [9, 10], [], [], noW (_), false, [], []⟩, ⟨116, [11], [], [], noW (_), false, [], []⟩, ⟨117, [12], [], [], noW (_), false, [], []⟩, ⟨118, [8, 13], [], [], noW (_), false, [], []⟩, ⟨119, [3, 14], [], [], noW (_), false, [], []⟩]) [] [15, 2, 0, 11, 1, 13] [⟨104, [], [], false, [], []⟩, ⟨105, [], [], false, [], []⟩, ⟨106, [0, 1], [], false, [], []⟩, ⟨107, [2], [], false, [], []⟩, ⟨108, [], [], false, [], []⟩, ⟨109, [], [], false, [], []⟩, ⟨110, [4, 5], [], false, [], []⟩, ⟨111, [6], [], false, [], []⟩, ⟨112, [7], [], false, [], []⟩, ⟨113, [], [], false, [], []⟩, ⟨114, [], [], false, [], []⟩, ⟨115, [9, 10], [], false, [], []⟩, ⟨116, [11], [], false, [], []⟩, ⟨117, [12], [], false, [], []⟩, ⟨118, [8, 13], [], false, [], []⟩, ⟨119, [3, 14], [], false, [], []⟩] [[], [], [], [], [], [], [], [], [], [], [], [], [], [], [], []] [[], [], [], [], [], [], [], [], [], [], [], [], [], [], [], []] tMixvf (fun _ => by rfl) (fun _ => by rfl) (by kernel_rfl) (by kernel_rfl) (by rfl) (by rfl)
      (fun β => ⟨.p rfl (by intro X; exact op_move rfl),
      ⟨.p rfl (by intro X; exact op_move rfl),
      ⟨.p rfl (by intro X; rintro _ _ ⟨rfl, rfl⟩ _ _ ⟨rfl, rfl⟩; exact op_val (v' := .bool true) (by rfl) (op_leq rfl rfl)),
      ⟨.p rfl (by intro X; rintro _ _ ⟨rfl, rfl⟩; exact op_move rfl),
      ⟨.w rfl rfl rfl (by rintro _ _ ⟨rfl, rfl⟩; first | rfl | (exact congrArg Value.bool (decide_eq_true (by omega))) | (exact congrArg Value.bool (decide_eq_false (by omega))) | (simp; done) | (simp; omega) | (simp [*]; done)) (by intro X; exact op_move rfl),
      ⟨.w rfl rfl rfl (by rintro _ _ ⟨rfl, rfl⟩; first | rfl | (exact congrArg Value.bool (decide_eq_true (by omega))) | (exact congrArg Value.bool (decide_eq_false (by omega))) | (simp; done) | (simp; omega) | (simp [*]; done)) (by intro X; exact op_move rfl),
      ⟨.w rfl rfl rfl (by rintro _ _ ⟨rfl, rfl⟩; first | rfl | (exact congrArg Value.bool (decide_eq_true (by omega))) | (exact congrArg Value.bool (decide_eq_false (by omega))) | (simp; done) | (simp; omega) | (simp [*]; done)) (by intro X; rintro _ _ ⟨rfl, rfl⟩ _ _ ⟨rfl, rfl⟩; exact op_idx (i := 1) rfl rfl tS48vf (Sl.ent ((ha.app X).app _)) (by decide)),
      ⟨.w rfl rfl rfl (by rintro _ _ ⟨rfl, rfl⟩; first | rfl | (exact congrArg Value.bool (decide_eq_true (by omega))) | (exact congrArg Value.bool (decide_eq_false (by omega))) | (simp; done) | (simp; omega) | (simp [*]; done)) (by intro X; rintro _ _ ⟨rfl, rfl⟩; exact op_ldxA rfl tA52vf ((ha.app X).app _) (i := 1) (show chA[1]? = some (20, 0, 1) from rfl) rfl rfl),
      ⟨.w rfl rfl rfl (by rintro _ _ ⟨rfl, rfl⟩; first | rfl | (exact congrArg Value.bool (decide_eq_true (by omega))) | (exact congrArg Value.bool (decide_eq_false (by omega))) | (simp; done) | (simp; omega) | (simp [*]; done)) (by intro X; rintro _ _ ⟨rfl, rfl⟩; exact op_val (v' := .int .i64 1) (by rfl) (op_fn Tryz.func60 rfl rfl rfl (dirS (20, 0, 1)))),
      ⟨.w rfl rfl rfl (by rintro _ _ ⟨rfl, rfl⟩; first | rfl | (exact congrArg Value.bool (decide_eq_true (by omega))) | (exact congrArg Value.bool (decide_eq_false (by omega))) | (simp; done) | (simp; omega) | (simp [*]; done)) (by intro X; exact op_move rfl),
      ⟨.w rfl rfl rfl (by rintro _ _ ⟨rfl, rfl⟩; first | rfl | (exact congrArg Value.bool (decide_eq_true (by omega))) | (exact congrArg Value.bool (decide_eq_false (by omega))) | (simp; done) | (simp; omega) | (simp [*]; done)) (by intro X; exact op_move rfl),
      ⟨.w rfl rfl rfl (by rintro _ _ ⟨rfl, rfl⟩; first | rfl | (exact congrArg Value.bool (decide_eq_true (by omega))) | (exact congrArg Value.bool (decide_eq_false (by omega))) | (simp; done) | (simp; omega) | (simp [*]; done)) (by intro X; rintro _ _ ⟨rfl, rfl⟩ _ _ ⟨rfl, rfl⟩; exact op_idx (i := 1) rfl rfl tS48vf (Sl.ent ((hb.app X).app _)) (by decide)),
      ⟨.w rfl rfl rfl (by rintro _ _ ⟨rfl, rfl⟩; first | rfl | (exact congrArg Value.bool (decide_eq_true (by omega))) | (exact congrArg Value.bool (decide_eq_false (by omega))) | (simp; done) | (simp; omega) | (simp [*]; done)) (by intro X; rintro _ _ ⟨rfl, rfl⟩; exact op_ldxA rfl tA52vf ((hb.app X).app _) (i := 1) (show chB[1]? = some (19, 0, 1) from rfl) rfl rfl),
      ⟨.w rfl rfl rfl (by rintro _ _ ⟨rfl, rfl⟩; first | rfl | (exact congrArg Value.bool (decide_eq_true (by omega))) | (exact congrArg Value.bool (decide_eq_false (by omega))) | (simp; done) | (simp; omega) | (simp [*]; done)) (by intro X; rintro _ _ ⟨rfl, rfl⟩; exact op_val (v' := .int .i64 1) (by rfl) (op_fn Tryz.func60 rfl rfl rfl (dirS (19, 0, 1)))),
      ⟨.w rfl rfl rfl (by rintro _ _ ⟨rfl, rfl⟩; first | rfl | (exact congrArg Value.bool (decide_eq_true (by omega))) | (exact congrArg Value.bool (decide_eq_false (by omega))) | (simp; done) | (simp; omega) | (simp [*]; done)) (by intro X; rintro _ _ ⟨rfl, rfl⟩ _ _ ⟨rfl, rfl⟩; exact op_val (v' := .bool true) (by rfl) (op_eql rfl rfl)),
      ⟨.p rfl (by intro X; rintro _ _ ⟨rfl, rfl⟩ _ _ ⟨rfl, rfl⟩; exact op_pick_t rfl rfl),
      trivial⟩⟩⟩⟩⟩⟩⟩⟩⟩⟩⟩⟩⟩⟩⟩⟩)
      (fun β β' => ⟨fun _ => by rfl, ⟨fun _ => by rfl, ⟨fun _ => by rfl, ⟨fun _ => by rfl, ⟨fun _ => by rfl, ⟨fun _ => by rfl, ⟨fun _ => by rfl, ⟨fun _ => by rfl, ⟨fun _ => by rfl, ⟨fun _ => by rfl, ⟨fun _ => by rfl, ⟨fun _ => by rfl, ⟨fun _ => by rfl, ⟨fun _ => by rfl, ⟨fun _ => by rfl, ⟨fun _ => by rfl, trivial⟩⟩⟩⟩⟩⟩⟩⟩⟩⟩⟩⟩⟩⟩⟩⟩) ?_
  intro β
  rintro _ _ ⟨rfl, rfl⟩ _ _ ⟨rfl, rfl⟩ _ _ ⟨rfl, rfl⟩ _ _ ⟨rfl, rfl⟩ _ _ ⟨rfl, rfl⟩ _ _ ⟨rfl, rfl⟩ _ _ ⟨rfl, rfl⟩ _ _ ⟨rfl, rfl⟩ _ _ ⟨rfl, rfl⟩ _ _ ⟨rfl, rfl⟩ _ _ ⟨rfl, rfl⟩ _ _ ⟨rfl, rfl⟩ _ _ ⟨rfl, rfl⟩ _ _ ⟨rfl, rfl⟩ _ _ ⟨rfl, rfl⟩ _ _ ⟨rfl, rfl⟩
  refine wl_norm (e' := [(0, _), (1, _), (2, _), (8, _), (9, _), (11, _), (12, _), (13, _), (14, _), (15, _), (119, _)]) (.cons rfl (.cons rfl (.cons rfl (.cons rfl (.cons rfl (.cons rfl (.cons rfl (.cons rfl (.cons rfl (.cons rfl (.cons rfl (.nil _)))))))))))) (by dsimp only [cond_false, cond_true, List.nil_append, List.cons_append]) ?_
  refine wl_nil (st_tn (w_cond_t (rfl) ?_))
  refine w_seq (w_region (zm rfl (zm rfl (zd rfl (op_val (v' := .int .i64 ((2 : Nat) : Int)) (by rfl) (op_add' rfl rfl (by first | omega | decide))) ?_))))
  refine zd rfl (op_idx (i := 2) rfl rfl tS126vf (Sl.ent (Sl.lab (l := [some b37, some b37, some b37]) 41 rfl (Nat.le_of_ble_eq_true rfl))) (Nat.le_of_ble_eq_true rfl)) (zd rfl (op_ldx rfl tO123vf (Sl.lab (l := [some b37, some b37, some b37]) 41 rfl (Nat.le_of_ble_eq_true rfl)) (i := 2) rfl rfl) (za rfl (wl_nil (st_tn (w_seq ?_)))))
  -- PROV 16=37
  refine w_drawW (fun β => [⟨125, [], [], [], noW (_), false, [], []⟩, ⟨126, [0], [], [], noW (_), false, [], []⟩, ⟨127, [1], [], [], noW (_), false, [], []⟩, ⟨128, [2], [], [], noW (_), false, [], []⟩, ⟨129, [3], [], [], noW (_), false, [], []⟩, ⟨130, [], [], [], noW (_), false, [], []⟩, ⟨131, [5], [], [], noW (_), false, [], []⟩, ⟨132, [6], [], [], noW (_), false, [], []⟩, ⟨133, [7], [], [], noW (_), false, [], []⟩, ⟨134, [], [], [], noW (_), false, [], []⟩, ⟨135, [8, 9], [], [], noW (_), false, [], []⟩, ⟨136, [], [], [], noW (_), false, [], []⟩, ⟨137, [], [], [], noW (_), false, [], []⟩, ⟨138, [11, 12], [], [], noW (_), false, [], []⟩, ⟨139, [], [], [], noW (_), false, [], []⟩]) [] [16, 15, 11, 13] [⟨125, [], [], false, [], []⟩, ⟨126, [0], [], false, [], []⟩, ⟨127, [1], [], false, [], []⟩, ⟨128, [2], [], false, [], []⟩, ⟨129, [3], [], false, [], []⟩, ⟨130, [], [], false, [], []⟩, ⟨131, [5], [], false, [], []⟩, ⟨132, [6], [], false, [], []⟩, ⟨133, [7], [], false, [], []⟩, ⟨134, [], [], false, [], []⟩, ⟨135, [8, 9], [], false, [], []⟩, ⟨136, [], [], false, [], []⟩, ⟨137, [], [], false, [], []⟩, ⟨138, [11, 12], [], false, [], []⟩, ⟨139, [], [], false, [], []⟩] [[], [], [], [], [], [], [], [], [], [], [], [], [], [], []] [[], [], [], [], [], [], [], [], [], [], [], [], [], [], []] tMixvf (fun _ => by rfl) (fun _ => by rfl) (by kernel_rfl) (by kernel_rfl) (by rfl) (by rfl)
      (fun β => ⟨.p rfl (by intro X; exact op_move rfl),
      ⟨.p rfl (by intro X; rintro _ _ ⟨rfl, rfl⟩; exact op_nilCheck rfl),
      ⟨.p rfl (by intro X; rintro _ _ ⟨rfl, rfl⟩; exact op_fieldAddr (off := 0) rfl tF125_0vf),
      ⟨.p rfl (by intro X; rintro _ _ ⟨rfl, rfl⟩; exact op_load1 rfl tO3vf (Ent.lab (l := 37) rfl (says_cel 0))),
      ⟨.p rfl (by intro X; rintro _ _ ⟨rfl, rfl⟩; exact op_val (v' := .int .i64 1) (by rfl) (op_add' rfl rfl (by first | omega | decide))),
      ⟨.p rfl (by intro X; exact op_move rfl),
      ⟨.p rfl (by intro X; rintro _ _ ⟨rfl, rfl⟩; exact op_nilCheck rfl),
      ⟨.p rfl (by intro X; rintro _ _ ⟨rfl, rfl⟩; exact op_fieldAddr (off := 1) rfl tF125_1vf),
      ⟨.p rfl (by intro X; rintro _ _ ⟨rfl, rfl⟩; exact op_load1 rfl tO3vf (Ent.lab (l := 37) rfl (says_cel 1))),
      ⟨.p rfl (by intro X; exact op_move rfl),
      ⟨.p rfl (by intro X; rintro _ _ ⟨rfl, rfl⟩ _ _ ⟨rfl, rfl⟩; exact op_val (v' := .int .i64 1) (by rfl) (op_add' rfl rfl (by first | omega | decide))),
      ⟨.p rfl (by intro X; exact op_move rfl),
      ⟨.p rfl (by intro X; exact op_move rfl),
      ⟨.p rfl (by intro X; rintro _ _ ⟨rfl, rfl⟩ _ _ ⟨rfl, rfl⟩; exact op_buildArr tC96vf rfl rfl),
      ⟨.p rfl (by intro X; exact op_move rfl),
      trivial⟩⟩⟩⟩⟩⟩⟩⟩⟩⟩⟩⟩⟩⟩⟩)
      (fun β β' => ⟨fun _ => by rfl, ⟨fun _ => by rfl, ⟨fun _ => by rfl, ⟨fun _ => by rfl, ⟨fun _ => by rfl, ⟨fun _ => by rfl, ⟨fun _ => by rfl, ⟨fun _ => by rfl, ⟨fun _ => by rfl, ⟨fun _ => by rfl, ⟨fun _ => by rfl, ⟨fun _ => by rfl, ⟨fun _ => by rfl, ⟨fun _ => by rfl, ⟨fun _ => by rfl, trivial⟩⟩⟩⟩⟩⟩⟩⟩⟩⟩⟩⟩⟩⟩⟩) ?_
  intro β
  rintro _ _ ⟨rfl, rfl⟩ _ _ ⟨rfl, rfl⟩ _ _ ⟨rfl, rfl⟩ _ _ ⟨rfl, rfl⟩ _ _ ⟨rfl, rfl⟩ _ _ ⟨rfl, rfl⟩ _ _ ⟨rfl, rfl⟩ _ _ ⟨rfl, rfl⟩ _ _ ⟨rfl, rfl⟩ _ _ ⟨rfl, rfl⟩ _ _ ⟨rfl, rfl⟩ _ _ ⟨rfl, rfl⟩ _ _ ⟨rfl, rfl⟩ _ _ ⟨rfl, rfl⟩ _ _ ⟨rfl, rfl⟩
  refine wl_norm (e' := [(0, _), (1, _), (2, _), (8, _), (9, _), (11, _), (12, _), (13, _), (14, _), (129, _), (135, _), (138, _), (139, _)]) (.cons rfl (.cons rfl (.cons rfl (.cons rfl (.cons rfl (.cons rfl (.cons rfl (.cons rfl (.cons rfl (.cons rfl (.cons rfl (.cons rfl (.cons rfl (.nil _)))))))))))))) (by dsimp only [cond_false, cond_true, List.nil_append, List.cons_append]) ?_
  refine zd rfl (op_build tB125vf rfl rfl) (wl_op [] rfl rfl rfl rfl (op_box (T := 125) (l := 141) rfl) ?_)
  rintro _ _ ⟨b141, rfl, rfl⟩
  refine za rfl (wl_nil (st_tn (w_seq (w_region (zm rfl (zm rfl (zd rfl (op_val (v' := .int .i64 (-1)) (by rfl) (op_fn Tryz.func59 rfl rfl rfl (cmpPart (pp := 1) (ps := 1) (pi := 1) (pk := 1) (qp := 0) (qs := 0) (qi := 0) (qk := 0) (Ent.lab (l := 141) rfl (says_cel 0)) (Ent.lab (l := 37) rfl (says_cel 0)) (.inl (by decide))))) ?_)))))))
  refine zd rfl (op_val (v' := .bool true) (by rfl) (op_lss rfl rfl)) ?_
  refine wl_nil (st_tn (w_cond_t (rfl) ?_))
  refine w_region (zm rfl (za rfl (wl_nil (st_tn (w_region (zm rfl (zm rfl (zm rfl (zd rfl (op_idx (i := 1) rfl rfl tS126vf (Sl.ent (Sl.lab (l := [none, none, some b37]) 62 rfl (Nat.le_of_ble_eq_true rfl))) (Nat.le_of_ble_eq_true rfl)) (wl_op0 [62] rfl rfl rfl (op_stP (lab := 62) (i := 1) (q := some b141) (l := [none, none, some b37]) rfl rfl tO123vf (Nat.le_of_ble_eq_true rfl)) ?_))))))))))
  rintro _ _ ⟨rfl, rfl⟩
  refine wl_nil (st_bn (st_tn (w_region (zm rfl (zd rfl (op_val (v' := .int .i64 ((0 : Nat) : Int)) (by rfl) (op_sub' rfl rfl (by first | omega | decide))) ?_)))))
  refine za rfl (wl_nil (st_rounds ?_))
  -- round l3.0/l5.1
  refine w_sub (e' := [(0, _), (1, _), (2, _), (8, _), (9, _), (11, _), (12, _), (13, _)]) (.cons rfl (.cons rfl (.cons rfl (.cons rfl (.cons rfl (.cons rfl (.cons rfl (.cons rfl (.nil _))))))))) ?_
  refine w_seq (w_seq (w_lab [37, 41, 62, 141] (R' := [(37, cel b37 (encPart 0 0 0 0 none) 125), (41, slW 123 encPt 1 (.slice a41 3 c41) [some b37, some b37, some b37]), (62, slW 123 encPt 1 (.slice a62 3 c62) [none, some b141, some b37]), (141, cel b141 (encPart 1 1 1 1 (some ⟨b37, 0, none⟩)) 125)]) rfl rfl ?_))
  refine w_region (zm rfl (zd rfl (op_geq rfl rfl) (wl_nil (st_tn (w_cond_t (rfl) ?_)))))
  refine w_skip (st_tn (w_seq (w_block (w_seq (w_region (zm rfl (zm rfl (zd rfl (op_idx (i := 0) rfl rfl tS126vf (Sl.ent (Sl.lab (l := [some b37, some b37, some b37]) 41 rfl (Nat.le_of_ble_eq_true rfl))) (Nat.le_of_ble_eq_true rfl)) (zd rfl (op_ldx rfl tO123vf (Sl.lab (l := [some b37, some b37, some b37]) 41 rfl (Nat.le_of_ble_eq_true rfl)) (i := 0) rfl rfl) (za rfl (wl_nil (st_tn (w_seq ?_)))))))))))))
  refine w_seq (w_region (zm rfl (zm rfl (zd rfl (op_val (v' := .int .i64 ((1 : Nat) : Int)) (by rfl) (op_add' rfl rfl (by first | omega | decide))) ?_))))
  refine zd rfl (op_idx (i := 1) rfl rfl tS126vf (Sl.ent (Sl.lab (l := [none, some b141, some b37]) 62 rfl (Nat.le_of_ble_eq_true rfl))) (Nat.le_of_ble_eq_true rfl)) (zd rfl (op_ldx rfl tO123vf (Sl.lab (l := [none, some b141, some b37]) 62 rfl (Nat.le_of_ble_eq_true rfl)) (i := 1) rfl rfl) (zm rfl (zd rfl (op_val (v' := .int .i64 (-1)) (by rfl) (op_fn Tryz.func59 rfl rfl rfl (cmpPart (pp := 1) (ps := 1) (pi := 1) (pk := 1) (qp := 0) (qs := 0) (qi := 0) (qk := 0) (Ent.lab (l := 141) rfl (says_cel 0)) (Ent.lab (l := 37) rfl (says_cel 0)) (.inl (by decide))))) ?_)))
  refine zd rfl (op_val (v' := .bool true) (by rfl) (op_lss rfl rfl)) ?_
  refine wl_nil (st_tn (w_cond_t (rfl) ?_))
  refine w_region (zm rfl (zm rfl (zd rfl (op_val (v' := .int .i64 ((1 : Nat) : Int)) (by rfl) (op_add' rfl rfl (by first | omega | decide))) ?_)))
  refine zd rfl (op_idx (i := 1) rfl rfl tS126vf (Sl.ent (Sl.lab (l := [none, some b141, some b37]) 62 rfl (Nat.le_of_ble_eq_true rfl))) (Nat.le_of_ble_eq_true rfl)) (zd rfl (op_ldx rfl tO123vf (Sl.lab (l := [none, some b141, some b37]) 62 rfl (Nat.le_of_ble_eq_true rfl)) (i := 1) rfl rfl) (za rfl (wl_nil (st_tn (w_seq (w_seq ?_))))))
  refine w_drawW (fun β => [⟨92, [], [], [], noW (_), false, [], []⟩, ⟨93, [], [], [], noW (_), false, [], []⟩, ⟨94, [0, 1], [], [], noW (_), false, [], []⟩, ⟨95, [2], [], [], noW (_), false, [], []⟩, ⟨96, [3], [], [], noW (_), false, [], []⟩, ⟨97, [], [], [], noW (_), false, [], []⟩, ⟨98, [], [], [], noW (_), false, [], []⟩, ⟨99, [5, 6], [], [], noW (_), false, [], []⟩, ⟨100, [7], [], [], noW (_), false, [], []⟩, ⟨101, [8], [], [], noW (_), false, [], []⟩]) [] [0, 11, 1, 13] [⟨92, [], [], false, [], []⟩, ⟨93, [], [], false, [], []⟩, ⟨94, [0, 1], [], false, [], []⟩, ⟨95, [2], [], false, [], []⟩, ⟨96, [3], [], false, [], []⟩, ⟨97, [], [], false, [], []⟩, ⟨98, [], [], false, [], []⟩, ⟨99, [5, 6], [], false, [], []⟩, ⟨100, [7], [], false, [], []⟩, ⟨101, [8], [], false, [], []⟩] [[], [], [], [], [], [], [], [], [], []] [[], [], [], [], [], [], [], [], [], []] tMixvf (fun _ => by rfl) (fun _ => by rfl) (by kernel_rfl) (by kernel_rfl) (by rfl) (by rfl)
      (fun β => ⟨.p rfl (by intro X; exact op_move rfl),
      ⟨.p rfl (by intro X; exact op_move rfl),
      ⟨.p rfl (by intro X; rintro _ _ ⟨rfl, rfl⟩ _ _ ⟨rfl, rfl⟩; exact op_idx (i := 1) rfl rfl tS48vf (Sl.ent ((ha.app X).app _)) (by decide)),
      ⟨.p rfl (by intro X; rintro _ _ ⟨rfl, rfl⟩; exact op_fieldAddr (off := 0) rfl tF52_0vf),
      ⟨.p rfl (by intro X; rintro _ _ ⟨rfl, rfl⟩; exact op_ldxf rfl tO3vf ((ha.app X).app _) (i := 1) (show chA[1]? = some (20, 0, 1) from rfl) rfl),
      ⟨.p rfl (by intro X; exact op_move rfl),
      ⟨.p rfl (by intro X; exact op_move rfl),
      ⟨.p rfl (by intro X; rintro _ _ ⟨rfl, rfl⟩ _ _ ⟨rfl, rfl⟩; exact op_idx (i := 0) rfl rfl tS48vf (Sl.ent ((hb.app X).app _)) (by decide)),
      ⟨.p rfl (by intro X; rintro _ _ ⟨rfl, rfl⟩; exact op_fieldAddr (off := 0) rfl tF52_0vf),
      ⟨.p rfl (by intro X; rintro _ _ ⟨rfl, rfl⟩; exact op_ldxf rfl tO3vf ((hb.app X).app _) (i := 0) (show chB[0]? = some (12, 0, 1) from rfl) rfl),
      trivial⟩⟩⟩⟩⟩⟩⟩⟩⟩⟩)
      (fun β β' => ⟨fun _ => by rfl, ⟨fun _ => by rfl, ⟨fun _ => by rfl, ⟨fun _ => by rfl, ⟨fun _ => by rfl, ⟨fun _ => by rfl, ⟨fun _ => by rfl, ⟨fun _ => by rfl, ⟨fun _ => by rfl, ⟨fun _ => by rfl, trivial⟩⟩⟩⟩⟩⟩⟩⟩⟩⟩) ?_
  intro β
  rintro _ _ ⟨rfl, rfl⟩ _ _ ⟨rfl, rfl⟩ _ _ ⟨rfl, rfl⟩ _ _ ⟨rfl, rfl⟩ _ _ ⟨rfl, rfl⟩ _ _ ⟨rfl, rfl⟩ _ _ ⟨rfl, rfl⟩ _ _ ⟨rfl, rfl⟩ _ _ ⟨rfl, rfl⟩ _ _ ⟨rfl, rfl⟩
  refine wl_norm (e' := [(0, _), (1, _), (2, _), (8, _), (9, _), (11, _), (12, _), (13, _), (14, _), (96, _), (101, _)]) (.cons rfl (.cons rfl (.cons rfl (.cons rfl (.cons rfl (.cons rfl (.cons rfl (.cons rfl (.cons rfl (.cons rfl (.cons rfl (.nil _)))))))))))) (by dsimp only [cond_false, cond_true, List.nil_append, List.cons_append]) ?_
  refine zd rfl (op_sub' rfl rfl (by first | omega | decide)) ?_
  refine zd rfl (op_val (v' := .int .i64 8) (by rfl) (op_fn Tryz.func58 rfl rfl rfl (absS (20 - 12) (by decide)))) ?_
  refine za rfl (wl_nil (st_tn (w_seq ?_)))
  refine w_drawW (fun β => [⟨104, [], [], [], noW (_), false, [], []⟩, ⟨105, [], [], [], noW (_), false, [], []⟩, ⟨106, [0, 1], [], [], noW (_), false, [], []⟩, ⟨107, [2], [], [], noW (_), false, [], []⟩, ⟨108, [], [], [], noW (Det undef), false, [], []⟩, ⟨109, [], [], [], noW (Det undef), false, [], []⟩, ⟨110, [], [], [], noW (Det undef), false, [], []⟩, ⟨111, [], [], [], noW (Det undef), false, [], []⟩, ⟨112, [], [], [], noW (Det undef), false, [], []⟩, ⟨113, [], [], [], noW (Det undef), false, [], []⟩, ⟨114, [], [], [], noW (Det undef), false, [], []⟩, ⟨115, [], [], [], noW (Det undef), false, [], []⟩, ⟨116, [], [], [], noW (Det undef), false, [], []⟩, ⟨117, [], [], [], noW (Det undef), false, [], []⟩, ⟨118, [], [], [], noW (Det undef), false, [], []⟩, ⟨119, [3, 14], [], [], noW (_), false, [], []⟩]) [] [15, 2, 0, 11, 1, 13] [⟨104, [], [], false, [], []⟩, ⟨105, [], [], false, [], []⟩, ⟨106, [0, 1], [], false, [], []⟩, ⟨107, [2], [], false, [], []⟩, ⟨108, [], [], false, [], []⟩, ⟨109, [], [], false, [], []⟩, ⟨110, [], [], false, [], []⟩, ⟨111, [], [], false, [], []⟩, ⟨112, [], [], false, [], []⟩, ⟨113, [], [], false, [], []⟩, ⟨114, [], [], false, [], []⟩, ⟨115, [], [], false, [], []⟩, ⟨116, [], [], false, [], []⟩, ⟨117, [], [], false, [], []⟩, ⟨118, [], [], false, [], []⟩, ⟨119, [3, 14], [], false, [], []⟩] [[], [], [], [], [], [], [], [], [], [], [], [], [], [], [], []] [[], [], [], [], [], [], [], [], [], [], [], [], [], [], [], []] tMixvf (fun _ => by rfl) (fun _ => by rfl) (by kernel_rfl) (by kernel_rfl) (by rfl) (by rfl)
      (fun β => ⟨.p rfl (by intro X; exact op_move rfl),
      ⟨.p rfl (by intro X; exact op_move rfl),
      ⟨.p rfl (by intro X; rintro _ _ ⟨rfl, rfl⟩ _ _ ⟨rfl, rfl⟩; exact op_val (v' := .bool false) (by rfl) (op_leq rfl rfl)),
      ⟨.p rfl (by intro X; rintro _ _ ⟨rfl, rfl⟩; exact op_move rfl),
      ⟨.u rfl rfl rfl (by rintro _ _ ⟨rfl, rfl⟩; exact congrArg (offB true) (by first | rfl | (exact congrArg Value.bool (decide_eq_true (by omega))) | (exact congrArg Value.bool (decide_eq_false (by omega))) | (simp; done) | (simp; omega) | (simp [*]; done) : _ = Value.bool false)) ⟨rfl, rfl⟩ rfl rfl,
      ⟨.u rfl rfl rfl (by rintro _ _ ⟨rfl, rfl⟩; exact congrArg (offB true) (by first | rfl | (exact congrArg Value.bool (decide_eq_true (by omega))) | (exact congrArg Value.bool (decide_eq_false (by omega))) | (simp; done) | (simp; omega) | (simp [*]; done) : _ = Value.bool false)) ⟨rfl, rfl⟩ rfl rfl,
      ⟨.u rfl rfl rfl (by rintro _ _ ⟨rfl, rfl⟩; exact congrArg (offB true) (by first | rfl | (exact congrArg Value.bool (decide_eq_true (by omega))) | (exact congrArg Value.bool (decide_eq_false (by omega))) | (simp; done) | (simp; omega) | (simp [*]; done) : _ = Value.bool false)) ⟨rfl, rfl⟩ rfl rfl,
      ⟨.u rfl rfl rfl (by rintro _ _ ⟨rfl, rfl⟩; exact congrArg (offB true) (by first | rfl | (exact congrArg Value.bool (decide_eq_true (by omega))) | (exact congrArg Value.bool (decide_eq_false (by omega))) | (simp; done) | (simp; omega) | (simp [*]; done) : _ = Value.bool false)) ⟨rfl, rfl⟩ rfl rfl,
      ⟨.u rfl rfl rfl (by rintro _ _ ⟨rfl, rfl⟩; exact congrArg (offB true) (by first | rfl | (exact congrArg Value.bool (decide_eq_true (by omega))) | (exact congrArg Value.bool (decide_eq_false (by omega))) | (simp; done) | (simp; omega) | (simp [*]; done) : _ = Value.bool false)) ⟨rfl, rfl⟩ rfl rfl,
      ⟨.u rfl rfl rfl (by rintro _ _ ⟨rfl, rfl⟩; exact congrArg (offB true) (by first | rfl | (exact congrArg Value.bool (decide_eq_true (by omega))) | (exact congrArg Value.bool (decide_eq_false (by omega))) | (simp; done) | (simp; omega) | (simp [*]; done) : _ = Value.bool false)) ⟨rfl, rfl⟩ rfl rfl,
      ⟨.u rfl rfl rfl (by rintro _ _ ⟨rfl, rfl⟩; exact congrArg (offB true) (by first | rfl | (exact congrArg Value.bool (decide_eq_true (by omega))) | (exact congrArg Value.bool (decide_eq_false (by omega))) | (simp; done) | (simp; omega) | (simp [*]; done) : _ = Value.bool false)) ⟨rfl, rfl⟩ rfl rfl,
      ⟨.u rfl rfl rfl (by rintro _ _ ⟨rfl, rfl⟩; exact congrArg (offB true) (by first | rfl | (exact congrArg Value.bool (decide_eq_true (by omega))) | (exact congrArg Value.bool (decide_eq_false (by omega))) | (simp; done) | (simp; omega) | (simp [*]; done) : _ = Value.bool false)) ⟨rfl, rfl⟩ rfl rfl,
      ⟨.u rfl rfl rfl (by rintro _ _ ⟨rfl, rfl⟩; exact congrArg (offB true) (by first | rfl | (exact congrArg Value.bool (decide_eq_true (by omega))) | (exact congrArg Value.bool (decide_eq_false (by omega))) | (simp; done) | (simp; omega) | (simp [*]; done) : _ = Value.bool false)) ⟨rfl, rfl⟩ rfl rfl,
      ⟨.u rfl rfl rfl (by rintro _ _ ⟨rfl, rfl⟩; exact congrArg (offB true) (by first | rfl | (exact congrArg Value.bool (decide_eq_true (by omega))) | (exact congrArg Value.bool (decide_eq_false (by omega))) | (simp; done) | (simp; omega) | (simp [*]; done) : _ = Value.bool false)) ⟨rfl, rfl⟩ rfl rfl,
      ⟨.u rfl rfl rfl (by rintro _ _ ⟨rfl, rfl⟩; exact congrArg (offB true) (by first | rfl | (exact congrArg Value.bool (decide_eq_true (by omega))) | (exact congrArg Value.bool (decide_eq_false (by omega))) | (simp; done) | (simp; omega) | (simp [*]; done) : _ = Value.bool false)) ⟨rfl, rfl⟩ rfl rfl,
      ⟨.p rfl (by intro X; rintro _ _ ⟨rfl, rfl⟩ _ _ ⟨rfl, rfl⟩; exact op_pick_f rfl rfl),
      trivial⟩⟩⟩⟩⟩⟩⟩⟩⟩⟩⟩⟩⟩⟩⟩⟩)
      (fun β β' => ⟨fun _ => by rfl, ⟨fun _ => by rfl, ⟨fun _ => by rfl, ⟨fun _ => by rfl, ⟨fun _ => by rfl, ⟨fun _ => by rfl, ⟨fun _ => by rfl, ⟨fun _ => by rfl, ⟨fun _ => by rfl, ⟨fun _ => by rfl, ⟨fun _ => by rfl, ⟨fun _ => by rfl, ⟨fun _ => by rfl, ⟨fun _ => by rfl, ⟨fun _ => by rfl, ⟨fun _ => by rfl, trivial⟩⟩⟩⟩⟩⟩⟩⟩⟩⟩⟩⟩⟩⟩⟩⟩) ?_
  intro β
  rintro _ _ ⟨rfl, rfl⟩ _ _ ⟨rfl, rfl⟩ _ _ ⟨rfl, rfl⟩ _ _ ⟨rfl, rfl⟩ _ _ ⟨rfl, rfl⟩ _ _ ⟨rfl, rfl⟩ _ _ ⟨rfl, rfl⟩ _ _ ⟨rfl, rfl⟩ _ _ ⟨rfl, rfl⟩ _ _ ⟨rfl, rfl⟩ _ _ ⟨rfl, rfl⟩ _ _ ⟨rfl, rfl⟩ _ _ ⟨rfl, rfl⟩ _ _ ⟨rfl, rfl⟩ _ _ ⟨rfl, rfl⟩ _ _ ⟨rfl, rfl⟩
  refine wl_norm (e' := [(0, _), (1, _), (2, _), (8, _), (9, _), (11, _), (12, _), (13, _), (14, _), (15, _), (119, _)]) (.cons rfl (.cons rfl (.cons rfl (.cons rfl (.cons rfl (.cons rfl (.cons rfl (.cons rfl (.cons rfl (.cons rfl (.cons rfl (.nil _)))))))))))) (by dsimp only [cond_false, cond_true, List.nil_append, List.cons_append]) ?_
  refine wl_nil (st_tn (w_cond_f (rfl) ?_))
  refine w_skip (st_tn (w_region (zm rfl (zm rfl (zm rfl (zd rfl (op_idx (i := 0) rfl rfl tS126vf (Sl.ent (Sl.lab (l := [none, some b141, some b37]) 62 rfl (Nat.le_of_ble_eq_true rfl))) (Nat.le_of_ble_eq_true rfl)) (wl_op0 [62] rfl rfl rfl (op_stP (lab := 62) (i := 0) (q := some b141) (l := [none, some b141, some b37]) rfl rfl tO123vf (Nat.le_of_ble_eq_true rfl)) ?_)))))))
  rintro _ _ ⟨rfl, rfl⟩
  refine wl_nil (st_bn (st_tn (w_region (zm rfl (zd rfl (op_val (v' := .int .i64 (-1)) (by rfl) (op_sub' rfl rfl (by first | omega | decide))) ?_)))))
  refine za rfl (wl_nil (st_rounds ?_))
  -- round l3.0/l5.2
  refine w_sub (e' := [(0, _), (1, _), (2, _), (8, _), (9, _), (11, _), (12, _), (13, _)]) (.cons rfl (.cons rfl (.cons rfl (.cons rfl (.cons rfl (.cons rfl (.cons rfl (.cons rfl (.nil _))))))))) ?_
  refine w_seq (w_seq (w_region (zm rfl (zd rfl (op_geq rfl rfl) (wl_nil (st_tn (w_cond_f (rfl) ?_)))))))
  refine w_exit (st_te ?_)
  refine st_te ?_
  refine st_be (st_tn (w_region (zm rfl (za rfl (wl_nil (st_bn (st_tn (w_region (zm rfl (zd rfl (op_val (v' := .int .i64 ((0 : Nat) : Int)) (by rfl) (op_sub' rfl rfl (by first | omega | decide))) ?_))))))))))
  refine za rfl (wl_nil (st_rounds ?_))
  -- round l3.1
  refine w_sub (e' := [(0, _), (1, _), (2, _), (8, _), (9, _), (11, _)]) (.cons rfl (.cons rfl (.cons rfl (.cons rfl (.cons rfl (.cons rfl (.nil _))))))) ?_
  refine w_seq (w_seq (w_lab [37, 62, 141] (R' := [(37, cel b37 (encPart 0 0 0 0 none) 125), (41, slW 123 encPt 1 (.slice a62 3 c62) [some b141, some b141, some b37]), (141, cel b141 (encPart 1 1 1 1 (some ⟨b37, 0, none⟩)) 125)]) rfl rfl ?_))
  -- SLAB 9=41
  -- LABS 37 41 141
  refine w_region (zm rfl (zd rfl (op_geq rfl rfl) (wl_nil (st_tn (w_cond_t (rfl) ?_)))))
  refine w_skip (st_tn (w_seq (w_block (w_seq (w_region (zm rfl (zd rfl (op_lenT rfl tS48vf (Sl.ent (hb.app _))) (zd rfl (op_val (v' := .int .i64 ((3 : Nat) : Int)) (by rfl) (op_add' rfl rfl (by first | omega | decide))) ?_))))))))
  refine wl_op [] rfl rfl rfl rfl (op_makeSlice (enc := encPt) (a0 := none) (m := 3) (lab := 62) rfl rfl tMp (fun _ => rfl) rfl rfl (by decide) (by unfold maxLen; decide)) ?_
  rintro _ _ ⟨a62, c62, rfl, rfl⟩
  refine za rfl (wl_nil (st_tn (w_seq (w_region (zm rfl (zm rfl (zd rfl (op_lenT rfl tS48vf (Sl.ent (hb.app _))) (zm rfl (zd rfl (op_idx (i := 2) rfl rfl tS126vf (Sl.ent (Sl.lab (l := [none, none, none]) 62 rfl (Nat.le_of_ble_eq_true rfl))) (Nat.le_of_ble_eq_true rfl)) (wl_op0 [62] rfl rfl rfl (op_stP (lab := 62) (i := 2) (q := some b37) (l := [none, none, none]) rfl rfl tO123vf (Nat.le_of_ble_eq_true rfl)) ?_))))))))))
  rintro _ _ ⟨rfl, rfl⟩
  refine wl_nil (st_tn (w_seq (w_seq (w_region (zm rfl (zd rfl (op_lenT rfl tS48vf (Sl.ent (hb.app _))) (zd rfl (op_val (v' := .int .i64 ((1 : Nat) : Int)) (by rfl) (op_sub' rfl rfl (by first | omega | decide))) ?_)))))))
  refine za rfl (wl_nil (st_tn (w_block (w_rounds 2 ?_))))
  -- round l3.1/l5.0
  refine w_sub (e' := [(0, _), (1, _), (2, _), (8, _), (9, _), (11, _), (12, _), (13, _)]) (.cons rfl (.cons rfl (.cons rfl (.cons rfl (.cons rfl (.cons rfl (.cons rfl (.cons rfl (.nil _))))))))) ?_
  refine w_seq (w_seq (w_lab [37, 41, 62, 141] (R' := [(37, cel b37 (encPart 0 0 0 0 none) 125), (41, slW 123 encPt 1 _ [some b141, some b141, some b37]), (62, slW 123 encPt 1 (.slice a62 3 c62) [none, none, some b37]), (141, cel b141 (encPart 1 1 1 1 (some ⟨b37, 0, none⟩)) 125)]) rfl rfl ?_))
  refine w_region (zm rfl (zd rfl (op_geq rfl rfl) (wl_nil (st_tn (w_cond_t (rfl) ?_)))))
  refine w_skip (st_tn (w_seq (w_block (w_seq (w_region (zm rfl (zm rfl (zd rfl (op_idx (i := 1) rfl rfl tS126vf (Sl.ent (Sl.lab (l := [some b141, some b141, some b37]) 41 rfl (Nat.le_of_ble_eq_true rfl))) (Nat.le_of_ble_eq_true rfl)) (zd rfl (op_ldx rfl tO123vf (Sl.lab (l := [some b141, some b141, some b37]) 41 rfl (Nat.le_of_ble_eq_true rfl)) (i := 1) rfl rfl) (za rfl (wl_nil (st_tn (w_seq ?_)))))))))))))
  refine w_seq (w_region (zm rfl (zm rfl (zd rfl (op_val (v' := .int .i64 ((2 : Nat) : Int)) (by rfl) (op_add' rfl rfl (by first | omega | decide))) ?_))))
  refine zd rfl (op_idx (i := 2) rfl rfl tS126vf (Sl.ent (Sl.lab (l := [none, none, some b37]) 62 rfl (Nat.le_of_ble_eq_true rfl))) (Nat.le_of_ble_eq_true rfl)) (zd rfl (op_ldx rfl tO123vf (Sl.lab (l := [none, none, some b37]) 62 rfl (Nat.le_of_ble_eq_true rfl)) (i := 2) rfl rfl) (zm rfl (zd rfl (op_val (v' := .int .i64 (1)) (by rfl) (op_fn Tryz.func59 rfl rfl rfl (cmpPart (pp := 0) (ps := 0) (pi := 0) (pk := 0) (qp := 1) (qs := 1) (qi := 1) (qk := 1) (Ent.lab (l := 37) rfl (says_cel 0)) (Ent.lab (l := 141) rfl (says_cel 0)) (.inl (by decide))))) ?_)))
  refine zd rfl (op_val (v' := .bool false) (by rfl) (op_lss rfl rfl)) ?_
  refine wl_nil (st_tn (w_cond_f (rfl) ?_))
  refine w_skip (st_tn (w_seq (w_seq ?_)))
  refine w_drawW (fun β => [⟨92, [], [], [], noW (_), false, [], []⟩, ⟨93, [], [], [], noW (_), false, [], []⟩, ⟨94, [0, 1], [], [], noW (_), false, [], []⟩, ⟨95, [2], [], [], noW (_), false, [], []⟩, ⟨96, [3], [], [], noW (_), false, [], []⟩, ⟨97, [], [], [], noW (_), false, [], []⟩, ⟨98, [], [], [], noW (_), false, [], []⟩, ⟨99, [5, 6], [], [], noW (_), false, [], []⟩, ⟨100, [7], [], [], noW (_), false, [], []⟩, ⟨101, [8], [], [], noW (_), false, [], []⟩]) [] [0, 11, 1, 13] [⟨92, [], [], false, [], []⟩, ⟨93, [], [], false, [], []⟩, ⟨94, [0, 1], [], false, [], []⟩, ⟨95, [2], [], false, [], []⟩, ⟨96, [3], [], false, [], []⟩, ⟨97, [], [], false, [], []⟩, ⟨98, [], [], false, [], []⟩, ⟨99, [5, 6], [], false, [], []⟩, ⟨100, [7], [], false, [], []⟩, ⟨101, [8], [], false, [], []⟩] [[], [], [], [], [], [], [], [], [], []] [[], [], [], [], [], [], [], [], [], []] tMixvf (fun _ => by rfl) (fun _ => by rfl) (by kernel_rfl) (by kernel_rfl) (by rfl) (by rfl)
      (fun β => ⟨.p rfl (by intro X; exact op_move rfl),
      ⟨.p rfl (by intro X; exact op_move rfl),
      ⟨.p rfl (by intro X; rintro _ _ ⟨rfl, rfl⟩ _ _ ⟨rfl, rfl⟩; exact op_idx (i := 0) rfl rfl tS48vf (Sl.ent ((ha.app X).app _)) (by decide)),
      ⟨.p rfl (by intro X; rintro _ _ ⟨rfl, rfl⟩; exact op_fieldAddr (off := 0) rfl tF52_0vf),
      ⟨.p rfl (by intro X; rintro _ _ ⟨rfl, rfl⟩; exact op_ldxf rfl tO3vf ((ha.app X).app _) (i := 0) (show chA[0]? = some (10, 0, 1) from rfl) rfl),
      ⟨.p rfl (by intro X; exact op_move rfl),
      ⟨.p rfl (by intro X; exact op_move rfl),
      ⟨.p rfl (by intro X; rintro _ _ ⟨rfl, rfl⟩ _ _ ⟨rfl, rfl⟩; exact op_idx (i := 1) rfl rfl tS48vf (Sl.ent ((hb.app X).app _)) (by decide)),
      ⟨.p rfl (by intro X; rintro _ _ ⟨rfl, rfl⟩; exact op_fieldAddr (off := 0) rfl tF52_0vf),
      ⟨.p rfl (by intro X; rintro _ _ ⟨rfl, rfl⟩; exact op_ldxf rfl tO3vf ((hb.app X).app _) (i := 1) (show chB[1]? = some (19, 0, 1) from rfl) rfl),
      trivial⟩⟩⟩⟩⟩⟩⟩⟩⟩⟩)
      (fun β β' => ⟨fun _ => by rfl, ⟨fun _ => by rfl, ⟨fun _ => by rfl, ⟨fun _ => by rfl, ⟨fun _ => by rfl, ⟨fun _ => by rfl, ⟨fun _ => by rfl, ⟨fun _ => by rfl, ⟨fun _ => by rfl, ⟨fun _ => by rfl, trivial⟩⟩⟩⟩⟩⟩⟩⟩⟩⟩) ?_
  intro β
  rintro _ _ ⟨rfl, rfl⟩ _ _ ⟨rfl, rfl⟩ _ _ ⟨rfl, rfl⟩ _ _ ⟨rfl, rfl⟩ _ _ ⟨rfl, rfl⟩ _ _ ⟨rfl, rfl⟩ _ _ ⟨rfl, rfl⟩ _ _ ⟨rfl, rfl⟩ _ _ ⟨rfl, rfl⟩ _ _ ⟨rfl, rfl⟩
  refine wl_norm (e' := [(0, _), (1, _), (2, _), (8, _), (9, _), (11, _), (12, _), (13, _), (14, _), (96, _), (101, _)]) (.cons rfl (.cons rfl (.cons rfl (.cons rfl (.cons rfl (.cons rfl (.cons rfl (.cons rfl (.cons rfl (.cons rfl (.cons rfl (.nil _)))))))))))) (by dsimp only [cond_false, cond_true, List.nil_append, List.cons_append]) ?_
  refine zd rfl (op_sub' rfl rfl (by first | omega | decide)) ?_
  refine zd rfl (op_val (v' := .int .i64 9) (by rfl) (op_fn Tryz.func58 rfl rfl rfl (absS (10 - 19) (by decide)))) ?_
  refine za rfl (wl_nil (st_tn (w_seq ?_)))
  refine w_drawW (fun β => [⟨104, [], [], [], noW (_), false, [], []⟩, ⟨105, [], [], [], noW (_), false, [], []⟩, ⟨106, [0, 1], [], [], noW (_), false, [], []⟩, ⟨107, [2], [], [], noW (_), false, [], []⟩, ⟨108, [], [], [], noW (Det undef), false, [], []⟩, ⟨109, [], [], [], noW (Det undef), false, [], []⟩, ⟨110, [], [], [], noW (Det undef), false, [], []⟩, ⟨111, [], [], [], noW (Det undef), false, [], []⟩, ⟨112, [], [], [], noW (Det undef), false, [], []⟩, ⟨113, [], [], [], noW (Det undef), false, [], []⟩, ⟨114, [], [], [], noW (Det undef), false, [], []⟩, ⟨115, [], [], [], noW (Det undef), false, [], []⟩, ⟨116, [], [], [], noW (Det undef), false, [], []⟩, ⟨117, [], [], [], noW (Det undef), false, [], []⟩, ⟨118, [], [], [], noW (Det undef), false, [], []⟩, ⟨119, [3, 14], [], [], noW (_), false, [], []⟩]) [] [15, 2, 0, 11, 1, 13] [⟨104, [], [], false, [], []⟩, ⟨105, [], [], false, [], []⟩, ⟨106, [0, 1], [], false, [], []⟩, ⟨107, [2], [], false, [], []⟩, ⟨108, [], [], false, [], []⟩, ⟨109, [], [], false, [], []⟩, ⟨110, [], [], false, [], []⟩, ⟨111, [], [], false, [], []⟩, ⟨112, [], [], false, [], []⟩, ⟨113, [], [], false, [], []⟩, ⟨114, [], [], false, [], []⟩, ⟨115, [], [], false, [], []⟩, ⟨116, [], [], false, [], []⟩, ⟨117, [], [], false, [], []⟩, ⟨118, [], [], false, [], []⟩, ⟨119, [3, 14], [], false, [], []⟩] [[], [], [], [], [], [], [], [], [], [], [], [], [], [], [], []] [[], [], [], [], [], [], [], [], [], [], [], [], [], [], [], []] tMixvf (fun _ => by rfl) (fun _ => by rfl) (by kernel_rfl) (by kernel_rfl) (by rfl) (by rfl)
      (fun β => ⟨.p rfl (by intro X; exact op_move rfl),
      ⟨.p rfl (by intro X; exact op_move rfl),
      ⟨.p rfl (by intro X; rintro _ _ ⟨rfl, rfl⟩ _ _ ⟨rfl, rfl⟩; exact op_val (v' := .bool false) (by rfl) (op_leq rfl rfl)),
      ⟨.p rfl (by intro X; rintro _ _ ⟨rfl, rfl⟩; exact op_move rfl),
      ⟨.u rfl rfl rfl (by rintro _ _ ⟨rfl, rfl⟩; exact congrArg (offB true) (by first | rfl | (exact congrArg Value.bool (decide_eq_true (by omega))) | (exact congrArg Value.bool (decide_eq_false (by omega))) | (simp; done) | (simp; omega) | (simp [*]; done) : _ = Value.bool false)) ⟨rfl, rfl⟩ rfl rfl,
      ⟨.u rfl rfl rfl (by rintro _ _ ⟨rfl, rfl⟩; exact congrArg (offB true) (by first | rfl | (exact congrArg Value.bool (decide_eq_true (by omega))) | (exact congrArg Value.bool (decide_eq_false (by omega))) | (simp; done) | (simp; omega) | (simp [*]; done) : _ = Value.bool false)) ⟨rfl, rfl⟩ rfl rfl,
      ⟨.u rfl rfl rfl (by rintro _ _ ⟨rfl, rfl⟩; exact congrArg (offB true) (by first | rfl | (exact congrArg Value.bool (decide_eq_true (by omega))) | (exact congrArg Value.bool (decide_eq_false (by omega))) | (simp; done) | (simp; omega) | (simp [*]; done) : _ = Value.bool false)) ⟨rfl, rfl⟩ rfl rfl,
      ⟨.u rfl rfl rfl (by rintro _ _ ⟨rfl, rfl⟩; exact congrArg (offB true) (by first | rfl | (exact congrArg Value.bool (decide_eq_true (by omega))) | (exact congrArg Value.bool (decide_eq_false (by omega))) | (simp; done) | (simp; omega) | (simp [*]; done) : _ = Value.bool false)) ⟨rfl, rfl⟩ rfl rfl,
      ⟨.u rfl rfl rfl (by rintro _ _ ⟨rfl, rfl⟩; exact congrArg (offB true) (by first | rfl | (exact congrArg Value.bool (decide_eq_true (by omega))) | (exact congrArg Value.bool (decide_eq_false (by omega))) | (simp; done) | (simp; omega) | (simp [*]; done) : _ = Value.bool false)) ⟨rfl, rfl⟩ rfl rfl,
      ⟨.u rfl rfl rfl (by rintro _ _ ⟨rfl, rfl⟩; exact congrArg (offB true) (by first | rfl | (exact congrArg Value.bool (decide_eq_true (by omega))) | (exact congrArg Value.bool (decide_eq_false (by omega))) | (simp; done) | (simp; omega) | (simp [*]; done) : _ = Value.bool false)) ⟨rfl, rfl⟩ rfl rfl,
      ⟨.u rfl rfl rfl (by rintro _ _ ⟨rfl, rfl⟩; exact congrArg (offB true) (by first | rfl | (exact congrArg Value.bool (decide_eq_true (by omega))) | (exact congrArg Value.bool (decide_eq_false (by omega))) | (simp; done) | (simp; omega) | (simp [*]; done) : _ = Value.bool false)) ⟨rfl, rfl⟩ rfl rfl,
      ⟨.u rfl rfl rfl (by rintro _ _ ⟨rfl, rfl⟩; exact congrArg (offB true) (by first | rfl | (exact congrArg Value.bool (decide_eq_true (by omega))) | (exact congrArg Value.bool (decide_eq_false (by omega))) | (simp; done) | (simp; omega) | (simp [*]; done) : _ = Value.bool false)) ⟨rfl, rfl⟩ rfl rfl,
      ⟨.u rfl rfl rfl (by rintro _ _ ⟨rfl, rfl⟩; exact congrArg (offB true) (by first | rfl | (exact congrArg Value.bool (decide_eq_true (by omega))) | (exact congrArg Value.bool (decide_eq_false (by omega))) | (simp; done) | (simp; omega) | (simp [*]; done) : _ = Value.bool false)) ⟨rfl, rfl⟩ rfl rfl,
      ⟨.u rfl rfl rfl (by rintro _ _ ⟨rfl, rfl⟩; exact congrArg (offB true) (by first | rfl | (exact congrArg Value.bool (decide_eq_true (by omega))) | (exact congrArg Value.bool (decide_eq_false (by omega))) | (simp; done) | (simp; omega) | (simp [*]; done) : _ = Value.bool false)) ⟨rfl, rfl⟩ rfl rfl,
      ⟨.u rfl rfl rfl (by rintro _ _ ⟨rfl, rfl⟩; exact congrArg (offB true) (by first | rfl | (exact congrArg Value.bool (decide_eq_true (by omega))) | (exact congrArg Value.bool (decide_eq_false (by omega))) | (simp; done) | (simp; omega) | (simp [*]; done) : _ = Value.bool false)) ⟨rfl, rfl⟩ rfl rfl,
      ⟨.p rfl (by intro X; rintro _ _ ⟨rfl, rfl⟩ _ _ ⟨rfl, rfl⟩; exact op_pick_f rfl rfl),
      trivial⟩⟩⟩⟩⟩⟩⟩⟩⟩⟩⟩⟩⟩⟩⟩⟩)
      (fun β β' => ⟨fun _ => by rfl, ⟨fun _ => by rfl, ⟨fun _ => by rfl, ⟨fun _ => by rfl, ⟨fun _ => by rfl, ⟨fun _ => by rfl, ⟨fun _ => by rfl, ⟨fun _ => by rfl, ⟨fun _ => by rfl, ⟨fun _ => by rfl, ⟨fun _ => by rfl, ⟨fun _ => by rfl, ⟨fun _ => by rfl, ⟨fun _ => by rfl, ⟨fun _ => by rfl, ⟨fun _ => by rfl, trivial⟩⟩⟩⟩⟩⟩⟩⟩⟩⟩⟩⟩⟩⟩⟩⟩) ?_
  intro β
  rintro _ _ ⟨rfl, rfl⟩ _ _ ⟨rfl, rfl⟩ _ _ ⟨rfl, rfl⟩ _ _ ⟨rfl, rfl⟩ _ _ ⟨rfl, rfl⟩ _ _ ⟨rfl, rfl⟩ _ _ ⟨rfl, rfl⟩ _ _ ⟨rfl, rfl⟩ _ _ ⟨rfl, rfl⟩ _ _ ⟨rfl, rfl⟩ _ _ ⟨rfl, rfl⟩ _ _ ⟨rfl, rfl⟩ _ _ ⟨rfl, rfl⟩ _ _ ⟨rfl, rfl⟩ _ _ ⟨rfl, rfl⟩ _ _ ⟨rfl, rfl⟩
  refine wl_norm (e' := [(0, _), (1, _), (2, _), (8, _), (9, _), (11, _), (12, _), (13, _), (14, _), (15, _), (119, _)]) (.cons rfl (.cons rfl (.cons rfl (.cons rfl (.cons rfl (.cons rfl (.cons rfl (.cons rfl (.cons rfl (.cons rfl (.cons rfl (.nil _)))))))))))) (by dsimp only [cond_false, cond_true, List.nil_append, List.cons_append]) ?_
  refine wl_nil (st_tn (w_cond_f (rfl) ?_))
  refine w_skip (st_tn (w_region (zm rfl (zm rfl (zm rfl (zd rfl (op_idx (i := 1) rfl rfl tS126vf (Sl.ent (Sl.lab (l := [none, none, some b37]) 62 rfl (Nat.le_of_ble_eq_true rfl))) (Nat.le_of_ble_eq_true rfl)) (wl_op0 [62] rfl rfl rfl (op_stP (lab := 62) (i := 1) (q := some b141) (l := [none, none, some b37]) rfl rfl tO123vf (Nat.le_of_ble_eq_true rfl)) ?_)))))))
  rintro _ _ ⟨rfl, rfl⟩
  refine wl_nil (st_bn (st_tn (w_region (zm rfl (zd rfl (op_val (v' := .int .i64 ((0 : Nat) : Int)) (by rfl) (op_sub' rfl rfl (by first | omega | decide))) ?_)))))
  refine za rfl (wl_nil (st_rounds ?_))
  -- round l3.1/l5.1
  refine w_sub (e' := [(0, _), (1, _), (2, _), (8, _), (9, _), (11, _), (12, _), (13, _)]) (.cons rfl (.cons rfl (.cons rfl (.cons rfl (.cons rfl (.cons rfl (.cons rfl (.cons rfl (.nil _))))))))) ?_
  refine w_seq (w_seq (w_lab [37, 41, 62, 141] (R' := [(37, cel b37 (encPart 0 0 0 0 none) 125), (41, slW 123 encPt 1 _ [some b141, some b141, some b37]), (62, slW 123 encPt 1 (.slice a62 3 c62) [none, some b141, some b37]), (141, cel b141 (encPart 1 1 1 1 (some ⟨b37, 0, none⟩)) 125)]) rfl rfl ?_))
  refine w_region (zm rfl (zd rfl (op_geq rfl rfl) (wl_nil (st_tn (w_cond_t (rfl) ?_)))))
  refine w_skip (st_tn (w_seq (w_block (w_seq (w_region (zm rfl (zm rfl (zd rfl (op_idx (i := 0) rfl rfl tS126vf (Sl.ent (Sl.lab (l := [some b141, some b141, some b37]) 41 rfl (Nat.le_of_ble_eq_true rfl))) (Nat.le_of_ble_eq_true rfl)) (zd rfl (op_ldx rfl tO123vf (Sl.lab (l := [some b141, some b141, some b37]) 41 rfl (Nat.le_of_ble_eq_true rfl)) (i := 0) rfl rfl) (za rfl (wl_nil (st_tn (w_seq ?_)))))))))))))
  refine w_seq (w_region (zm rfl (zm rfl (zd rfl (op_val (v' := .int .i64 ((1 : Nat) : Int)) (by rfl) (op_add' rfl rfl (by first | omega | decide))) ?_))))
  refine zd rfl (op_idx (i := 1) rfl rfl tS126vf (Sl.ent (Sl.lab (l := [none, some b141, some b37]) 62 rfl (Nat.le_of_ble_eq_true rfl))) (Nat.le_of_ble_eq_true rfl)) (zd rfl (op_ldx rfl tO123vf (Sl.lab (l := [none, some b141, some b37]) 62 rfl (Nat.le_of_ble_eq_true rfl)) (i := 1) rfl rfl) (zm rfl (zd rfl (op_val (v' := .int .i64 (0)) (by rfl) (op_fn Tryz.func59 rfl rfl rfl (cmpPart (pp := 1) (ps := 1) (pi := 1) (pk := 1) (qp := 1) (qs := 1) (qi := 1) (qk := 1) (Ent.lab (l := 141) rfl (says_cel 0)) (Ent.lab (l := 141) rfl (says_cel 0)) (.inr rfl)))) ?_)))
  refine zd rfl (op_val (v' := .bool false) (by rfl) (op_lss rfl rfl)) ?_
  refine wl_nil (st_tn (w_cond_f (rfl) ?_))
  refine w_skip (st_tn (w_seq (w_seq ?_)))
  refine w_drawW (fun β => [⟨92, [], [], [], noW (_), false, [], []⟩, ⟨93, [], [], [], noW (_), false, [], []⟩, ⟨94, [0, 1], [], [], noW (_), false, [], []⟩, ⟨95, [2], [], [], noW (_), false, [], []⟩, ⟨96, [3], [], [], noW (_), false, [], []⟩, ⟨97, [], [], [], noW (_), false, [], []⟩, ⟨98, [], [], [], noW (_), false, [], []⟩, ⟨99, [5, 6], [], [], noW (_), false, [], []⟩, ⟨100, [7], [], [], noW (_), false, [], []⟩, ⟨101, [8], [], [], noW (_), false, [], []⟩]) [] [0, 11, 1, 13] [⟨92, [], [], false, [], []⟩, ⟨93, [], [], false, [], []⟩, ⟨94, [0, 1], [], false, [], []⟩, ⟨95, [2], [], false, [], []⟩, ⟨96, [3], [], false, [], []⟩, ⟨97, [], [], false, [], []⟩, ⟨98, [], [], false, [], []⟩, ⟨99, [5, 6], [], false, [], []⟩, ⟨100, [7], [], false, [], []⟩, ⟨101, [8], [], false, [], []⟩] [[], [], [], [], [], [], [], [], [], []] [[], [], [], [], [], [], [], [], [], []] tMixvf (fun _ => by rfl) (fun _ => by rfl) (by kernel_rfl) (by kernel_rfl) (by rfl) (by rfl)
      (fun β => ⟨.p rfl (by intro X; exact op_move rfl),
      ⟨.p rfl (by intro X; exact op_move rfl),
      ⟨.p rfl (by intro X; rintro _ _ ⟨rfl, rfl⟩ _ _ ⟨rfl, rfl⟩; exact op_idx (i := 0) rfl rfl tS48vf (Sl.ent ((ha.app X).app _)) (by decide)),
      ⟨.p rfl (by intro X; rintro _ _ ⟨rfl, rfl⟩; exact op_fieldAddr (off := 0) rfl tF52_0vf),
      ⟨.p rfl (by intro X; rintro _ _ ⟨rfl, rfl⟩; exact op_ldxf rfl tO3vf ((ha.app X).app _) (i := 0) (show chA[0]? = some (10, 0, 1) from rfl) rfl),
      ⟨.p rfl (by intro X; exact op_move rfl),
      ⟨.p rfl (by intro X; exact op_move rfl),
      ⟨.p rfl (by intro X; rintro _ _ ⟨rfl, rfl⟩ _ _ ⟨rfl, rfl⟩; exact op_idx (i := 0) rfl rfl tS48vf (Sl.ent ((hb.app X).app _)) (by decide)),
      ⟨.p rfl (by intro X; rintro _ _ ⟨rfl, rfl⟩; exact op_fieldAddr (off := 0) rfl tF52_0vf),
      ⟨.p rfl (by intro X; rintro _ _ ⟨rfl, rfl⟩; exact op_ldxf rfl tO3vf ((hb.app X).app _) (i := 0) (show chB[0]? = some (12, 0, 1) from rfl) rfl),
      trivial⟩⟩⟩⟩⟩⟩⟩⟩⟩⟩)
      (fun β β' => ⟨fun _ => by rfl, ⟨fun _ => by rfl, ⟨fun _ => by rfl, ⟨fun _ => by rfl, ⟨fun _ => by rfl, ⟨fun _ => by rfl, ⟨fun _ => by rfl, ⟨fun _ => by rfl, ⟨fun _ => by rfl, ⟨fun _ => by rfl, trivial⟩⟩⟩⟩⟩⟩⟩⟩⟩⟩) ?_
  intro β
  rintro _ _ ⟨rfl, rfl⟩ _ _ ⟨rfl, rfl⟩ _ _ ⟨rfl, rfl⟩ _ _ ⟨rfl, rfl⟩ _ _ ⟨rfl, rfl⟩ _ _ ⟨rfl, rfl⟩ _ _ ⟨rfl, rfl⟩ _ _ ⟨rfl, rfl⟩ _ _ ⟨rfl, rfl⟩ _ _ ⟨rfl, rfl⟩
  refine wl_norm (e' := [(0, _), (1, _), (2, _), (8, _), (9, _), (11, _), (12, _), (13, _), (14, _), (96, _), (101, _)]) (.cons rfl (.cons rfl (.cons rfl (.cons rfl (.cons rfl (.cons rfl (.cons rfl (.cons rfl (.cons rfl (.cons rfl (.cons rfl (.nil _)))))))))))) (by dsimp only [cond_false, cond_true, List.nil_append, List.cons_append]) ?_
  refine zd rfl (op_sub' rfl rfl (by first | omega | decide)) ?_
  refine zd rfl (op_val (v' := .int .i64 2) (by rfl) (op_fn Tryz.func58 rfl rfl rfl (absS (10 - 12) (by decide)))) ?_
  refine za rfl (wl_nil (st_tn (w_seq ?_)))
  refine w_drawW (fun β => [⟨104, [], [], [], noW (_), false, [], []⟩, ⟨105, [], [], [], noW (_), false, [], []⟩, ⟨106, [0, 1], [], [], noW (_), false, [], []⟩, ⟨107, [2], [], [], noW (_), false, [], []⟩, ⟨108, [], [], [], noW (Det undef), false, [], []⟩, ⟨109, [], [], [], noW (Det undef), false, [], []⟩, ⟨110, [], [], [], noW (Det undef), false, [], []⟩, ⟨111, [], [], [], noW (Det undef), false, [], []⟩, ⟨112, [], [], [], noW (Det undef), false, [], []⟩, ⟨113, [], [], [], noW (Det undef), false, [], []⟩, ⟨114, [], [], [], noW (Det undef), false, [], []⟩, ⟨115, [], [], [], noW (Det undef), false, [], []⟩, ⟨116, [], [], [], noW (Det undef), false, [], []⟩, ⟨117, [], [], [], noW (Det undef), false, [], []⟩, ⟨118, [], [], [], noW (Det undef), false, [], []⟩, ⟨119, [3, 14], [], [], noW (_), false, [], []⟩]) [] [15, 2, 0, 11, 1, 13] [⟨104, [], [], false, [], []⟩, ⟨105, [], [], false, [], []⟩, ⟨106, [0, 1], [], false, [], []⟩, ⟨107, [2], [], false, [], []⟩, ⟨108, [], [], false, [], []⟩, ⟨109, [], [], false, [], []⟩, ⟨110, [], [], false, [], []⟩, ⟨111, [], [], false, [], []⟩, ⟨112, [], [], false, [], []⟩, ⟨113, [], [], false, [], []⟩, ⟨114, [], [], false, [], []⟩, ⟨115, [], [], false, [], []⟩, ⟨116, [], [], false, [], []⟩, ⟨117, [], [], false, [], []⟩, ⟨118, [], [], false, [], []⟩, ⟨119, [3, 14], [], false, [], []⟩] [[], [], [], [], [], [], [], [], [], [], [], [], [], [], [], []] [[], [], [], [], [], [], [], [], [], [], [], [], [], [], [], []] tMixvf (fun _ => by rfl) (fun _ => by rfl) (by kernel_rfl) (by kernel_rfl) (by rfl) (by rfl)
      (fun β => ⟨.p rfl (by intro X; exact op_move rfl),
      ⟨.p rfl (by intro X; exact op_move rfl),
      ⟨.p rfl (by intro X; rintro _ _ ⟨rfl, rfl⟩ _ _ ⟨rfl, rfl⟩; exact op_val (v' := .bool false) (by rfl) (op_leq rfl rfl)),
      ⟨.p rfl (by intro X; rintro _ _ ⟨rfl, rfl⟩; exact op_move rfl),
      ⟨.u rfl rfl rfl (by rintro _ _ ⟨rfl, rfl⟩; exact congrArg (offB true) (by first | rfl | (exact congrArg Value.bool (decide_eq_true (by omega))) | (exact congrArg Value.bool (decide_eq_false (by omega))) | (simp; done) | (simp; omega) | (simp [*]; done) : _ = Value.bool false)) ⟨rfl, rfl⟩ rfl rfl,
      ⟨.u rfl rfl rfl (by rintro _ _ ⟨rfl, rfl⟩; exact congrArg (offB true) (by first | rfl | (exact congrArg Value.bool (decide_eq_true (by omega))) | (exact congrArg Value.bool (decide_eq_false (by omega))) | (simp; done) | (simp; omega) | (simp [*]; done) : _ = Value.bool false)) ⟨rfl, rfl⟩ rfl rfl,
      ⟨.u rfl rfl rfl (by rintro _ _ ⟨rfl, rfl⟩; exact congrArg (offB true) (by first | rfl | (exact congrArg Value.bool (decide_eq_true (by omega))) | (exact congrArg Value.bool (decide_eq_false (by omega))) | (simp; done) | (simp; omega) | (simp [*]; done) : _ = Value.bool false)) ⟨rfl, rfl⟩ rfl rfl,
      ⟨.u rfl rfl rfl (by rintro _ _ ⟨rfl, rfl⟩; exact congrArg (offB true) (by first | rfl | (exact congrArg Value.bool (decide_eq_true (by omega))) | (exact congrArg Value.bool (decide_eq_false (by omega))) | (simp; done) | (simp; omega) | (simp [*]; done) : _ = Value.bool false)) ⟨rfl, rfl⟩ rfl rfl,
      ⟨.u rfl rfl rfl (by rintro _ _ ⟨rfl, rfl⟩; exact congrArg (offB true) (by first | rfl | (exact congrArg Value.bool (decide_eq_true (by omega))) | (exact congrArg Value.bool (decide_eq_false (by omega))) | (simp; done) | (simp; omega) | (simp [*]; done) : _ = Value.bool false)) ⟨rfl, rfl⟩ rfl rfl,
      ⟨.u rfl rfl rfl (by rintro _ _ ⟨rfl, rfl⟩; exact congrArg (offB true) (by first | rfl | (exact congrArg Value.bool (decide_eq_true (by omega))) | (exact congrArg Value.bool (decide_eq_false (by omega))) | (simp; done) | (simp; omega) | (simp [*]; done) : _ = Value.bool false)) ⟨rfl, rfl⟩ rfl rfl,
      ⟨.u rfl rfl rfl (by rintro _ _ ⟨rfl, rfl⟩; exact congrArg (offB true) (by first | rfl | (exact congrArg Value.bool (decide_eq_true (by omega))) | (exact congrArg Value.bool (decide_eq_false (by omega))) | (simp; done) | (simp; omega) | (simp [*]; done) : _ = Value.bool false)) ⟨rfl, rfl⟩ rfl rfl,
      ⟨.u rfl rfl rfl (by rintro _ _ ⟨rfl, rfl⟩; exact congrArg (offB true) (by first | rfl | (exact congrArg Value.bool (decide_eq_true (by omega))) | (exact congrArg Value.bool (decide_eq_false (by omega))) | (simp; done) | (simp; omega) | (simp [*]; done) : _ = Value.bool false)) ⟨rfl, rfl⟩ rfl rfl,
      ⟨.u rfl rfl rfl (by rintro _ _ ⟨rfl, rfl⟩; exact congrArg (offB true) (by first | rfl | (exact congrArg Value.bool (decide_eq_true (by omega))) | (exact congrArg Value.bool (decide_eq_false (by omega))) | (simp; done) | (simp; omega) | (simp [*]; done) : _ = Value.bool false)) ⟨rfl, rfl⟩ rfl rfl,
      ⟨.u rfl rfl rfl (by rintro _ _ ⟨rfl, rfl⟩; exact congrArg (offB true) (by first | rfl | (exact congrArg Value.bool (decide_eq_true (by omega))) | (exact congrArg Value.bool (decide_eq_false (by omega))) | (simp; done) | (simp; omega) | (simp [*]; done) : _ = Value.bool false)) ⟨rfl, rfl⟩ rfl rfl,
      ⟨.u rfl rfl rfl (by rintro _ _ ⟨rfl, rfl⟩; exact congrArg (offB true) (by first | rfl | (exact congrArg Value.bool (decide_eq_true (by omega))) | (exact congrArg Value.bool (decide_eq_false (by omega))) | (simp; done) | (simp; omega) | (simp [*]; done) : _ = Value.bool false)) ⟨rfl, rfl⟩ rfl rfl,
      ⟨.p rfl (by intro X; rintro _ _ ⟨rfl, rfl⟩ _ _ ⟨rfl, rfl⟩; exact op_pick_f rfl rfl),
      trivial⟩⟩⟩⟩⟩⟩⟩⟩⟩⟩⟩⟩⟩⟩⟩⟩)
      (fun β β' => ⟨fun _ => by rfl, ⟨fun _ => by rfl, ⟨fun _ => by rfl, ⟨fun _ => by rfl, ⟨fun _ => by rfl, ⟨fun _ => by rfl, ⟨fun _ => by rfl, ⟨fun _ => by rfl, ⟨fun _ => by rfl, ⟨fun _ => by rfl, ⟨fun _ => by rfl, ⟨fun _ => by rfl, ⟨fun _ => by rfl, ⟨fun _ => by rfl, ⟨fun _ => by rfl, ⟨fun _ => by rfl, trivial⟩⟩⟩⟩⟩⟩⟩⟩⟩⟩⟩⟩⟩⟩⟩⟩) ?_
  intro β
  rintro _ _ ⟨rfl, rfl⟩ _ _ ⟨rfl, rfl⟩ _ _ ⟨rfl, rfl⟩ _ _ ⟨rfl, rfl⟩ _ _ ⟨rfl, rfl⟩ _ _ ⟨rfl, rfl⟩ _ _ ⟨rfl, rfl⟩ _ _ ⟨rfl, rfl⟩ _ _ ⟨rfl, rfl⟩ _ _ ⟨rfl, rfl⟩ _ _ ⟨rfl, rfl⟩ _ _ ⟨rfl, rfl⟩ _ _ ⟨rfl, rfl⟩ _ _ ⟨rfl, rfl⟩ _ _ ⟨rfl, rfl⟩ _ _ ⟨rfl, rfl⟩
  refine wl_norm (e' := [(0, _), (1, _), (2, _), (8, _), (9, _), (11, _), (12, _), (13, _), (14, _), (15, _), (119, _)]) (.cons rfl (.cons rfl (.cons rfl (.cons rfl (.cons rfl (.cons rfl (.cons rfl (.cons rfl (.cons rfl (.cons rfl (.cons rfl (.nil _)))))))))))) (by dsimp only [cond_false, cond_true, List.nil_append, List.cons_append]) ?_
  refine wl_nil (st_tn (w_cond_f (rfl) ?_))
  refine w_skip (st_tn (w_region (zm rfl (zm rfl (zm rfl (zd rfl (op_idx (i := 0) rfl rfl tS126vf (Sl.ent (Sl.lab (l := [none, some b141, some b37]) 62 rfl (Nat.le_of_ble_eq_true rfl))) (Nat.le_of_ble_eq_true rfl)) (wl_op0 [62] rfl rfl rfl (op_stP (lab := 62) (i := 0) (q := some b141) (l := [none, some b141, some b37]) rfl rfl tO123vf (Nat.le_of_ble_eq_true rfl)) ?_)))))))
  rintro _ _ ⟨rfl, rfl⟩
  refine wl_nil (st_bn (st_tn (w_region (zm rfl (zd rfl (op_val (v' := .int .i64 (-1)) (by rfl) (op_sub' rfl rfl (by first | omega | decide))) ?_)))))
  refine za rfl (wl_nil (st_rounds ?_))
  -- round l3.1/l5.2
  refine w_sub (e' := [(0, _), (1, _), (2, _), (8, _), (9, _), (11, _), (12, _), (13, _)]) (.cons rfl (.cons rfl (.cons rfl (.cons rfl (.cons rfl (.cons rfl (.cons rfl (.cons rfl (.nil _))))))))) ?_
  refine w_seq (w_seq (w_region (zm rfl (zd rfl (op_geq rfl rfl) (wl_nil (st_tn (w_cond_f (rfl) ?_)))))))
  refine w_exit (st_te ?_)
  refine st_te ?_
  refine st_be (st_tn (w_region (zm rfl (za rfl (wl_nil (st_bn (st_tn (w_region (zm rfl (zd rfl (op_val (v' := .int .i64 (-1)) (by rfl) (op_sub' rfl rfl (by first | omega | decide))) ?_))))))))))
  refine za rfl (wl_nil (st_rounds ?_))
  -- round l3.2
  refine w_sub (e' := [(0, _), (1, _), (2, _), (8, _), (9, _), (11, _)]) (.cons rfl (.cons rfl (.cons rfl (.cons rfl (.cons rfl (.cons rfl (.nil _))))))) ?_
  refine w_seq (w_seq (w_lab [37, 62, 141] (R' := [(37, cel b37 (encPart 0 0 0 0 none) 125), (41, slW 123 encPt 1 (.slice a62 3 c62) [some b141, some b141, some b37]), (141, cel b141 (encPart 1 1 1 1 (some ⟨b37, 0, none⟩)) 125)]) rfl rfl ?_))
  -- SLAB 9=41
  -- LABS 37 41 141
  refine w_region (zm rfl (zd rfl (op_geq rfl rfl) (wl_nil (st_tn (w_cond_f (rfl) ?_)))))
  refine w_exit (st_te ?_)
  refine st_te ?_
  refine st_be (st_tn (w_seq (w_region (za rfl (wl_nil (st_tn (w_seq (w_seq (w_emp 18 (slO_nil 96 2) ?_)))))))))
  -- SLAB 18=18
  refine w_region (zm rfl (zd rfl (op_idx (i := 0) rfl rfl tS126vf (Sl.ent (Sl.lab (l := [some b141, some b141, some b37]) 41 rfl (Nat.le_of_ble_eq_true rfl))) (Nat.le_of_ble_eq_true rfl)) (zd rfl (op_ldx rfl tO123vf (Sl.lab (l := [some b141, some b141, some b37]) 41 rfl (Nat.le_of_ble_eq_true rfl)) (i := 0) rfl rfl) (za rfl (wl_nil (st_tn (w_block (w_rounds 1 ?_))))))))
  -- round l7.0
  refine w_sub (e' := [(18, _), (19, _)]) (.cons rfl (.cons rfl (.nil _))) ?_
  refine w_seq (w_seq ?_)
  -- PROV 19=141
  refine w_region (zm rfl (zd rfl (op_nilCheck rfl) (zd rfl (op_fieldAddr (off := 0) rfl tF125_0vf) (zd rfl (op_load1 rfl tO3vf (Ent.lab (l := 141) rfl (says_cel 0))) (zd rfl (op_gtr rfl rfl) (wl_nil (st_tn (w_cond_t (rfl) ?_))))))))
  refine w_skip (st_tn (w_seq (w_block (w_region (zm rfl (zm rfl (zd rfl (op_nilCheck rfl) (zd rfl (op_fieldAddr (off := 2) rfl tF125_2vf) (zd rfl (op_loadA rfl tA96vf (Ent.lab (l := 141) rfl (says_cel 2)) (Nat.le_of_ble_eq_true rfl)) (wl_op [] rfl rfl rfl rfl (op_buildSlice (enc := encPr) (l := [((1 : Int), (1 : Int))]) (lab := 169) tL93_1vf rfl rfl (fun _ => rfl) rfl) ?_))))))))))
  rintro _ _ ⟨a169, c169, rfl, rfl⟩
  refine wl_op [18] rfl rfl rfl rfl (op_append (l1 := ([] : List (Int × Int))) (lab := 18) (lab' := 170) rfl rfl tPp enc1Pr (Sl.lab (l := [((1 : Int), (1 : Int))]) 169 rfl (Nat.le_of_ble_eq_true rfl)) (Nat.le_of_ble_eq_true rfl) (Nat.le_of_ble_eq_true rfl)) ?_
  rintro _ _ ⟨a170, c170, rfl, rfl⟩
  refine za rfl (wl_nil (st_bn (st_tn (w_region (zm rfl (zd rfl (op_nilCheck rfl) (zd rfl (op_fieldAddr (off := 4) rfl tF125_3vf) (zd rfl (op_load1 rfl tO123vf (Ent.lab (l := 141) rfl (says_cel 4))) (za rfl (wl_nil (st_rounds ?_)))))))))))
  -- round l7.1
  refine w_sub (e' := [(18, _), (19, _)]) (.cons rfl (.cons rfl (.nil _))) ?_
  refine w_seq (w_seq ?_)
  -- PROV 19=37
  refine w_region (zm rfl (zd rfl (op_nilCheck rfl) (zd rfl (op_fieldAddr (off := 0) rfl tF125_0vf) (zd rfl (op_load1 rfl tO3vf (Ent.lab (l := 37) rfl (says_cel 0))) (zd rfl (op_gtr rfl rfl) (wl_nil (st_tn (w_cond_f (rfl) ?_))))))))
  refine w_exit (st_te ?_)
  refine st_te ?_
  refine st_be (st_tn (w_seq (w_region (zm rfl (za rfl (za rfl (wl_nil (st_tn (w_ret (st_ret (vs := [_, _]) [170] Tryz.results39 ⟨rfl, ⟨rfl, trivial⟩⟩ rfl ?_))))))))))
  refine ⟨[(lab, _)], rfl, ?_⟩
  exact ⟨_, _, rfl, rfl⟩
end Go.Proofs.YtecmigildpkigaaGreat
namespace Go.Proofs.YtecmigildpkigaaGreat
open Go Go.SL Go.RowKit Go.SegP
set_option linter.unusedVariables false
set_option linter.unusedSimpArgs false
theorem tA52vg : aggB Tryz.prog 52 3 = true := by kernel_rfl
theorem tA96vg : aggB Tryz.prog 96 2 = true := by kernel_rfl
theorem tB52vg : placesB Tryz.prog 52 = some ([(0, 1), (1, 1), (2, 1)], [Value.int .i64 0, Value.int .i64 0, Value.int .i64 0]) := by kernel_rfl
theorem tC96vg : arrZB Tryz.prog 96 2 1 = some [Value.int .i64 0, Value.int .i64 0] := by kernel_rfl
theorem tL36_2vg : zerosB Tryz.prog 36 3 1 2 = some [Value.int .i64 0, Value.int .i64 0] := by kernel_rfl
theorem tL48_2vg : zerosB Tryz.prog 48 52 3 2 = some [Value.int .i64 0, Value.int .i64 0, Value.int .i64 0, Value.int .i64 0, Value.int .i64 0, Value.int .i64 0] := by kernel_rfl
theorem tL90_5vg : zerosB Tryz.prog 90 5 1 5 = some [Value.int .u8 0, Value.int .u8 0, Value.int .u8 0, Value.int .u8 0, Value.int .u8 0] := by kernel_rfl
theorem tS48vg : sliceB Tryz.prog 48 52 3 = true := by kernel_rfl
theorem tS93vg : sliceB Tryz.prog 93 96 2 = true := by kernel_rfl
theorem tGch : Tryz.prog.eqGuardType Tryz.prog.depth 52 = false := by kernel_rfl
theorem tGpr : Tryz.prog.eqGuardType Tryz.prog.depth 96 = false := by kernel_rfl
def insI (x : Int) : List Int → List Int
  | [] => [x]
  | y :: l => if x ≤ y then x :: y :: l else y :: insI x l
def isrt : List Int → List Int
  | [] => []
  | x :: l => insI x (isrt l)
theorem insI_perm (x : Int) : ∀ l, (insI x l).Perm (x :: l)
  | [] => List.Perm.refl _
  | y :: l => by
    unfold insI
    split
    · exact List.Perm.refl _
    · exact ((insI_perm x l).cons y).trans (List.Perm.swap x y l)
theorem insI_sorted {x : Int} : ∀ {l : List Int}, l.Pairwise (· ≤ ·) → (insI x l).Pairwise (· ≤ ·)
  | [], _ => by simp [insI]
  | y :: l, h => by
    obtain ⟨h1, h2⟩ := List.pairwise_cons.1 h
    unfold insI
    split
    · rename_i hxy
      refine List.pairwise_cons.2 ⟨fun z hz => ?_, h⟩
      rcases List.mem_cons.1 hz with rfl | hz
      · exact hxy
      · have := h1 z hz; omega
    · rename_i hxy
      refine List.pairwise_cons.2 ⟨fun z hz => ?_, insI_sorted h2⟩
      rcases List.mem_cons.1 ((insI_perm x l).mem_iff.1 hz) with rfl | hz
      · omega
      · exact h1 z hz
theorem isrt_perm : ∀ l, (isrt l).Perm l
  | [] => List.Perm.refl _
  | x :: l => (insI_perm x _).trans ((isrt_perm l).cons x)
theorem isrt_sorted : ∀ l, (isrt l).Pairwise (· ≤ ·)
  | [] => List.Pairwise.nil
  | x :: l => insI_sorted (isrt_sorted l)
theorem srt_isrt (l : List Int) : srt l = isrt l := srt_eq (isrt_sorted l) (isrt_perm l)
def costI (l : List Int) : Int := devZ l ((isrt l).getD ((l.length - 1) / 2) 0)
theorem cost_eq (l : List Int) : costZ l = costI l := by unfold costZ medZ costI; rw [srt_isrt]
def segI (pts : List Int) (s t : Nat) : Int := costI ((pts.take t).drop s)
theorem seg_eq (pts : List Int) : segC pts = segI pts := by funext s t; exact cost_eq _
theorem med_eq : medZ = fun l => (isrt l).getD ((l.length - 1) / 2) 0 := by funext l; unfold medZ; rw [srt_isrt]
abbrev kP : List Int := [5, 5, 6, 20, 21]
theorem kPB : PtsB kP := ⟨by decide, by decide⟩
theorem kChg : chgR 100 kP 4 = [(103, 5, 20)] := by unfold chgR levL; rw [seg_eq, med_eq]; decide +kernel
theorem kRank : rankL ([1, 2] ++ [5, 6]) = [2, 4, 6, 8] := by decide +kernel
theorem kExt : extT [2, 4, 6, 8] 4 2 = 2 := by decide +kernel
theorem kTot : totT [2, 4, 6, 8] 4 2 = 6 := by decide +kernel
abbrev kSK : Ser.SK := ⟨⟨#[97, 112, 105]⟩, ⟨#[]⟩, 1, 0, 0⟩
theorem kChk : Ser.chkE kSK 100 kP = 0 := by decide +kernel
theorem eqCh (w : World) : (Op.equal 52 (.agg #[.int .i64 103, .int .i64 5, .int .i64 20]) (.agg #[.int .i64 103, .int .i64 5, .int .i64 20])).run Tryz.prog w = .ok true w := by kernel_rfl
theorem eqPr (w : World) : (Op.equal 96 (.agg #[.int .i64 1, .int .i64 1]) (.agg #[.int .i64 1, .int .i64 1])).run Tryz.prog w = .ok true w := by kernel_rfl
set_option maxHeartbeats 4000000 in
set_option maxRecDepth 100000 in
theorem known45 {σ : World} {F : List Res} : FnT Tryz.prog σ F 14 [] [] (fun u ρ => u = .bool true ∧ ρ = []) := by
  refine fn_of 80 Tryz.func14 rfl Tryz.ntmps14 rfl ?_
  refine w_seq (w_region (za rfl (wl_nil (st_tn (w_seq (w_region (wl_op [] rfl rfl rfl rfl (op_buildSlice (enc := encY8) (l := kP) (lab := 9) tL90_5vg rfl rfl (fun _ => rfl) rfl) ?_)))))))
  rintro _ _ ⟨a9, c9, rfl, rfl⟩
  refine wl_op [] rfl rfl rfl rfl (op_fn Tryz.func37 rfl rfl rfl (pointsS (l := kP) 10 100 (by decide) (Sl.lab 9 rfl (Nat.le_of_ble_eq_true rfl)) (by decide) (by decide))) ?_
  rintro _ _ ⟨a10, c10, rfl, rfl⟩
  refine wl_op [] rfl rfl rfl rfl (op_fn Tryz.func13 rfl rfl rfl (fn_imp (changeOfS (pts := kP) 11 kSK 100 4 (Sl.lab 10 rfl (Nat.le_of_ble_eq_true rfl)) kChk (by decide) (by decide) (by decide) (by decide) (by decide) kPB (by decide) (by decide)) (fun u ρ hu => (by rw [kChg] at hu; exact hu : ∃ (a' : Option Addr) (c' : Nat), u = .tuple #[.slice a' ([(103, 5, 20)] : List ChV).length c', .int .i64 0] ∧ ρ = [(11, slW 52 encCh 3 (.slice a' ([(103, 5, 20)] : List ChV).length c') [(103, 5, 20)])])))) ?_
  rintro _ _ ⟨a11, c11, rfl, rfl⟩
  refine zm rfl (zd rfl (op_extract rfl rfl) (zd rfl (op_extract rfl rfl) (za rfl (za rfl (wl_nil (st_tn (w_seq (w_region (wl_op [] rfl rfl rfl rfl (op_buildSlice (enc := SL.encZ) (l := [(1 : Int), 2]) (lab := 15) tL36_2vg rfl rfl (fun _ => rfl) rfl) ?_)))))))))
  rintro _ _ ⟨a15, c15, rfl, rfl⟩
  refine wl_op [] rfl rfl rfl rfl (op_buildSlice (enc := SL.encZ) (l := [(5 : Int), 6]) (lab := 16) tL36_2vg rfl rfl (fun _ => rfl) rfl) ?_
  rintro _ _ ⟨a16, c16, rfl, rfl⟩
  refine zd rfl (op_fn Tryz.func38 rfl rfl rfl (fn_imp (testS (la := [1, 2]) (lb := [5, 6]) (Sl.lab 15 rfl (Nat.le_of_ble_eq_true rfl)) (Sl.lab 16 rfl (Nat.le_of_ble_eq_true rfl)) (by decide) (by decide) (by decide)) (fun u ρ hu => (by rw [kRank, show ([1, 2] : List Int).length + ([5, 6] : List Int).length = 4 from rfl, show ([1, 2] : List Int).length = 2 from rfl, kExt, kTot] at hu; exact hu : u = .tuple #[.int .i64 2, .int .i64 6, .int .i64 0] ∧ ρ = [])))) ?_
  refine zm rfl (zd rfl (op_extract rfl rfl) (zd rfl (op_extract rfl rfl) (zd rfl (op_extract rfl rfl) (za rfl (za rfl (za rfl (wl_nil (st_tn (w_seq (w_region (zd rfl (op_build tB52vg rfl rfl) (zd rfl (op_build tB52vg rfl rfl) (wl_op [] rfl rfl rfl rfl (op_buildSlice (enc := encCh) (l := chA) (lab := 24) tL48_2vg rfl rfl (fun _ => rfl) rfl) ?_)))))))))))))
  rintro _ _ ⟨a24, c24, rfl, rfl⟩
  refine zd rfl (op_build tB52vg rfl rfl) (zd rfl (op_build tB52vg rfl rfl) (wl_op [] rfl rfl rfl rfl (op_buildSlice (enc := encCh) (l := chB) (lab := 27) tL48_2vg rfl rfl (fun _ => rfl) rfl) ?_))
  rintro _ _ ⟨a27, c27, rfl, rfl⟩
  refine wl_op [] rfl rfl rfl rfl (op_fn Tryz.func39 rfl rfl rfl (matchS 28 (Sl.lab 24 rfl (Nat.le_of_ble_eq_true rfl)) (Sl.lab 27 rfl (Nat.le_of_ble_eq_true rfl)))) ?_
  rintro _ _ ⟨a28, c28, rfl, rfl⟩
  refine zm rfl (zd rfl (op_extract rfl rfl) (zd rfl (op_extract rfl rfl) (za rfl (za rfl (wl_nil (st_tn (w_seq (w_region (zm rfl (zd rfl (op_val (v' := .bool true) (by rfl) (op_eql rfl rfl)) ?_))))))))))
  refine zm rfl (wl_wanted_det rfl rfl rfl rfl rfl rfl rfl (op_move rfl) (wl_wanted_det rfl rfl rfl rfl rfl rfl rfl (op_lenT rfl tS48vg (Sl.ent (Sl.lab (l := [(103, 5, 20)]) 11 rfl (Nat.le_of_ble_eq_true rfl)))) (wl_wanted_det rfl rfl rfl rfl rfl rfl rfl (op_val (v' := .bool true) (by rfl) (op_eql rfl rfl)) ?_)))
  refine zd rfl (op_pick_t rfl rfl) (zm rfl (wl_wanted_det rfl rfl rfl rfl rfl rfl rfl (op_move rfl) (wl_wanted_det rfl rfl rfl rfl rfl rfl rfl (op_idx (i := 0) rfl rfl tS48vg (Sl.ent (Sl.lab (l := [(103, 5, 20)]) 11 rfl (Nat.le_of_ble_eq_true rfl))) (by decide)) ?_)))
  refine wl_wanted_det rfl rfl rfl rfl rfl rfl rfl (op_ldxA rfl tA52vg (Sl.lab (l := [(103, 5, 20)]) 11 rfl (Nat.le_of_ble_eq_true rfl)) (i := 0) rfl rfl rfl) (wl_wanted_det rfl rfl rfl rfl rfl rfl rfl (op_build tB52vg rfl rfl) (wl_wanted_det rfl rfl rfl rfl rfl rfl rfl (op_eqA rfl rfl tGch eqCh) (zd rfl (op_pick_t rfl rfl) (zm rfl (wl_wanted_det rfl rfl rfl rfl rfl rfl rfl (op_move rfl) (wl_wanted_det rfl rfl rfl rfl rfl rfl rfl (op_val (v' := .bool true) (by rfl) (op_eql rfl rfl)) ?_))))))
  refine zd rfl (op_pick_t rfl rfl) (zm rfl (wl_wanted_det rfl rfl rfl rfl rfl rfl rfl (op_move rfl) (wl_wanted_det rfl rfl rfl rfl rfl rfl rfl (op_val (v' := .bool true) (by rfl) (op_eql rfl rfl)) ?_)))
  refine zd rfl (op_pick_t rfl rfl) (zm rfl (wl_wanted_det rfl rfl rfl rfl rfl rfl rfl (op_move rfl) (wl_wanted_det rfl rfl rfl rfl rfl rfl rfl (op_val (v' := .bool true) (by rfl) (op_eql rfl rfl)) ?_)))
  refine zd rfl (op_pick_t rfl rfl) (zm rfl (wl_wanted_det rfl rfl rfl rfl rfl rfl rfl (op_move rfl) (wl_wanted_det rfl rfl rfl rfl rfl rfl rfl (op_val (v' := .bool true) (by rfl) (op_eql rfl rfl)) ?_)))
  refine zd rfl (op_pick_t rfl rfl) (zm rfl (wl_wanted_det rfl rfl rfl rfl rfl rfl rfl (op_move rfl) (wl_wanted_det rfl rfl rfl rfl rfl rfl rfl (op_lenT rfl tS93vg (Sl.ent (Sl.lab (l := [((1 : Int), (1 : Int))]) 28 rfl (Nat.le_of_ble_eq_true rfl)))) (wl_wanted_det rfl rfl rfl rfl rfl rfl rfl (op_val (v' := .bool true) (by rfl) (op_eql rfl rfl)) ?_))))
  refine zd rfl (op_pick_t rfl rfl) (zm rfl (wl_wanted_det rfl rfl rfl rfl rfl rfl rfl (op_move rfl) (wl_wanted_det rfl rfl rfl rfl rfl rfl rfl (op_idx (i := 0) rfl rfl tS93vg (Sl.ent (Sl.lab (l := [((1 : Int), (1 : Int))]) 28 rfl (Nat.le_of_ble_eq_true rfl))) (by decide)) ?_)))
  refine wl_wanted_det rfl rfl rfl rfl rfl rfl rfl (op_ldxA rfl tA96vg (Sl.lab (l := [((1 : Int), (1 : Int))]) 28 rfl (Nat.le_of_ble_eq_true rfl)) (i := 0) rfl rfl rfl) (wl_wanted_det rfl rfl rfl rfl rfl rfl rfl (op_buildArr tC96vg rfl rfl) (wl_wanted_det rfl rfl rfl rfl rfl rfl rfl (op_eqA rfl rfl tGpr eqPr) (zd rfl (op_pick_t rfl rfl) (zm rfl (wl_wanted_det rfl rfl rfl rfl rfl rfl rfl (op_move rfl) (wl_wanted_det rfl rfl rfl rfl rfl rfl rfl (op_idx (i := 0) rfl rfl tS48vg (Sl.ent (Sl.lab (l := [(103, 5, 20)]) 11 rfl (Nat.le_of_ble_eq_true rfl))) (by decide)) ?_))))))
  refine wl_wanted_det rfl rfl rfl rfl rfl rfl rfl (op_ldxA rfl tA52vg (Sl.lab (l := [(103, 5, 20)]) 11 rfl (Nat.le_of_ble_eq_true rfl)) (i := 0) rfl rfl rfl) (wl_wanted_det rfl rfl rfl rfl rfl rfl rfl (op_val (v' := .int .i64 3000000) (by rfl) (op_fn Tryz.func40 rfl rfl rfl (relS (103, 5, 20) (by decide) (by decide)))) ?_)
  refine wl_wanted_det rfl rfl rfl rfl rfl rfl rfl (op_val (v' := .bool true) (by rfl) (op_eql rfl rfl)) ?_
  refine zd rfl (op_pick_t rfl rfl) (za rfl (wl_nil (st_tn (w_ret (st_ret (vs := [_]) [] Tryz.results14 ⟨rfl, trivial⟩ rfl ?_)))))
  refine ⟨_, rfl, ?_⟩
  exact ⟨rfl, rfl⟩
set_option maxHeartbeats 400000 in
set_option maxRecDepth 100000 in
theorem Known45 {σ : World} {F : List Res} : FnT Tryz.prog σ F 4 [] [] (fun u ρ => u = .bool true ∧ ρ = []) := by
  refine fn_of 2 Tryz.func4 rfl Tryz.ntmps4 rfl ?_
  refine w_seq (w_region (za rfl (wl_nil (st_tn (w_seq (w_region (zd rfl (op_fn Tryz.func14 rfl rfl rfl known45) (za rfl (wl_nil (st_tn (w_ret (st_ret (vs := [_]) [] Tryz.results4 ⟨rfl, trivial⟩ rfl ?_))))))))))))
  refine ⟨_, rfl, ?_⟩
  exact ⟨rfl, rfl⟩
end Go.Proofs.YtecmigildpkigaaGreat
namespace Go.Proofs.YtecmigildpkigaaGreat.Ser
open Go Go.SL Go.RowKit
set_option linter.unusedVariables false
set_option linter.unusedSimpArgs false
def SpOk (x : SpR) : Prop := (-1099511627776 ≤ x.st ∧ x.st ≤ 1099511627776) ∧ (-1099511627776 ≤ x.en ∧ x.en ≤ 1099511627776) ∧ 0 ≤ x.en - x.st ∧ x.en - x.st ≤ 1099511627776
structure KtOk (K : KT) (n : Nat) : Prop where
  len : K.length ≤ n
  sp : ∀ q ∈ K, q.2.length ≤ 100
  bd : ∀ q ∈ K, ∀ x ∈ q.2, SpOk x
theorem KtOk.tr {T : List TrV} {n : Nat} (h : KtOk (T.map keyT) n) (hn : n ≤ 100) : TrOk T :=
  ⟨by have := h.len; rw [List.length_map] at this; omega, fun t ht => by have := h.sp (keyT t) (List.mem_map.2 ⟨t, ht, rfl⟩); simpa [keyT] using this, fun t ht x hx => h.bd (keyT t) (List.mem_map.2 ⟨t, ht, rfl⟩) (keyS x) (List.mem_map.2 ⟨x, hx, rfl⟩)⟩
theorem traceN_len {S : StoryV} {k : Nat} {t : TreeV} : ∀ i, (traceN S k t i).length ≤ i
  | 0 => by simp [traceN]
  | i + 1 => by
    have ih := traceN_len (S := S) (k := k) (t := t) i
    rw [traceN]
    split
    · rw [List.length_append, List.length_singleton]; omega
    · omega
theorem byV_bd {S : StoryV} (h : StB S) (k i : Nat) (c : CallV) : -20 ≤ byV S k i c ∧ byV S k i c ≤ 520 := by
  have := offV_bd h (1 + c.clk % 4)
  unfold byV
  split <;> omega
theorem traceN_bd {S : StoryV} {k : Nat} {t : TreeV} (hB : StB S) (hl : t.calls.length ≤ 8) : ∀ i, ∀ x ∈ traceN S k t i, SpOk x
  | 0, x, hx => by simp [traceN] at hx
  | i + 1, x, hx => by
    have ih := traceN_bd (k := k) hB hl i
    rw [traceN] at hx
    split at hx
    · rename_i c s e h1 h2 h3
      rcases List.mem_append.1 hx with hx | hx
      · exact ih x hx
      · rw [List.mem_singleton] at hx
        subst hx
        have h4 := startN_bd (st := t.start) (cs := t.calls) (Nat.le_refl _) s (List.mem_of_getElem? h2)
        have h5 := (endL_B t).2 i s e h2 h3
        have h6 := byV_bd hB k i c
        unfold SpOk spR
        dsimp only
        omega
    · exact ih x hx
theorem mem_insK {x q : Int × List SpR} {l : KT} (h : q ∈ insK x l) : q = x ∨ q ∈ l := by
  unfold insK at h
  rcases List.mem_append.1 h with h | h
  · rcases List.mem_append.1 h with h | h
    · exact .inr (List.mem_of_mem_take h)
    · exact .inl (List.mem_singleton.1 h)
  · exact .inr (List.mem_of_mem_drop h)
theorem tracesN_mem {S : StoryV} : ∀ k, ∀ q ∈ tracesN S k, ∃ t ∈ S.trees, ∃ j, q = (idV t j, traceR S j t)
  | 0, q, h => by simp [tracesN] at h
  | k + 1, q, h => by
    rw [tracesN] at h
    split at h
    · rename_i t ht
      split at h
      · exact tracesN_mem k q h
      · rcases mem_insK h with h | h
        · exact ⟨t, List.mem_of_getElem? ht, k, h⟩
        · exact tracesN_mem k q h
    · exact tracesN_mem k q h
theorem traces_ok {S : StoryV} (hB : StB S) (hs : shortP S) : KtOk (tracesR S) 3 := by
  have hm := tracesN_mem (S := S) S.trees.length
  refine ⟨Nat.le_trans (tracesN_len _) hs.2.1, fun q hq => ?_, fun q hq x hx => ?_⟩
  · obtain ⟨t, ht, j, rfl⟩ := hm q hq
    have h1 := traceN_len (S := S) (k := j) (t := t) t.calls.length
    have h2 := hs.1 t ht
    show (traceN S j t t.calls.length).length ≤ 100
    omega
  · obtain ⟨t, ht, j, rfl⟩ := hm q hq
    exact traceN_bd hB (hs.1 t ht) _ x hx
def valsV (k : SK) (K : KT) : List Int := (slots 0 64).map (valT k K)
theorem valsV_len (k : SK) (K : KT) : (valsV k K).length = 64 := by unfold valsV; rw [List.length_map, slots_len]; rfl
theorem ofR_go {k : SK} (hG : GK k) (K : KT) : ofR k K 0 64 = ⟨k, 0, valsV k K, 0⟩ := by
  have h1 : chkE k 0 [] = 0 := (chk_ok hG (fr := 0) (l := []) (by simp) (by simp)).2 (by simp)
  unfold ofR
  rw [if_neg (by rw [h1]; simp), if_neg (by omega), if_neg (by omega)]
  rfl
theorem valK_bd {K : KT} {n : Nat} (h : KtOk K n) (hn : n ≤ 100) (k : SK) (hm : k.met ≠ 3) (s : Int) : 0 ≤ valT k K s ∧ valT k K s ≤ 10000 := by
  have h1 := durT_le k s K h.sp
  have h2 := h.len
  unfold valT
  rw [if_neg hm]
  split <;> omega
theorem valT_add {k : SK} (hm : k.met ≠ 3) (K1 K2 : KT) (s : Int) : valT k (K1 ++ K2) s = valT k K1 s + valT k K2 s := by
  unfold valT
  rw [if_neg hm, if_neg hm, if_neg hm]
  split
  · unfold errT; rw [List.map_append, List.sum_append]; omega
  · unfold durT; rw [List.map_append, List.flatten_append, List.length_append]; omega
theorem atV_vals {k : SK} {K : KT} {s : Int} (h : s ∈ slots 0 64) : atV (valsV k K) 0 s = valT k K s := by
  have h1 := mem_slots.1 h
  unfold atV
  rw [if_pos (by rw [valsV_len]; omega)]
  unfold valsV
  rw [List.getD_eq_getElem?_getD, List.getElem?_map, slots_get h1.1 h1.2]; rfl
theorem sumR_go {k : SK} {K1 K2 : KT} (h1 : KtOk K1 3) (h2 : KtOk K2 3) (hm : k.met ≠ 3) : sumR k 0 (valsV k K1) k 0 (valsV k K2) = ⟨k, 0, valsV k (K1 ++ K2), 0⟩ := by
  have hl1 := valsV_len k K1
  have hl2 := valsV_len k K2
  have hsv : ∀ s ∈ slots 0 64, sumV (valsV k K1) 0 (valsV k K2) 0 s = (valT k (K1 ++ K2) s, 0) := fun s hs => by
    have b1 := valK_bd h1 (by omega) k hm s
    have b2 := valK_bd h2 (by omega) k hm s
    unfold sumV
    rw [atV_vals hs, atV_vals hs, if_neg (by omega), valT_add hm]
  unfold sumR
  rw [if_neg (fun h => h (sameK_refl k)), if_neg hm, if_neg (oneR_both (by omega) (by omega)), hl1, hl2]
  show bothR k 0 64 _ = _
  unfold bothR
  rw [if_neg (by omega), List.find?_eq_none.2 (fun q hq => by rw [hsv q hq]; simp)]
  show (⟨k, 0, (slots 0 64).map (fun s => (sumV (valsV k K1) 0 (valsV k K2) 0 s).1), 0⟩ : R) = _
  rw [List.map_congr_left (g := valT k (K1 ++ K2)) (fun s hs => by rw [hsv s hs])]
  rfl
theorem valsV_bd {k : SK} {K : KT} {n : Nat} (h : KtOk K n) (hn : n ≤ 100) : ∀ x ∈ valsV k K, 0 ≤ x ∧ x ≤ 1099511627776 := fun x hx => by
  unfold valsV at hx
  obtain ⟨s, _, rfl⟩ := List.mem_map.1 hx
  by_cases hm : k.met = 3
  · unfold valT
    rw [if_neg (by omega), if_pos hm]
    refine quant_bd fun y hy => ?_
    unfold durT at hy
    obtain ⟨l, hl, hy⟩ := List.mem_flatten.1 hy
    obtain ⟨q, hq, rfl⟩ := List.mem_map.1 hl
    split at hy
    · exact durS_bd (fun x hx => (h.bd q hq x hx).2.2) y hy
    · simp at hy
  · have := valK_bd h hn k hm s; omega
end Go.Proofs.YtecmigildpkigaaGreat.Ser
namespace Go.Proofs.YtecmigildpkigaaGreat.Ser
open Go Go.SL Go.RowKit Go.SegP
set_option linter.unusedVariables false
set_option linter.unusedSimpArgs false
def kL (x : Int) : SK := ⟨svcL.getD (x % 4).toNat .empty, ⟨#[]⟩, 1 + x / 4 % 2, 0, 0⟩
theorem kL_ok (x : Int) : GK (kL x) := by
  have h1 := svc_ok x
  have h2 : 1 + x / 4 % 2 ≤ 2 ∧ 1 ≤ 1 + x / 4 % 2 := by omega
  exact ⟨name_len h1, by show (⟨#[]⟩ : ByteArray).size ≤ maxLen; decide, by show _ ≤ (0 : Int) ∧ (0 : Int) ≤ _; decide, by show _ ≤ (0 : Int) ∧ (0 : Int) ≤ _; decide, ⟨h2.2, by show 1 + x / 4 % 2 ≤ 3; omega⟩, h1, .inl rfl, ⟨fun h => absurd h (by show ¬ (1 + x / 4 % 2 = 3); omega), fun _ => rfl⟩⟩
theorem kL_met (x : Int) : (kL x).met ≠ 3 := by show ¬ (1 + x / 4 % 2 = 3); omega
theorem kt_take {K : KT} {n : Nat} (h : KtOk K n) (i : Nat) : KtOk (K.take i) n := ⟨by rw [List.length_take]; have := h.len; omega, fun q hq => h.sp q (List.mem_of_mem_take hq), fun q hq => h.bd q (List.mem_of_mem_take hq)⟩
theorem kt_drop {K : KT} {n : Nat} (h : KtOk K n) (i : Nat) : KtOk (K.drop i) n := ⟨by rw [List.length_drop]; have := h.len; omega, fun q hq => h.sp q (List.mem_of_mem_drop hq), fun q hq => h.bd q (List.mem_of_mem_drop hq)⟩
theorem sum_sub {k : SK} {K : KT} (h : KtOk K 3) (hm : k.met ≠ 3) (i : Nat) : sumR k 0 (valsV k (K.take i)) k 0 (valsV k (K.drop i)) = ⟨k, 0, valsV k K, 0⟩ := by
  rw [sumR_go (kt_take h i) (kt_drop h i) hm, List.take_append_drop]
theorem valK_300 {K : KT} (h : KtOk K 3) (k : SK) (hm : k.met ≠ 3) (s : Int) : 0 ≤ valT k K s ∧ valT k K s ≤ 1000 := by
  have h1 := durT_le k s K h.sp
  have h2 := h.len
  unfold valT
  rw [if_neg hm]
  split <;> omega
theorem pts_ok {k : SK} {K : KT} (h : KtOk K 3) (hm : k.met ≠ 3) : PtsB (valsV k K) := ⟨by rw [valsV_len]; omega, fun x hx => by
  unfold valsV at hx
  obtain ⟨s, _, rfl⟩ := List.mem_map.1 hx
  have := valK_300 h k hm s; omega⟩
theorem joinR_l {k : SK} {V : List Int} : joinR k 0 V k 0 [] = ⟨k, 0, V, 0⟩ := by
  unfold joinR
  have h1 : oneR k 0 V k 0 [] = (⟨k, 0, V, 0⟩, true) := by unfold oneR; exact if_pos rfl
  rw [if_neg (fun h => h (sameK_refl k)), h1, if_pos rfl]
theorem joinR_r {k : SK} {V : List Int} (hV : V.length ≠ 0) : joinR k 0 [] k 0 V = ⟨k, 0, V, 0⟩ := by
  unfold joinR
  have h1 : oneR k 0 [] k 0 V = (⟨k, 0, V, 0⟩, true) := by unfold oneR; rw [if_neg hV]; exact if_pos rfl
  rw [if_neg (fun h => h (sameK_refl k)), h1, if_pos rfl]
theorem win_join {k : SK} {V : List Int} (hV : V.length = 64) {m : Nat} (hm : m ≤ 64) : joinR k (winF 0 V 0 m) (winL 0 V 0 m) k (winF 0 V m 64) (winL 0 V m 64) = ⟨k, 0, V, 0⟩ := by
  have hz : winF 0 V 0 m = 0 := by unfold winF; split <;> omega
  rw [hz]
  by_cases h0 : m = 0
  · subst h0
    have e1 : winL 0 V 0 (0 : Nat) = [] := by unfold winL; rw [if_pos (by omega)]
    have e2 : winF 0 V (0 : Nat) 64 = 0 := by unfold winF; rw [hV]; rfl
    have e3 : winL 0 V (0 : Nat) 64 = V := by
      unfold winL
      rw [if_neg (by omega), hV]
      show ((V.take 64).drop 0) = V
      rw [List.drop_zero, List.take_of_length_le (by omega)]
    rw [e1, e2, e3]
    exact joinR_r (by omega)
  · have e1 : winL 0 V 0 m = V.take m := by
      unfold winL
      rw [if_neg (by omega), hV, show (min (0 + ((64 : Nat) : Int)) (m : Int) - 0).toNat = m by omega]
      rfl
    rw [e1]
    by_cases h1 : m = 64
    · subst h1
      have e2 : winF 0 V (64 : Nat) 64 = 0 := by unfold winF; rw [hV]; rfl
      have e3 : winL 0 V (64 : Nat) 64 = [] := by unfold winL; rw [if_pos (by omega)]
      rw [e2, e3, List.take_of_length_le (by omega)]
      exact joinR_l
    · have e2 : winF 0 V m 64 = 0 + m := by unfold winF; rw [if_neg (by omega)]; omega
      have e3 : winL 0 V m 64 = V.drop m := by
        unfold winL
        rw [if_neg (by omega), hV, show (min (0 + ((64 : Nat) : Int)) 64 - 0).toNat = 64 by omega, show (max 0 (m : Int) - 0).toNat = m by omega, List.take_of_length_le (by omega)]
      rw [e2, e3]
      exact join_split1 (by omega) (by omega) (by omega)
theorem shift_ok {k : SK} {V : List Int} (hV : V.length = 64) {y : Int} (hy : 0 ≤ y ∧ y ≤ 255) : shiftR k 0 V y = ⟨k, y, V, 0⟩ := by
  unfold shiftR
  rw [if_neg (by omega), Int.zero_add]
theorem chk_go {x : Int} {K : KT} (h : KtOk K 3) {y : Int} (hy : 0 ≤ y ∧ y ≤ 255) : chkE (kL x) y (valsV (kL x) K) = 0 :=
  (chk_ok (kL_ok x) (by rw [valsV_len]; omega) (valsV_bd h (by decide))).2 (by rw [valsV_len]; omega)
theorem of_law {σ : World} {F : List Res} {a va : Option Addr} {c vn vc m : Nat} {T : List TrV} {V : List Int} (lab : Nat) (x fr : Int) (hm : m = T.length) (hK : KtOk (T.map keyT) 3) (hV : valsV (kL x) (T.map keyT) = V) (hT : Sl σ F encTr 3 (.slice a m c) T) (hSp : ∀ t ∈ T, Sl σ F encSp 14 (.slice t.a t.sp.length t.c) t.sp) :
    FnT Tryz.prog σ F 7 [.slice a m c, sr (kL x) fr (.slice va vn vc), .agg #[.int .i64 0, .int .i64 64]] [] (fun u ρ => ∃ (a' : Option Addr) (c' : Nat), u = .tuple #[sr (kL x) 0 (.slice a' V.length c'), .int .i64 0] ∧ ρ = [(lab, slW 3 SL.encZ 1 (.slice a' V.length c') V)]) := by
  subst hm
  have hG := kL_ok x
  have h := of_any lab (kL x) fr 0 64 (va := va) (vn := vn) (vc := vc) hT hSp (hK.tr (by decide)) hG.svc hG.op hG.q1 hG.q2 (by decide) (by decide)
  rw [ofR_go hG, hV] at h
  exact h
theorem eq_self {σ : World} {F : List Res} {a b : Option Addr} {c d : Nat} {V : List Int} (k : SK) (fr : Int) (h : Sl σ F encZ 1 (.slice a V.length c) V) (g : Sl σ F encZ 1 (.slice b V.length d) V) :
    FnT Tryz.prog σ F 9 [sr k fr (.slice a V.length c), sr k fr (.slice b V.length d)] [] (fun u ρ => u = .bool true ∧ ρ = []) :=
  fn_imp (equal_any k k fr fr h g) fun u ρ hu => ⟨by rw [hu.1, decide_eq_true ⟨sameK_refl k, rfl, rfl⟩], hu.2⟩
end Go.Proofs.YtecmigildpkigaaGreat.Ser
namespace Go.Proofs.YtecmigildpkigaaGreat
open Go Go.SL Go.RowKit Go.SegP
open Ser (StoryV StOk TrV PSp keyT InP tracesR shortP short_any traces_any traces_ok valsV valsV_len kL kL_ok kL_met KtOk kt_take kt_drop sum_sub valsV_bd pts_ok win_join winL winF shift_ok chk_go of_law eq_self sum_any window_any join_any shift_any sr stV encTr encSp svcL svc_get poolT)
set_option linter.unusedVariables false
set_option linter.unusedSimpArgs false
theorem tA27vj : aggB Tryz.prog 27 7 = true := by kernel_rfl
theorem tA38vj : aggB Tryz.prog 38 7 = true := by kernel_rfl
theorem tA40vj : aggB Tryz.prog 40 2 = true := by kernel_rfl
theorem tB38vj : placesB Tryz.prog 38 = some ([(0, 1), (1, 1), (2, 1), (3, 2), (5, 1), (6, 1)], [Value.string .empty, Value.string .empty, Value.int .i64 0, Value.int .i64 0, Value.int .i64 0, Value.int .i64 0, Value.slice none 0 0]) := by kernel_rfl
theorem tB40vj : placesB Tryz.prog 40 = some ([(0, 1), (1, 1)], [Value.int .i64 0, Value.int .i64 0]) := by kernel_rfl
theorem tF52_0vj : fieldB Tryz.prog 52 0 0 = true := by kernel_rfl
theorem tF52_1vj : fieldB Tryz.prog 52 1 1 = true := by kernel_rfl
theorem tF52_2vj : fieldB Tryz.prog 52 2 2 = true := by kernel_rfl
theorem tL33_4vj : zerosB Tryz.prog 33 9 1 4 = some [Value.string .empty, Value.string .empty, Value.string .empty, Value.string .empty] := by kernel_rfl
theorem tMixvj : Tryz.prog.follows .mixedOrders = true := by kernel_rfl
theorem tN38vj : (Tryz.prog.info? 38).bind (·.zero) = some (Value.agg #[Value.string .empty, Value.string .empty, Value.int .i64 0, Value.int .i64 0, Value.int .i64 0, Value.int .i64 0, Value.slice none 0 0]) := by kernel_rfl
theorem tN40vj : (Tryz.prog.info? 40).bind (·.zero) = some (Value.agg #[Value.int .i64 0, Value.int .i64 0]) := by kernel_rfl
theorem tO3vj : oneB Tryz.prog 3 = true := by kernel_rfl
theorem tO5vj : oneB Tryz.prog 5 = true := by kernel_rfl
theorem tO9vj : oneB Tryz.prog 9 = true := by kernel_rfl
theorem tR28vj : arrB Tryz.prog 28 4 1 = true := by kernel_rfl
theorem tS31vj : sliceB Tryz.prog 31 61 3 = true := by kernel_rfl
theorem tS33vj : sliceB Tryz.prog 33 9 1 = true := by kernel_rfl
theorem tS48vj : sliceB Tryz.prog 48 52 3 = true := by kernel_rfl
theorem tZ38vj : (Tryz.prog.info? 38).map (·.size) = some 7 := by kernel_rfl
theorem tZ40vj : (Tryz.prog.info? 40).map (·.size) = some 2 := by kernel_rfl
theorem quo8 {x : Int} (h : 0 ≤ x ∧ x ≤ 255) : IntKind.u8.wrap (x.tdiv 4) = x / 4 := by
  rw [Int.tdiv_eq_ediv_of_nonneg h.1]
  simp [IntKind.wrap, IntKind.bits, IntKind.signed]; omega
theorem winL_len (fr : Int) (l : List Int) (p q : Int) : (winL fr l p q).length ≤ l.length := by
  unfold winL
  split
  · simp
  · rw [List.length_drop, List.length_take]; omega
theorem winF_bd {V : List Int} (hV : V.length = 64) {p q : Int} (hp : 0 ≤ p ∧ p ≤ 64) : 0 ≤ winF 0 V p q ∧ winF 0 V p q ≤ 64 := by unfold winF; split <;> omega
theorem cuts_mem {n : Nat} : ∀ {s : Nat} {l : List Int}, Cuts n s l → ∀ c ∈ l, 0 ≤ c ∧ c ≤ n
  | s, [], _, c, hc => by simp at hc
  | s, d :: l, h, c, hc => by
    have h1 := h.1
    have h2 := cuts_len h.2
    rcases List.mem_cons.1 hc with rfl | hc
    · omega
    · exact cuts_mem h.2 c hc
theorem chg_two {V : List Int} (hV : V.length = 64) (pen y : Int) : (chgR y V pen).length = (chgR 0 V pen).length ∧ (chgR 0 V pen).length ≤ 64 ∧ ∀ j, j < (chgR 0 V pen).length → ∃ p q r, (0 ≤ p ∧ p ≤ 64) ∧ (chgR 0 V pen)[j]? = some (p, q, r) ∧ (chgR y V pen)[j]? = some (p + y, q, r) := by
  have hbc := (bst_cuts (segC V) pen false V.length (by omega)).1
  unfold chgR
  generalize (bstN (segC V) pen false V.length).2 = cuts at hbc ⊢
  have hcl := cuts_len hbc
  have hll := lev_len V cuts
  refine ⟨by rw [chg_len, chg_len], by rw [chg_len]; omega, fun j hj => ?_⟩
  rw [chg_len] at hj
  obtain ⟨x, hx⟩ := getE (l := cuts) (i := j) hj
  obtain ⟨q, hq⟩ := getE (l := levL V cuts) (i := j) (by omega)
  obtain ⟨r, hr⟩ := getE (l := levL V cuts) (i := j + 1) (by omega)
  have hxb := cuts_mem hbc x (List.mem_of_getElem? hx)
  exact ⟨0 + x, q, r, by omega, chg_get hx hq hr, by rw [chg_get hx hq hr, show y + x = 0 + x + y by omega]⟩
set_option maxHeartbeats 4000000 in
set_option maxRecDepth 100000 in
theorem lawCommute_any {σ : World} {F : List Res} {S : StoryV} (x0 x1 x2 x3 : Int) (hS : StOk σ F S) (h0 : 0 ≤ x0 ∧ x0 ≤ 255) (h1 : 0 ≤ x1 ∧ x1 ≤ 255) (h2 : 0 ≤ x2 ∧ x2 ≤ 255) (h3 : 0 ≤ x3 ∧ x3 ≤ 255) :
    FnT Tryz.prog σ F 3 [stV S, .agg #[.int .u8 x0, .int .u8 x1, .int .u8 x2, .int .u8 x3]] [] (fun u ρ => u = .bool true ∧ ρ = []) := by
  refine fn_of 222 Tryz.func3 rfl Tryz.ntmps3 rfl ?_
  refine w_seq (w_region (wl_op [] rfl rfl rfl rfl (op_box (T := 27) (l := 2) rfl) ?_))
  rintro _ _ ⟨b2, rfl, rfl⟩
  refine wl_op [] rfl rfl rfl rfl (op_box (T := 28) (l := 3) rfl) ?_
  rintro _ _ ⟨b3, rfl, rfl⟩
  refine za rfl (wl_nil (st_tn (w_seq (w_seq (w_region (zd rfl (op_fn Tryz.func4 rfl rfl rfl Known45) (zd rfl (op_not_t rfl) (zm rfl (wl_wanted_det rfl rfl rfl rfl rfl rfl rfl (op_loadA rfl tA27vj (Ent.lab (l := 2) rfl (says_cel 0)) (Nat.le_of_ble_eq_true rfl)) (wl_wanted_det rfl rfl rfl rfl rfl rfl rfl (op_fn Tryz.func5 rfl rfl rfl (short_any (hS.app _))) (wl_wanted_det rfl rfl rfl rfl rfl rfl rfl (op_not_d rfl) (zd rfl (op_pick_f rfl rfl) (wl_nil ?_)))))))))))))
  refine st_tn (w_cond_d rfl (fun hc35 => ?_) (fun hc35 => ?_))
  · -- c35.t
    refine w_seq (w_region (zd rfl (op_fn Tryz.func4 rfl rfl rfl Known45) (za rfl (wl_nil (st_tn (w_ret (st_tr (st_ret (vs := [_]) [] Tryz.results3 ⟨rfl, trivial⟩ rfl ?_))))))))
    refine ⟨_, rfl, ?_⟩
    exact ⟨rfl, rfl⟩
  · -- c35.f
    refine w_skip (st_tn (w_seq ?_))
    have hsh : shortP S := Classical.byContradiction fun hn => by simp_all
    have hK := traces_ok hS.b hsh
    refine w_region (zd rfl (op_loadA rfl tA27vj (Ent.lab (l := 2) rfl (says_cel 0)) (Nat.le_of_ble_eq_true rfl)) (wl_op [] rfl rfl rfl rfl (op_fn Tryz.func6 rfl rfl rfl (traces_any 38 605 (hS.app _) hsh)) ?_))
    rintro _ _ ⟨T, Pp, a38, c38, hTK, hPp, rfl, rfl⟩
    refine za rfl (wl_nil (st_tn (w_seq ?_)))
    rw [← hTK] at hK
    have hT3 : T.length ≤ 3 := by have := hK.len; rwa [List.length_map] at this
    have hTl : T.length ≤ maxLen := by unfold maxLen; omega
    have hsp : ∀ t ∈ T, t.sp.length ≤ maxLen := fun t ht => by have := (hK.tr (by decide)).sp t ht; unfold maxLen; omega
    obtain ⟨i, hi⟩ : ∃ i : Nat, (i : Int) = x0 % ((T.length : Int) + 1) := ⟨(x0 % ((T.length : Int) + 1)).toNat, by have := Int.emod_nonneg x0 (show ((T.length : Int) + 1) ≠ 0 by omega); omega⟩
    have hil : i ≤ T.length := by have := Int.emod_lt_of_pos x0 (show 0 < ((T.length : Int) + 1) by omega); omega
    obtain ⟨m, hm⟩ : ∃ m : Nat, (m : Int) = x2 % 65 := ⟨(x2 % 65).toNat, by omega⟩
    have hKA := kt_take hK i
    have hKB := kt_drop hK i
    have hsum := sum_sub hK (kL_met x1) i
    have hbA := valsV_bd hKA (k := kL x1) (by decide)
    have hbB := valsV_bd hKB (k := kL x1) (by decide)
    have hpt := pts_ok hK (kL_met x1)
    have hck := fun y hy => chk_go (x := x1) hK (y := y) hy
    have hlV := valsV_len (kL x1) (T.map keyT)
    have hlA := valsV_len (kL x1) ((T.map keyT).take i)
    have hlB := valsV_len (kL x1) ((T.map keyT).drop i)
    obtain ⟨V, hV⟩ : ∃ V, valsV (kL x1) (T.map keyT) = V := ⟨_, rfl⟩
    obtain ⟨VA, hVA⟩ : ∃ V, valsV (kL x1) ((T.map keyT).take i) = V := ⟨_, rfl⟩
    obtain ⟨VB, hVB⟩ : ∃ V, valsV (kL x1) ((T.map keyT).drop i) = V := ⟨_, rfl⟩
    rw [hV] at hpt hck hlV hsum
    rw [hVA] at hbA hlA hsum
    rw [hVB] at hbB hlB hsum
    have hwj := win_join (k := kL x1) hlV (m := m) (by omega)
    have hsf := shift_ok (k := kL x1) hlV h3
    have hlV2 : V.length ≤ maxLen := by rw [hlV]; decide
    have hlA2 : VA.length ≤ maxLen := by rw [hlA]; decide
    have hlB2 : VB.length ≤ maxLen := by rw [hlB]; decide
    have hch := chg_two hlV (x2 % 8) x3
    have hmb : (m : Int) ≤ 64 := by omega
    have hcl0 : (chgR 0 V (x2 % 8)).length ≤ maxLen := by have := hch.2.1; unfold maxLen; omega
    have hcl1 : (chgR x3 V (x2 % 8)).length ≤ maxLen := by rw [hch.1]; exact hcl0
    refine w_region (zd rfl (op_idxArr (i := 0) rfl rfl tR28vj (Nat.le_of_ble_eq_true rfl)) (zd rfl (op_load1 rfl tO5vj (Ent.lab (l := 3) rfl (says_cel 0))) (zd rfl (op_convI64 rfl (by rw [Tryz.underlying5]; rfl) Tryz.underlying3 (by omega)) ?_)))
    refine zm rfl (zd rfl (op_lenT rfl tS31vj (Sl.ent (Sl.lab 38 rfl hTl))) (zd rfl (op_add' rfl rfl (by omega)) ?_))
    refine zd rfl (op_val (v' := .int .i64 ((i : Nat) : Int)) (by rw [hi]) (op_remN rfl rfl (by omega) (by omega))) ?_
    refine za rfl (wl_nil (st_tn (w_seq ?_)))
    refine w_drawW (fun β => [⟨46, [], [], [], fun w => DetW _ _, false, [], []⟩, ⟨47, [], [], [], noW (_), false, [], []⟩, ⟨48, [1], [], [], noW (_), false, [], []⟩, ⟨49, [2], [], [], noW (_), false, [], []⟩, ⟨50, [0, 3], [], [], noW (_), false, [], []⟩, ⟨51, [4, 0], [], [], noW (_), false, [], []⟩, ⟨52, [], [], [], noW (_), false, [], []⟩, ⟨53, [6], [], [], noW (_), false, [], []⟩, ⟨54, [7], [], [], noW (_), false, [], []⟩, ⟨55, [8], [], [], noW (_), false, [], []⟩, ⟨56, [9], [], [], noW (_), false, [], []⟩, ⟨57, [10], [], [], noW (_), false, [], []⟩, ⟨58, [5, 11], [], [], noW (_), false, [], []⟩, ⟨7, [], [], [], fun w => DetW _ _, false, [], []⟩]) [] [3] [⟨46, [], [], false, [], []⟩, ⟨47, [], [], false, [], []⟩, ⟨48, [1], [], false, [], []⟩, ⟨49, [2], [], false, [], []⟩, ⟨50, [0, 3], [], false, [], []⟩, ⟨51, [4, 0], [], false, [], []⟩, ⟨52, [], [], false, [], []⟩, ⟨53, [6], [], false, [], []⟩, ⟨54, [7], [], false, [], []⟩, ⟨55, [8], [], false, [], []⟩, ⟨56, [9], [], false, [], []⟩, ⟨57, [10], [], false, [], []⟩, ⟨58, [5, 11], [], false, [], []⟩, ⟨7, [], [], false, [], []⟩] [[], [], [], [], [0], [0], [], [], [], [], [], [], [0], []] [[], [], [], [], [], [], [], [], [], [], [], [], [], []] tMixvj (fun _ => by rfl) (fun _ => by rfl) (by kernel_rfl) (by kernel_rfl) (by rfl) (by rfl)
        (fun β => ⟨.px rfl (by intro X; refine OpT.mono (op_buildSlice (enc := SL.encS) (l := svcL) (lab := 46) tL33_4vj rfl rfl (fun _ => rfl) rfl) ?_; rintro _ _ ⟨a46, c46, rfl, rfl⟩; obtain ⟨w, rfl, rfl⟩ : ∃ w : Wt, w.a = a46 ∧ w.c = c46 := ⟨{ a := a46, c := c46 }, rfl, rfl⟩; exact ⟨w, rfl, rfl⟩),
        ⟨.p rfl (by intro X; exact op_idxArr (i := 1) rfl rfl tR28vj (Nat.le_of_ble_eq_true rfl)),
        ⟨.p rfl (by intro X; rintro _ _ ⟨rfl, rfl⟩; exact op_load1 rfl tO5vj (Ent.lab (l := 3) rfl (says_cel 1))),
        ⟨.p rfl (by intro X; rintro _ _ ⟨rfl, rfl⟩; exact op_remN rfl rfl (by omega) (by omega)),
        ⟨.p rfl (by intro X; rintro _ _ ⟨rfl, rfl⟩ _ _ ⟨rfl, rfl⟩; exact op_idxK rfl rfl tS33vj (Sl.lab 46 rfl (by simp [maxLen, svcL])) (by omega) (by simp [svcL]; omega)),
        ⟨.p rfl (by intro X; rintro _ _ ⟨rfl, rfl⟩ _ _ ⟨rfl, rfl⟩; exact op_ldx rfl tO9vj (Sl.lab 46 rfl (by simp [maxLen, svcL])) (svc_get _) rfl),
        ⟨.p rfl (by intro X; exact op_idxArr (i := 1) rfl rfl tR28vj (Nat.le_of_ble_eq_true rfl)),
        ⟨.p rfl (by intro X; rintro _ _ ⟨rfl, rfl⟩; exact op_load1 rfl tO5vj (Ent.lab (l := 3) rfl (says_cel 1))),
        ⟨.p rfl (by intro X; rintro _ _ ⟨rfl, rfl⟩; exact op_val (v' := .int .u8 (x1 / 4)) (by rw [quo8 h1]) (op_quo rfl rfl (by decide))),
        ⟨.p rfl (by intro X; rintro _ _ ⟨rfl, rfl⟩; exact op_remN rfl rfl (by omega) (by omega)),
        ⟨.p rfl (by intro X; rintro _ _ ⟨rfl, rfl⟩; exact op_convI64 rfl (by rw [Tryz.underlying5]; rfl) Tryz.underlying3 (by omega)),
        ⟨.p rfl (by intro X; rintro _ _ ⟨rfl, rfl⟩; exact op_add' rfl rfl (by omega)),
        ⟨.p rfl (by intro X; rintro _ _ ⟨rfl, rfl⟩ _ _ ⟨rfl, rfl⟩; exact op_build tB38vj rfl rfl),
        ⟨.px rfl (by intro X; refine OpT.mono (op_alloc (l := 7) tN38vj) ?_; rintro _ _ ⟨b7, rfl, rfl⟩; obtain ⟨w, rfl⟩ : ∃ w : Wt, w.b = b7 := ⟨{ b := b7 }, rfl⟩; exact ⟨w, rfl, rfl⟩),
        trivial⟩⟩⟩⟩⟩⟩⟩⟩⟩⟩⟩⟩⟩⟩)
        (fun β β' => ⟨fun _ => by rfl, ⟨fun _ => by rfl, ⟨fun _ => by rfl, ⟨fun _ => by rfl, ⟨fun h => by first | rfl | (simp only [h 0 (by decide)]), ⟨fun h => by first | rfl | (simp only [h 0 (by decide)]), ⟨fun _ => by rfl, ⟨fun _ => by rfl, ⟨fun _ => by rfl, ⟨fun _ => by rfl, ⟨fun _ => by rfl, ⟨fun _ => by rfl, ⟨fun h => by first | rfl | (simp only [h 0 (by decide)]), ⟨fun _ => by rfl, trivial⟩⟩⟩⟩⟩⟩⟩⟩⟩⟩⟩⟩⟩⟩) ?_
    intro β
    rintro _ _ ⟨rfl, rfl⟩ _ _ ⟨rfl, rfl⟩ _ _ ⟨rfl, rfl⟩ _ _ ⟨rfl, rfl⟩ _ _ ⟨rfl, rfl⟩ _ _ ⟨rfl, rfl⟩ _ _ ⟨rfl, rfl⟩ _ _ ⟨rfl, rfl⟩ _ _ ⟨rfl, rfl⟩ _ _ ⟨rfl, rfl⟩ _ _ ⟨rfl, rfl⟩ _ _ ⟨rfl, rfl⟩ _ _ ⟨rfl, rfl⟩ _ _ ⟨rfl, rfl⟩
    generalize (β 0).a = a46
    generalize (β 0).c = c46
    generalize (β 13).b = b7
    refine wl_norm (e' := [(3, _), (5, _), (6, _), (7, _), (58, _)]) (.cons rfl (.cons rfl (.cons rfl (.cons rfl (.cons rfl (.nil _)))))) (by dsimp only [cond_false, cond_true, List.nil_append, List.cons_append]) ?_
    refine wl_op0 [7] rfl rfl rfl (op_store rfl rfl tZ38vj (by rfl) (by rfl) (by exact Nat.le_of_ble_eq_true rfl)) ?_
    rintro _ _ ⟨rfl, rfl⟩
    refine wl_nil (st_tn (w_seq (w_wk 7 (cel b7 (sr (kL x1) 0 (.slice none 0 0)).cells.toList 38) rfl (fun _ h => h) ?_)))
    refine w_region (zd rfl (op_build tB40vj rfl rfl) (wl_op [] rfl rfl rfl rfl (op_alloc (l := 8) tN40vj) ?_))
    rintro _ _ ⟨b8, rfl, rfl⟩
    refine wl_op0 [8] rfl rfl rfl (op_store rfl rfl tZ40vj (by rfl) (by rfl) (by exact Nat.le_of_ble_eq_true rfl)) ?_
    rintro _ _ ⟨rfl, rfl⟩
    refine wl_nil (st_tn (w_seq (w_wk 8 (cel b8 [.int .i64 0, .int .i64 64] 40) rfl (fun _ h => h) ?_)))
    refine w_region (zm rfl (zd rfl (op_loadA rfl tA38vj (Ent.lab (l := 7) rfl (says_cel 0)) (Nat.le_of_ble_eq_true rfl)) (zd rfl (op_loadA rfl tA40vj (Ent.lab (l := 8) rfl (says_cel 0)) (Nat.le_of_ble_eq_true rfl)) (wl_op [] rfl rfl rfl rfl (op_fn Tryz.func7 rfl rfl rfl (of_law (V := V) 64 x1 0 rfl hK hV (Sl.lab 38 rfl hTl) (fun t ht => Sl.pool (E := 70) 605 rfl (hPp t ht) (hsp t ht)))) ?_))))
    rintro _ _ ⟨a64, c64, rfl, rfl⟩
    refine zm rfl (zd rfl (op_extract rfl rfl) (zd rfl (op_extract rfl rfl) (wl_op [] rfl rfl rfl rfl (op_alloc (l := 9) tN38vj) ?_)))
    rintro _ _ ⟨b9, rfl, rfl⟩
    refine wl_op0 [9] rfl rfl rfl (op_store rfl rfl tZ38vj (by rfl) (by rfl) (by exact Nat.le_of_ble_eq_true rfl)) ?_
    rintro _ _ ⟨rfl, rfl⟩
    refine za rfl (wl_nil (st_tn (w_seq (w_wk 9 (cel b9 (sr (kL x1) 0 (.slice a64 V.length c64)).cells.toList 38) rfl (fun _ h => h) ?_))))
    refine w_drawW (fun β => [⟨68, [], [], [], noW (_), false, [], []⟩, ⟨69, [], [], [], noW (_), false, [], []⟩, ⟨70, [0, 1], [], [], noW (_), false, [], []⟩, ⟨71, [], [], [], noW (_), false, [], []⟩, ⟨72, [], [], [], noW (_), false, [], []⟩, ⟨73, [2, 3, 4], [], [], fun w => DetW _ _, false, [], []⟩, ⟨67, [5], [], [], noW (_), false, [], []⟩, ⟨74, [6], [], [], noW (_), false, [], []⟩, ⟨75, [6], [], [], noW (_), false, [], []⟩, ⟨11, [], [], [], fun w => DetW _ _, true, [], []⟩, ⟨232, [7], [9], [], noW (_), false, [], []⟩]) [] [5, 6, 7, 8] [⟨68, [], [], false, [], []⟩, ⟨69, [], [], false, [], []⟩, ⟨70, [0, 1], [], false, [], []⟩, ⟨71, [], [], false, [], []⟩, ⟨72, [], [], false, [], []⟩, ⟨73, [2, 3, 4], [], false, [], []⟩, ⟨67, [5], [], false, [], []⟩, ⟨74, [6], [], false, [], []⟩, ⟨75, [6], [], false, [], []⟩, ⟨11, [], [], true, [], []⟩, ⟨232, [7], [9], false, [], []⟩] [[], [], [], [], [], [], [5], [5], [5], [], [5, 9]] [[], [], [], [], [], [], [], [], [], [], []] tMixvj (fun _ => by rfl) (fun _ => by rfl) (by kernel_rfl) (by kernel_rfl) (by rfl) (by rfl)
        (fun β => ⟨.p rfl (by intro X; exact op_move rfl),
        ⟨.p rfl (by intro X; exact op_move rfl),
        ⟨.p rfl (by intro X; rintro _ _ ⟨rfl, rfl⟩ _ _ ⟨rfl, rfl⟩; exact op_sliceR rfl rfl tS31vj (Sl.lab 38 rfl hTl) (by omega)),
        ⟨.p rfl (by intro X; exact op_loadA rfl tA38vj (Ent.lab (l := 7) rfl (says_cel 0)) (Nat.le_of_ble_eq_true rfl)),
        ⟨.p rfl (by intro X; exact op_loadA rfl tA40vj (Ent.lab (l := 8) rfl (says_cel 0)) (Nat.le_of_ble_eq_true rfl)),
        ⟨.px rfl (by intro X; rintro _ _ ⟨rfl, rfl⟩ _ _ ⟨rfl, rfl⟩ _ _ ⟨rfl, rfl⟩; refine OpT.mono (op_fn Tryz.func7 rfl rfl rfl (of_law (V := VA) (T := (T.take i).drop 0) 73 x1 0 (by rw [List.drop_zero, List.length_take]; omega) (by rw [List.drop_zero, List.map_take]; exact hKA) (by rw [List.drop_zero, List.map_take]; exact hVA) ((Sl.lab 38 rfl hTl).sub (Nat.zero_le _) hil) (fun t ht => Sl.pool (E := 70) 605 rfl (hPp t (List.mem_of_mem_take (List.mem_of_mem_drop ht))) (hsp t (List.mem_of_mem_take (List.mem_of_mem_drop ht)))))) ?_; rintro _ _ ⟨a73, c73, rfl, rfl⟩; obtain ⟨w, rfl, rfl⟩ : ∃ w : Wt, w.a = a73 ∧ w.c = c73 := ⟨{ a := a73, c := c73 }, rfl, rfl⟩; exact ⟨w, rfl, rfl⟩),
        ⟨.p rfl (by intro X; rintro _ _ ⟨rfl, rfl⟩; exact op_move rfl),
        ⟨.p rfl (by intro X; rintro _ _ ⟨rfl, rfl⟩; exact op_extract rfl rfl),
        ⟨.p rfl (by intro X; rintro _ _ ⟨rfl, rfl⟩; exact op_extract rfl rfl),
        ⟨.px rfl (by intro X; refine OpT.mono (op_alloc (l := 11) tN38vj) ?_; rintro _ _ ⟨b11, rfl, rfl⟩; obtain ⟨w, rfl⟩ : ∃ w : Wt, w.b = b11 := ⟨{ b := b11 }, rfl⟩; exact ⟨w, rfl, rfl⟩),
        ⟨.p rfl (by intro X; rintro _ _ ⟨rfl, rfl⟩ _ _ ⟨rfl, rfl⟩; show OpT _ _ _ _ _ _ [(_, _)] _; exact op_store rfl rfl tZ38vj (by rfl) (by rfl) (by exact Nat.le_of_ble_eq_true rfl)) (hu := by exact .inr fun _ _ h => h.1),
        trivial⟩⟩⟩⟩⟩⟩⟩⟩⟩⟩⟩)
        (fun β β' => ⟨fun _ => by rfl, ⟨fun _ => by rfl, ⟨fun _ => by rfl, ⟨fun _ => by rfl, ⟨fun _ => by rfl, ⟨fun _ => by rfl, ⟨fun h => by first | rfl | (simp only [h 5 (by decide)]), ⟨fun h => by first | rfl | (simp only [h 5 (by decide)]), ⟨fun h => by first | rfl | (simp only [h 5 (by decide)]), ⟨fun _ => by rfl, ⟨fun h => by first | rfl | (simp only [h 5 (by decide), h 9 (by decide)]), trivial⟩⟩⟩⟩⟩⟩⟩⟩⟩⟩⟩) ?_
    intro β
    rintro _ _ ⟨rfl, rfl⟩ _ _ ⟨rfl, rfl⟩ _ _ ⟨rfl, rfl⟩ _ _ ⟨rfl, rfl⟩ _ _ ⟨rfl, rfl⟩ _ _ ⟨rfl, rfl⟩ _ _ ⟨rfl, rfl⟩ _ _ ⟨rfl, rfl⟩ _ _ ⟨rfl, rfl⟩ _ _ ⟨rfl, rfl⟩ _ _ ⟨rfl, rfl⟩
    generalize (β 5).a = a73
    generalize (β 5).c = c73
    generalize (β 9).b = b11
    refine wl_norm (e' := [(3, _), (5, _), (6, _), (7, _), (8, _), (9, _), (10, _), (11, _), (75, _)]) (.cons rfl (.cons rfl (.cons rfl (.cons rfl (.cons rfl (.cons rfl (.cons rfl (.cons rfl (.cons rfl (.nil _)))))))))) (by dsimp only [cond_false, cond_true, List.nil_append, List.cons_append]) ?_
    refine za rfl (wl_nil (st_tn (w_seq (w_wk 11 (cel b11 (sr (kL x1) 0 (.slice a73 VA.length c73)).cells.toList 38) rfl (fun _ h => h) ?_))))
    refine w_drawW (fun β => [⟨77, [], [], [], noW (_), false, [], []⟩, ⟨78, [], [], [], noW (_), false, [], []⟩, ⟨79, [0, 1], [], [], noW (_), false, [], []⟩, ⟨80, [], [], [], noW (_), false, [], []⟩, ⟨81, [], [], [], noW (_), false, [], []⟩, ⟨82, [2, 3, 4], [], [], fun w => DetW _ _, false, [], []⟩, ⟨76, [5], [], [], noW (_), false, [], []⟩, ⟨83, [6], [], [], noW (_), false, [], []⟩, ⟨84, [6], [], [], noW (_), false, [], []⟩, ⟨13, [], [], [], fun w => DetW _ _, true, [], []⟩, ⟨232, [7], [9], [], noW (_), false, [], []⟩]) [] [5, 6, 7, 8] [⟨77, [], [], false, [], []⟩, ⟨78, [], [], false, [], []⟩, ⟨79, [0, 1], [], false, [], []⟩, ⟨80, [], [], false, [], []⟩, ⟨81, [], [], false, [], []⟩, ⟨82, [2, 3, 4], [], false, [], []⟩, ⟨76, [5], [], false, [], []⟩, ⟨83, [6], [], false, [], []⟩, ⟨84, [6], [], false, [], []⟩, ⟨13, [], [], true, [], []⟩, ⟨232, [7], [9], false, [], []⟩] [[], [], [], [], [], [], [5], [5], [5], [], [5, 9]] [[], [], [], [], [], [], [], [], [], [], []] tMixvj (fun _ => by rfl) (fun _ => by rfl) (by kernel_rfl) (by kernel_rfl) (by rfl) (by rfl)
        (fun β => ⟨.p rfl (by intro X; exact op_move rfl),
        ⟨.p rfl (by intro X; exact op_move rfl),
        ⟨.p rfl (by intro X; rintro _ _ ⟨rfl, rfl⟩ _ _ ⟨rfl, rfl⟩; exact op_sliceL rfl rfl tS31vj (Sl.lab 38 rfl hTl) (by omega)),
        ⟨.p rfl (by intro X; exact op_loadA rfl tA38vj (Ent.lab (l := 7) rfl (says_cel 0)) (Nat.le_of_ble_eq_true rfl)),
        ⟨.p rfl (by intro X; exact op_loadA rfl tA40vj (Ent.lab (l := 8) rfl (says_cel 0)) (Nat.le_of_ble_eq_true rfl)),
        ⟨.px rfl (by intro X; rintro _ _ ⟨rfl, rfl⟩ _ _ ⟨rfl, rfl⟩ _ _ ⟨rfl, rfl⟩; refine OpT.mono (op_fn Tryz.func7 rfl rfl rfl (of_law (V := VB) (T := (T.take T.length).drop i) 82 x1 0 (by rw [List.take_length, List.length_drop]) (by rw [List.take_length, List.map_drop]; exact hKB) (by rw [List.take_length, List.map_drop]; exact hVB) ((Sl.lab 38 rfl hTl).sub hil (Nat.le_refl _)) (fun t ht => Sl.pool (E := 70) 605 rfl (hPp t (List.mem_of_mem_take (List.mem_of_mem_drop ht))) (hsp t (List.mem_of_mem_take (List.mem_of_mem_drop ht)))))) ?_; rintro _ _ ⟨a82, c82, rfl, rfl⟩; obtain ⟨w, rfl, rfl⟩ : ∃ w : Wt, w.a = a82 ∧ w.c = c82 := ⟨{ a := a82, c := c82 }, rfl, rfl⟩; exact ⟨w, rfl, rfl⟩),
        ⟨.p rfl (by intro X; rintro _ _ ⟨rfl, rfl⟩; exact op_move rfl),
        ⟨.p rfl (by intro X; rintro _ _ ⟨rfl, rfl⟩; exact op_extract rfl rfl),
        ⟨.p rfl (by intro X; rintro _ _ ⟨rfl, rfl⟩; exact op_extract rfl rfl),
        ⟨.px rfl (by intro X; refine OpT.mono (op_alloc (l := 13) tN38vj) ?_; rintro _ _ ⟨b13, rfl, rfl⟩; obtain ⟨w, rfl⟩ : ∃ w : Wt, w.b = b13 := ⟨{ b := b13 }, rfl⟩; exact ⟨w, rfl, rfl⟩),
        ⟨.p rfl (by intro X; rintro _ _ ⟨rfl, rfl⟩ _ _ ⟨rfl, rfl⟩; show OpT _ _ _ _ _ _ [(_, _)] _; exact op_store rfl rfl tZ38vj (by rfl) (by rfl) (by exact Nat.le_of_ble_eq_true rfl)) (hu := by exact .inr fun _ _ h => h.1),
        trivial⟩⟩⟩⟩⟩⟩⟩⟩⟩⟩⟩)
        (fun β β' => ⟨fun _ => by rfl, ⟨fun _ => by rfl, ⟨fun _ => by rfl, ⟨fun _ => by rfl, ⟨fun _ => by rfl, ⟨fun _ => by rfl, ⟨fun h => by first | rfl | (simp only [h 5 (by decide)]), ⟨fun h => by first | rfl | (simp only [h 5 (by decide)]), ⟨fun h => by first | rfl | (simp only [h 5 (by decide)]), ⟨fun _ => by rfl, ⟨fun h => by first | rfl | (simp only [h 5 (by decide), h 9 (by decide)]), trivial⟩⟩⟩⟩⟩⟩⟩⟩⟩⟩⟩) ?_
    intro β
    rintro _ _ ⟨rfl, rfl⟩ _ _ ⟨rfl, rfl⟩ _ _ ⟨rfl, rfl⟩ _ _ ⟨rfl, rfl⟩ _ _ ⟨rfl, rfl⟩ _ _ ⟨rfl, rfl⟩ _ _ ⟨rfl, rfl⟩ _ _ ⟨rfl, rfl⟩ _ _ ⟨rfl, rfl⟩ _ _ ⟨rfl, rfl⟩ _ _ ⟨rfl, rfl⟩
    generalize (β 5).a = a82
    generalize (β 5).c = c82
    generalize (β 9).b = b13
    refine wl_norm (e' := [(3, _), (9, _), (10, _), (11, _), (12, _), (13, _), (84, _)]) (.cons rfl (.cons rfl (.cons rfl (.cons rfl (.cons rfl (.cons rfl (.cons rfl (.nil _)))))))) (by dsimp only [cond_false, cond_true, List.nil_append, List.cons_append]) ?_
    refine za rfl (wl_nil (st_tn (w_seq (w_wk 13 (cel b13 (sr (kL x1) 0 (.slice a82 VB.length c82)).cells.toList 38) rfl (fun _ h => h) ?_))))
    refine w_region (zd rfl (op_loadA rfl tA38vj (Ent.lab (l := 11) rfl (says_cel 0)) (Nat.le_of_ble_eq_true rfl)) (zd rfl (op_loadA rfl tA38vj (Ent.lab (l := 13) rfl (says_cel 0)) (Nat.le_of_ble_eq_true rfl)) (wl_op [] rfl rfl rfl rfl (op_fn Tryz.func8 rfl rfl rfl (fn_imp (sum_any 88 (kL x1) 0 (kL x1) 0 (Sl.lab 73 rfl hlA2) (Sl.lab 82 rfl hlB2) (by omega) (by omega) (by decide) (by decide) hbA hbB) (fun u ρ hu => (by rw [hsum] at hu; exact hu : ∃ (a' : Option Addr) (c' : Nat), u = .tuple #[sr (kL x1) 0 (.slice a' V.length c'), .int .i64 0] ∧ ρ = [(88, slW 3 SL.encZ 1 (.slice a' V.length c') V)])))) ?_)))
    rintro _ _ ⟨a88, c88, rfl, rfl⟩
    refine zm rfl (zd rfl (op_extract rfl rfl) (zd rfl (op_extract rfl rfl) (wl_op [] rfl rfl rfl rfl (op_alloc (l := 15) tN38vj) ?_)))
    rintro _ _ ⟨b15, rfl, rfl⟩
    refine wl_op0 [15] rfl rfl rfl (op_store rfl rfl tZ38vj (by rfl) (by rfl) (by exact Nat.le_of_ble_eq_true rfl)) ?_
    rintro _ _ ⟨rfl, rfl⟩
    refine za rfl (wl_nil (st_tn (w_seq (w_seq (w_wk 15 (cel b15 (sr (kL x1) 0 (.slice a88 V.length c88)).cells.toList 38) rfl (fun _ h => h) ?_)))))
    refine w_region (zm rfl (zd rfl (op_val (v' := .bool false) (by rfl) (op_neq rfl rfl)) ?_))
    refine zm rfl (wl_wanted_det rfl rfl rfl rfl rfl rfl rfl (op_move rfl) (wl_wanted_det rfl rfl rfl rfl rfl rfl rfl (op_val (v' := .bool false) (by rfl) (op_neq rfl rfl)) ?_))
    refine zd rfl (op_pick_f rfl rfl) (zm rfl (wl_wanted_det rfl rfl rfl rfl rfl rfl rfl (op_move rfl) (wl_wanted_det rfl rfl rfl rfl rfl rfl rfl (op_val (v' := .bool false) (by rfl) (op_neq rfl rfl)) ?_)))
    refine zd rfl (op_pick_f rfl rfl) (zm rfl (wl_wanted_det rfl rfl rfl rfl rfl rfl rfl (op_move rfl) (wl_wanted_det rfl rfl rfl rfl rfl rfl rfl (op_val (v' := .bool false) (by rfl) (op_neq rfl rfl)) ?_)))
    refine zd rfl (op_pick_f rfl rfl) (zm rfl (wl_wanted_det rfl rfl rfl rfl rfl rfl rfl (op_loadA rfl tA38vj (Ent.lab (l := 15) rfl (says_cel 0)) (Nat.le_of_ble_eq_true rfl)) (wl_wanted_det rfl rfl rfl rfl rfl rfl rfl (op_loadA rfl tA38vj (Ent.lab (l := 9) rfl (says_cel 0)) (Nat.le_of_ble_eq_true rfl)) (wl_wanted_det rfl rfl rfl rfl rfl rfl rfl (op_fn Tryz.func9 rfl rfl rfl (eq_self (kL x1) 0 (Sl.lab 88 rfl hlV2) (Sl.lab 64 rfl hlV2))) (wl_wanted_det rfl rfl rfl rfl rfl rfl rfl (op_not_t rfl) (zd rfl (op_pick_f rfl rfl) (wl_nil (st_tn (w_cond_f (rfl) ?_)))))))))
    refine w_skip (st_tn (w_seq (w_region (zd rfl (op_idxArr (i := 2) rfl rfl tR28vj (Nat.le_of_ble_eq_true rfl)) (zd rfl (op_load1 rfl tO5vj (Ent.lab (l := 3) rfl (says_cel 2))) (zd rfl (op_convI64 rfl (by rw [Tryz.underlying5]; rfl) Tryz.underlying3 (by omega)) ?_))))))
    refine zd rfl (op_val (v' := .int .i64 ((m : Nat) : Int)) (by rw [hm]) (op_remN rfl rfl (by omega) (by omega))) ?_
    refine za rfl (wl_nil (st_tn (w_seq ?_)))
    refine w_drawW (fun β => [⟨116, [], [], [], noW (_), false, [], []⟩, ⟨117, [], [], [], noW (_), false, [], []⟩, ⟨118, [1], [], [], noW (_), false, [], []⟩, ⟨119, [0, 2], [], [], fun w => DetW _ _, false, [], []⟩, ⟨120, [], [], [], noW (_), false, [], []⟩, ⟨121, [], [], [], noW (_), false, [], []⟩, ⟨122, [5], [], [], noW (_), false, [], []⟩, ⟨123, [4, 6], [], [], fun w => DetW _ _, false, [], []⟩, ⟨124, [3, 7], [], [], fun w => DetW _ _, false, [], []⟩, ⟨115, [8], [], [], noW (_), false, [], []⟩, ⟨125, [9], [], [], noW (_), false, [], []⟩, ⟨126, [9], [], [], noW (_), false, [], []⟩, ⟨18, [], [], [], fun w => DetW _ _, true, [], []⟩, ⟨235, [10], [12], [], noW (_), false, [], []⟩]) [] [9, 17] [⟨116, [], [], false, [], []⟩, ⟨117, [], [], false, [], []⟩, ⟨118, [1], [], false, [], []⟩, ⟨119, [0, 2], [], false, [], []⟩, ⟨120, [], [], false, [], []⟩, ⟨121, [], [], false, [], []⟩, ⟨122, [5], [], false, [], []⟩, ⟨123, [4, 6], [], false, [], []⟩, ⟨124, [3, 7], [], false, [], []⟩, ⟨115, [8], [], false, [], []⟩, ⟨125, [9], [], false, [], []⟩, ⟨126, [9], [], false, [], []⟩, ⟨18, [], [], true, [], []⟩, ⟨235, [10], [12], false, [], []⟩] [[], [], [], [], [], [], [], [], [3, 7], [3, 7, 8], [3, 7, 8], [3, 7, 8], [], [3, 7, 8, 12]] [[], [], [], [], [], [], [], [], [], [], [], [], [], []] tMixvj (fun _ => by rfl) (fun _ => by rfl) (by kernel_rfl) (by kernel_rfl) (by rfl) (by rfl)
        (fun β => ⟨.p rfl (by intro X; exact op_loadA rfl tA38vj (Ent.lab (l := 9) rfl (says_cel 0)) (Nat.le_of_ble_eq_true rfl)),
        ⟨.p rfl (by intro X; exact op_move rfl),
        ⟨.p rfl (by intro X; rintro _ _ ⟨rfl, rfl⟩; exact op_build tB40vj rfl rfl),
        ⟨.px rfl (by intro X; rintro _ _ ⟨rfl, rfl⟩ _ _ ⟨rfl, rfl⟩; refine OpT.mono (op_fn Tryz.func11 rfl rfl rfl (window_any 119 (kL x1) 0 0 m (Sl.lab 64 rfl hlV2) (by omega) (by decide) (by decide) (by omega))) ?_; rintro _ _ ⟨_, a119, c119, rfl, rfl, rfl⟩; obtain ⟨w, rfl, rfl⟩ : ∃ w : Wt, w.a = a119 ∧ w.c = c119 := ⟨{ a := a119, c := c119 }, rfl, rfl⟩; exact ⟨w, rfl, rfl⟩),
        ⟨.p rfl (by intro X; exact op_loadA rfl tA38vj (Ent.lab (l := 9) rfl (says_cel 0)) (Nat.le_of_ble_eq_true rfl)),
        ⟨.p rfl (by intro X; exact op_move rfl),
        ⟨.p rfl (by intro X; rintro _ _ ⟨rfl, rfl⟩; exact op_build tB40vj rfl rfl),
        ⟨.px rfl (by intro X; rintro _ _ ⟨rfl, rfl⟩ _ _ ⟨rfl, rfl⟩; refine OpT.mono (op_fn Tryz.func11 rfl rfl rfl (window_any 123 (kL x1) 0 m 64 (Sl.lab 64 rfl hlV2) (by omega) (by decide) (by omega) (by decide))) ?_; rintro _ _ ⟨_, a123, c123, rfl, rfl, rfl⟩; obtain ⟨w, rfl, rfl⟩ : ∃ w : Wt, w.a = a123 ∧ w.c = c123 := ⟨{ a := a123, c := c123 }, rfl, rfl⟩; exact ⟨w, rfl, rfl⟩),
        ⟨.px rfl (by intro X; rintro _ _ ⟨rfl, rfl⟩ _ _ ⟨rfl, rfl⟩; refine OpT.mono (op_fn Tryz.func10 rfl rfl rfl (fn_imp (join_any 124 (kL x1) (winF 0 V 0 m) (kL x1) (winF 0 V m 64) (Sl.lab 119 rfl (Nat.le_trans (winL_len _ _ _ _) hlV2)) (Sl.lab 123 rfl (Nat.le_trans (winL_len _ _ _ _) hlV2)) (by have := winL_len 0 V 0 m; omega) (by have := winL_len 0 V m 64; omega) (by have := winF_bd hlV (p := 0) (q := m) (by decide); omega) (by have := winF_bd hlV (p := m) (q := 64) (by omega); omega)) (fun u ρ hu => (by rw [hwj] at hu; exact hu : ∃ (a' : Option Addr) (c' : Nat), u = .tuple #[sr (kL x1) 0 (.slice a' V.length c'), .int .i64 0] ∧ ρ = [(124, slW 3 SL.encZ 1 (.slice a' V.length c') V)])))) ?_; rintro _ _ ⟨a124, c124, rfl, rfl⟩; obtain ⟨w, rfl, rfl⟩ : ∃ w : Wt, w.a = a124 ∧ w.c = c124 := ⟨{ a := a124, c := c124 }, rfl, rfl⟩; exact ⟨w, rfl, rfl⟩),
        ⟨.p rfl (by intro X; rintro _ _ ⟨rfl, rfl⟩; exact op_move rfl),
        ⟨.p rfl (by intro X; rintro _ _ ⟨rfl, rfl⟩; exact op_extract rfl rfl),
        ⟨.p rfl (by intro X; rintro _ _ ⟨rfl, rfl⟩; exact op_extract rfl rfl),
        ⟨.px rfl (by intro X; refine OpT.mono (op_alloc (l := 18) tN38vj) ?_; rintro _ _ ⟨b18, rfl, rfl⟩; obtain ⟨w, rfl⟩ : ∃ w : Wt, w.b = b18 := ⟨{ b := b18 }, rfl⟩; exact ⟨w, rfl, rfl⟩),
        ⟨.p rfl (by intro X; rintro _ _ ⟨rfl, rfl⟩ _ _ ⟨rfl, rfl⟩; show OpT _ _ _ _ _ _ [(_, _)] _; exact op_store rfl rfl tZ38vj (by rfl) (by rfl) (by exact Nat.le_of_ble_eq_true rfl)) (hu := by exact .inr fun _ _ h => h.1),
        trivial⟩⟩⟩⟩⟩⟩⟩⟩⟩⟩⟩⟩⟩⟩)
        (fun β β' => ⟨fun _ => by rfl, ⟨fun _ => by rfl, ⟨fun _ => by rfl, ⟨fun _ => by rfl, ⟨fun _ => by rfl, ⟨fun _ => by rfl, ⟨fun _ => by rfl, ⟨fun _ => by rfl, ⟨fun h => by first | rfl | (simp only [h 3 (by decide), h 7 (by decide)]), ⟨fun h => by first | rfl | (simp only [h 3 (by decide), h 7 (by decide), h 8 (by decide)]), ⟨fun h => by first | rfl | (simp only [h 3 (by decide), h 7 (by decide), h 8 (by decide)]), ⟨fun h => by first | rfl | (simp only [h 3 (by decide), h 7 (by decide), h 8 (by decide)]), ⟨fun _ => by rfl, ⟨fun h => by first | rfl | (simp only [h 3 (by decide), h 7 (by decide), h 8 (by decide), h 12 (by decide)]), trivial⟩⟩⟩⟩⟩⟩⟩⟩⟩⟩⟩⟩⟩⟩) ?_
    intro β
    rintro _ _ ⟨rfl, rfl⟩ _ _ ⟨rfl, rfl⟩ _ _ ⟨rfl, rfl⟩ _ _ ⟨rfl, rfl⟩ _ _ ⟨rfl, rfl⟩ _ _ ⟨rfl, rfl⟩ _ _ ⟨rfl, rfl⟩ _ _ ⟨rfl, rfl⟩ _ _ ⟨rfl, rfl⟩ _ _ ⟨rfl, rfl⟩ _ _ ⟨rfl, rfl⟩ _ _ ⟨rfl, rfl⟩ _ _ ⟨rfl, rfl⟩ _ _ ⟨rfl, rfl⟩
    generalize (β 3).a = a119
    generalize (β 3).c = c119
    generalize (β 7).a = a123
    generalize (β 7).c = c123
    generalize (β 8).a = a124
    generalize (β 8).c = c124
    generalize (β 12).b = b18
    refine wl_norm (e' := [(3, _), (9, _), (18, _), (126, _)]) (.cons rfl (.cons rfl (.cons rfl (.cons rfl (.nil _))))) (by dsimp only [cond_false, cond_true, List.nil_append, List.cons_append]) ?_
    refine za rfl (wl_nil (st_tn (w_seq (w_seq (w_wk 18 (cel b18 (sr (kL x1) 0 (.slice a124 V.length c124)).cells.toList 38) rfl (fun _ h => h) ?_)))))
    refine w_region (zm rfl (zd rfl (op_val (v' := .bool false) (by rfl) (op_neq rfl rfl)) ?_))
    refine zm rfl (wl_wanted_det rfl rfl rfl rfl rfl rfl rfl (op_loadA rfl tA38vj (Ent.lab (l := 18) rfl (says_cel 0)) (Nat.le_of_ble_eq_true rfl)) (wl_wanted_det rfl rfl rfl rfl rfl rfl rfl (op_loadA rfl tA38vj (Ent.lab (l := 9) rfl (says_cel 0)) (Nat.le_of_ble_eq_true rfl)) (wl_wanted_det rfl rfl rfl rfl rfl rfl rfl (op_fn Tryz.func9 rfl rfl rfl (eq_self (kL x1) 0 (Sl.lab 124 rfl hlV2) (Sl.lab 64 rfl hlV2))) (wl_wanted_det rfl rfl rfl rfl rfl rfl rfl (op_not_t rfl) (zd rfl (op_pick_f rfl rfl) (wl_nil (st_tn (w_cond_f (rfl) ?_))))))))
    refine w_skip (st_tn (w_seq ?_))
    refine w_drawW (fun β => [⟨135, [], [], [], noW (_), false, [], []⟩, ⟨136, [0], [], [], noW (_), false, [], []⟩, ⟨137, [1], [], [], noW (_), false, [], []⟩, ⟨138, [], [], [], noW (_), false, [], []⟩, ⟨139, [3], [], [], noW (_), false, [], []⟩, ⟨140, [4], [], [], noW (_), false, [], []⟩, ⟨141, [5], [], [], noW (_), false, [], []⟩, ⟨20, [2], [], [], noW (_), false, [], []⟩]) [] [3] [⟨135, [], [], false, [], []⟩, ⟨136, [0], [], false, [], []⟩, ⟨137, [1], [], false, [], []⟩, ⟨138, [], [], false, [], []⟩, ⟨139, [3], [], false, [], []⟩, ⟨140, [4], [], false, [], []⟩, ⟨141, [5], [], false, [], []⟩, ⟨20, [2], [], false, [], []⟩] [[], [], [], [], [], [], [], []] [[], [], [], [], [], [], [], []] tMixvj (fun _ => by rfl) (fun _ => by rfl) (by kernel_rfl) (by kernel_rfl) (by rfl) (by rfl)
        (fun β => ⟨.p rfl (by intro X; exact op_idxArr (i := 3) rfl rfl tR28vj (Nat.le_of_ble_eq_true rfl)),
        ⟨.p rfl (by intro X; rintro _ _ ⟨rfl, rfl⟩; exact op_load1 rfl tO5vj (Ent.lab (l := 3) rfl (says_cel 3))),
        ⟨.p rfl (by intro X; rintro _ _ ⟨rfl, rfl⟩; exact op_convI64 rfl (by rw [Tryz.underlying5]; rfl) Tryz.underlying3 (by omega)),
        ⟨.p rfl (by intro X; exact op_idxArr (i := 2) rfl rfl tR28vj (Nat.le_of_ble_eq_true rfl)),
        ⟨.p rfl (by intro X; rintro _ _ ⟨rfl, rfl⟩; exact op_load1 rfl tO5vj (Ent.lab (l := 3) rfl (says_cel 2))),
        ⟨.p rfl (by intro X; rintro _ _ ⟨rfl, rfl⟩; exact op_remN rfl rfl (by omega) (by omega)),
        ⟨.p rfl (by intro X; rintro _ _ ⟨rfl, rfl⟩; exact op_convI64 rfl (by rw [Tryz.underlying5]; rfl) Tryz.underlying3 (by omega)),
        ⟨.p rfl (by intro X; rintro _ _ ⟨rfl, rfl⟩; exact op_assign rfl),
        trivial⟩⟩⟩⟩⟩⟩⟩⟩)
        (fun β β' => ⟨fun _ => by rfl, ⟨fun _ => by rfl, ⟨fun _ => by rfl, ⟨fun _ => by rfl, ⟨fun _ => by rfl, ⟨fun _ => by rfl, ⟨fun _ => by rfl, ⟨fun _ => by rfl, trivial⟩⟩⟩⟩⟩⟩⟩⟩) ?_
    intro β
    rintro _ _ ⟨rfl, rfl⟩ _ _ ⟨rfl, rfl⟩ _ _ ⟨rfl, rfl⟩ _ _ ⟨rfl, rfl⟩ _ _ ⟨rfl, rfl⟩ _ _ ⟨rfl, rfl⟩ _ _ ⟨rfl, rfl⟩ _ _ ⟨rfl, rfl⟩
    refine wl_norm (e' := [(9, _), (20, _), (141, _)]) (.cons rfl (.cons rfl (.cons rfl (.nil _)))) (by dsimp only [cond_false, cond_true, List.nil_append, List.cons_append]) ?_
    refine za rfl (wl_nil (st_tn (w_seq (w_region (zd rfl (op_loadA rfl tA38vj (Ent.lab (l := 9) rfl (says_cel 0)) (Nat.le_of_ble_eq_true rfl)) (zm rfl (wl_op [] rfl rfl rfl rfl (op_fn Tryz.func12 rfl rfl rfl (fn_imp (shift_any 145 (kL x1) 0 x3 (Sl.lab 64 rfl hlV2) (by omega) (by decide)) (fun u ρ hu => (by rw [hsf] at hu; exact hu : ∃ (a' : Option Addr) (c' : Nat), u = .tuple #[sr (kL x1) x3 (.slice a' V.length c'), .int .i64 0] ∧ ρ = [(145, slW 3 SL.encZ 1 (.slice a' V.length c') V)])))) ?_)))))))
    rintro _ _ ⟨a145, c145, rfl, rfl⟩
    refine zm rfl (zd rfl (op_extract rfl rfl) (zd rfl (op_extract rfl rfl) (wl_op [] rfl rfl rfl rfl (op_alloc (l := 22) tN38vj) ?_)))
    rintro _ _ ⟨b22, rfl, rfl⟩
    refine wl_op0 [22] rfl rfl rfl (op_store rfl rfl tZ38vj (by rfl) (by rfl) (by exact Nat.le_of_ble_eq_true rfl)) ?_
    rintro _ _ ⟨rfl, rfl⟩
    refine za rfl (wl_nil (st_tn (w_seq (w_wk 22 (cel b22 (sr (kL x1) x3 (.slice a145 V.length c145)).cells.toList 38) rfl (fun _ h => h) ?_))))
    refine w_region (zd rfl (op_loadA rfl tA38vj (Ent.lab (l := 9) rfl (says_cel 0)) (Nat.le_of_ble_eq_true rfl)) (zm rfl (wl_op [] rfl rfl rfl rfl (op_fn Tryz.func13 rfl rfl rfl (changeOfS 151 (kL x1) 0 (x2 % 8) (Sl.lab 64 rfl hlV2) (hck 0 (by decide)) (kL_ok x1).svc (kL_ok x1).op (kL_ok x1).q1 (kL_ok x1).q2 (by decide) hpt (by omega) (by omega))) ?_)))
    rintro _ _ ⟨a151, c151, rfl, rfl⟩
    refine zm rfl (zd rfl (op_extract rfl rfl) (zd rfl (op_extract rfl rfl) (za rfl (za rfl (wl_nil (st_tn (w_seq (w_region (zd rfl (op_loadA rfl tA38vj (Ent.lab (l := 22) rfl (says_cel 0)) (Nat.le_of_ble_eq_true rfl)) (zm rfl (wl_op [] rfl rfl rfl rfl (op_fn Tryz.func13 rfl rfl rfl (changeOfS 157 (kL x1) x3 (x2 % 8) (Sl.lab 145 rfl hlV2) (hck x3 h3) (kL_ok x1).svc (kL_ok x1).op (kL_ok x1).q1 (kL_ok x1).q2 (by omega) hpt (by omega) (by omega))) ?_)))))))))))
    rintro _ _ ⟨a157, c157, rfl, rfl⟩
    refine zm rfl (zd rfl (op_extract rfl rfl) (zd rfl (op_extract rfl rfl) (za rfl (za rfl (wl_nil (st_tn (w_seq (w_seq (w_region (zm rfl (zd rfl (op_val (v' := .bool false) (by rfl) (op_neq rfl rfl)) ?_)))))))))))
    refine zm rfl (wl_wanted_det rfl rfl rfl rfl rfl rfl rfl (op_move rfl) (wl_wanted_det rfl rfl rfl rfl rfl rfl rfl (op_val (v' := .bool false) (by rfl) (op_neq rfl rfl)) ?_))
    refine zd rfl (op_pick_f rfl rfl) (zm rfl (wl_wanted_det rfl rfl rfl rfl rfl rfl rfl (op_move rfl) (wl_wanted_det rfl rfl rfl rfl rfl rfl rfl (op_val (v' := .bool false) (by rfl) (op_neq rfl rfl)) ?_)))
    refine zd rfl (op_pick_f rfl rfl) (zm rfl (wl_wanted_det rfl rfl rfl rfl rfl rfl rfl (op_move rfl) (wl_wanted_det rfl rfl rfl rfl rfl rfl rfl (op_lenT rfl tS48vj (Sl.ent (Sl.lab 151 rfl hcl0))) (wl_wanted_det rfl rfl rfl rfl rfl rfl rfl (op_move rfl) (wl_wanted_det rfl rfl rfl rfl rfl rfl rfl (op_lenT rfl tS48vj (Sl.ent (Sl.lab 157 rfl hcl1))) (wl_wanted_det rfl rfl rfl rfl rfl rfl rfl (op_val (v' := .bool false) (by rw [hch.1]; simp) (op_neq rfl rfl)) ?_))))))
    refine zd rfl (op_pick_f rfl rfl) (wl_nil (st_tn (w_cond_f (rfl) ?_)))
    refine w_skip (st_tn (w_seq (w_seq (w_region (za rfl (wl_nil (st_tn (w_block ?_))))))))
    refine w_loopQ (X := Nat) (fun z => z ≤ (chgR 0 V (x2 % 8)).length) (fun z => [(28, .int .i64 (z))]) (fun _ => []) (fun z => (chgR 0 V (x2 % 8)).length - z) (0) [(20, _), (24, _), (26, _)] [(151, _), (157, _)] [151, 157] rfl (rfl) (.cons rfl (.nil _)) (.cons rfl (.cons rfl (.cons rfl (.nil _)))) (by
        try dsimp only
        exact Nat.zero_le _) ?_
    rintro j hj
    refine w_norm2 (by dsimp only [List.cons_append, List.nil_append]) (by dsimp only [List.cons_append, List.nil_append]) ?_
    try dsimp only at hj ⊢
    refine w_seq (w_seq (w_region (zm rfl (zm rfl (zd rfl (op_lenT rfl tS48vj (Sl.ent (Sl.lab 151 rfl (by first | exact hcl0 | exact hcl1)))) ?_)))))
    refine zd rfl (op_lss rfl rfl) (wl_nil (st_tn (w_cond_d rfl (fun hc180 => ?_) (fun hc180 => ?_))))
    · -- c180.t
      refine Exists.elim (hch.2.2 j (by omega)) (fun p hp => ?_)
      refine Exists.elim hp (fun q hq => ?_)
      refine Exists.elim hq (fun r hr => ?_)
      have hpb := hr.1
      have hA := hr.2.1
      have hB := hr.2.2
      have hjl : j < (chgR x3 V (x2 % 8)).length := by rw [hch.1]; omega
      refine w_skip (st_tn (w_seq (w_block (w_seq ?_))))
      refine w_drawW (fun β => (⟨183, [], [], [], noW (_), false, [], []⟩ :: ⟨184, [], [], [], noW (_), false, [], []⟩ :: ⟨185, [0, 1], [], [], noW (_), false, [], []⟩ :: ⟨186, [2], [], [], noW (_), false, [], []⟩ :: ⟨187, [3], [], [], noW (_), false, [], []⟩ :: ⟨188, [], [], [], noW (_), false, [], []⟩ :: ⟨189, [], [], [], noW (_), false, [], []⟩ :: ⟨190, [5, 6], [], [], noW (_), false, [], []⟩ :: ⟨191, [7], [], [], noW (_), false, [], []⟩ :: ⟨192, [8], [], [], noW (_), false, [], []⟩ :: ⟨193, [], [], [], noW (_), false, [], []⟩ :: ⟨194, [9, 10], [], [], noW (_), false, [], []⟩ :: ⟨195, [4, 11], [], [], noW (_), false, [], []⟩ :: ⟨196, [12], [], [], noW (_), false, [], []⟩ :: ⟨197, [], [], [], noW (_), false, [], []⟩ :: ⟨198, [], [], [], noW (_), false, [], []⟩ :: ⟨199, [14, 15], [], [], noW (_), false, [], []⟩ :: ⟨200, [16], [], [], noW (_), false, [], []⟩ :: ⟨201, [17], [], [], noW (_), false, [], []⟩ :: ⟨202, [], [], [], noW (_), false, [], []⟩ :: ⟨203, [], [], [], noW (_), false, [], []⟩ :: ⟨204, [19, 20], [], [], noW (_), false, [], []⟩ :: ⟨205, [21], [], [], noW (_), false, [], []⟩ :: ⟨206, [22], [], [], noW (_), false, [], []⟩ :: ⟨207, [18, 23], [], [], noW (_), false, [], []⟩ :: ⟨208, [13, 24], [], [], noW (_), false, [], []⟩ :: ⟨209, [25], [], [], noW (_), false, [], []⟩ :: ⟨210, [], [], [], noW (_), false, [], []⟩ :: ⟨211, [], [], [], noW (_), false, [], []⟩ :: ⟨212, [27, 28], [], [], noW (_), false, [], []⟩ :: ⟨213, [29], [], [], noW (_), false, [], []⟩ :: ⟨214, [30], [], [], noW (_), false, [], []⟩ :: ⟨215, [], [], [], noW (_), false, [], []⟩ :: ⟨216, [], [], [], noW (_), false, [], []⟩ :: ⟨217, [32, 33], [], [], noW (_), false, [], []⟩ :: ⟨218, [34], [], [], noW (_), false, [], []⟩ :: ⟨219, [35], [], [], noW (_), false, [], []⟩ :: ⟨220, [31, 36], [], [], noW (_), false, [], []⟩ :: ⟨221, [26, 37], [], [], noW (_), false, [], []⟩ :: [])) [] [26, 28, 24, 20] (⟨183, [], [], false, [], []⟩ :: ⟨184, [], [], false, [], []⟩ :: ⟨185, [0, 1], [], false, [], []⟩ :: ⟨186, [2], [], false, [], []⟩ :: ⟨187, [3], [], false, [], []⟩ :: ⟨188, [], [], false, [], []⟩ :: ⟨189, [], [], false, [], []⟩ :: ⟨190, [5, 6], [], false, [], []⟩ :: ⟨191, [7], [], false, [], []⟩ :: ⟨192, [8], [], false, [], []⟩ :: ⟨193, [], [], false, [], []⟩ :: ⟨194, [9, 10], [], false, [], []⟩ :: ⟨195, [4, 11], [], false, [], []⟩ :: ⟨196, [12], [], false, [], []⟩ :: ⟨197, [], [], false, [], []⟩ :: ⟨198, [], [], false, [], []⟩ :: ⟨199, [14, 15], [], false, [], []⟩ :: ⟨200, [16], [], false, [], []⟩ :: ⟨201, [17], [], false, [], []⟩ :: ⟨202, [], [], false, [], []⟩ :: ⟨203, [], [], false, [], []⟩ :: ⟨204, [19, 20], [], false, [], []⟩ :: ⟨205, [21], [], false, [], []⟩ :: ⟨206, [22], [], false, [], []⟩ :: ⟨207, [18, 23], [], false, [], []⟩ :: ⟨208, [13, 24], [], false, [], []⟩ :: ⟨209, [25], [], false, [], []⟩ :: ⟨210, [], [], false, [], []⟩ :: ⟨211, [], [], false, [], []⟩ :: ⟨212, [27, 28], [], false, [], []⟩ :: ⟨213, [29], [], false, [], []⟩ :: ⟨214, [30], [], false, [], []⟩ :: ⟨215, [], [], false, [], []⟩ :: ⟨216, [], [], false, [], []⟩ :: ⟨217, [32, 33], [], false, [], []⟩ :: ⟨218, [34], [], false, [], []⟩ :: ⟨219, [35], [], false, [], []⟩ :: ⟨220, [31, 36], [], false, [], []⟩ :: ⟨221, [26, 37], [], false, [], []⟩ :: []) ([] :: [] :: [] :: [] :: [] :: [] :: [] :: [] :: [] :: [] :: [] :: [] :: [] :: [] :: [] :: [] :: [] :: [] :: [] :: [] :: [] :: [] :: [] :: [] :: [] :: [] :: [] :: [] :: [] :: [] :: [] :: [] :: [] :: [] :: [] :: [] :: [] :: [] :: [] :: []) ([] :: [] :: [] :: [] :: [] :: [] :: [] :: [] :: [] :: [] :: [] :: [] :: [] :: [] :: [] :: [] :: [] :: [] :: [] :: [] :: [] :: [] :: [] :: [] :: [] :: [] :: [] :: [] :: [] :: [] :: [] :: [] :: [] :: [] :: [] :: [] :: [] :: [] :: [] :: []) tMixvj (fun _ => by rfl) (fun _ => by rfl) (by kernel_rfl) (by kernel_rfl) (by rfl) (by rfl)
          (fun β => ⟨.p rfl (by intro X; exact op_move rfl),
          ⟨.p rfl (by intro X; exact op_move rfl),
          ⟨.p rfl (by intro X; rintro _ _ ⟨rfl, rfl⟩ _ _ ⟨rfl, rfl⟩; exact op_idx rfl rfl tS48vj (Sl.ent (Sl.lab 157 rfl (by first | exact hcl0 | exact hcl1))) (by omega)),
          ⟨.p rfl (by intro X; rintro _ _ ⟨rfl, rfl⟩; exact op_fieldAddr (off := 0) rfl tF52_0vj),
          ⟨.p rfl (by intro X; rintro _ _ ⟨rfl, rfl⟩; exact op_ldxf rfl tO3vj (Sl.lab 157 rfl (by first | exact hcl0 | exact hcl1)) (by assumption) (by rfl)),
          ⟨.p rfl (by intro X; exact op_move rfl),
          ⟨.p rfl (by intro X; exact op_move rfl),
          ⟨.p rfl (by intro X; rintro _ _ ⟨rfl, rfl⟩ _ _ ⟨rfl, rfl⟩; exact op_idx rfl rfl tS48vj (Sl.ent (Sl.lab 151 rfl (by first | exact hcl0 | exact hcl1))) (by omega)),
          ⟨.p rfl (by intro X; rintro _ _ ⟨rfl, rfl⟩; exact op_fieldAddr (off := 0) rfl tF52_0vj),
          ⟨.p rfl (by intro X; rintro _ _ ⟨rfl, rfl⟩; exact op_ldxf rfl tO3vj (Sl.lab 151 rfl (by first | exact hcl0 | exact hcl1)) (by assumption) (by rfl)),
          ⟨.p rfl (by intro X; exact op_move rfl),
          ⟨.p rfl (by intro X; rintro _ _ ⟨rfl, rfl⟩ _ _ ⟨rfl, rfl⟩; exact op_add' rfl rfl (by omega)),
          ⟨.p rfl (by intro X; rintro _ _ ⟨rfl, rfl⟩ _ _ ⟨rfl, rfl⟩; exact op_val (v' := .bool false) (by rw [decide_eq_false (by omega)]) (op_neq rfl rfl)),
          ⟨.p rfl (by intro X; rintro _ _ ⟨rfl, rfl⟩; exact op_move rfl),
          ⟨.w rfl rfl rfl (by rintro _ _ ⟨rfl, rfl⟩; first | rfl | (exact congrArg Value.bool (decide_eq_true (by omega))) | (exact congrArg Value.bool (decide_eq_false (by omega))) | (simp; done) | (simp; omega) | (simp [*]; done)) (by intro X; exact op_move rfl),
          ⟨.w rfl rfl rfl (by rintro _ _ ⟨rfl, rfl⟩; first | rfl | (exact congrArg Value.bool (decide_eq_true (by omega))) | (exact congrArg Value.bool (decide_eq_false (by omega))) | (simp; done) | (simp; omega) | (simp [*]; done)) (by intro X; exact op_move rfl),
          ⟨.w rfl rfl rfl (by rintro _ _ ⟨rfl, rfl⟩; first | rfl | (exact congrArg Value.bool (decide_eq_true (by omega))) | (exact congrArg Value.bool (decide_eq_false (by omega))) | (simp; done) | (simp; omega) | (simp [*]; done)) (by intro X; rintro _ _ ⟨rfl, rfl⟩ _ _ ⟨rfl, rfl⟩; exact op_idx rfl rfl tS48vj (Sl.ent (Sl.lab 157 rfl (by first | exact hcl0 | exact hcl1))) (by omega)),
          ⟨.w rfl rfl rfl (by rintro _ _ ⟨rfl, rfl⟩; first | rfl | (exact congrArg Value.bool (decide_eq_true (by omega))) | (exact congrArg Value.bool (decide_eq_false (by omega))) | (simp; done) | (simp; omega) | (simp [*]; done)) (by intro X; rintro _ _ ⟨rfl, rfl⟩; exact op_fieldAddr (off := 1) rfl tF52_1vj),
          ⟨.w rfl rfl rfl (by rintro _ _ ⟨rfl, rfl⟩; first | rfl | (exact congrArg Value.bool (decide_eq_true (by omega))) | (exact congrArg Value.bool (decide_eq_false (by omega))) | (simp; done) | (simp; omega) | (simp [*]; done)) (by intro X; rintro _ _ ⟨rfl, rfl⟩; exact op_ldxf rfl tO3vj (Sl.lab 157 rfl (by first | exact hcl0 | exact hcl1)) (by assumption) (by rfl)),
          ⟨.w rfl rfl rfl (by rintro _ _ ⟨rfl, rfl⟩; first | rfl | (exact congrArg Value.bool (decide_eq_true (by omega))) | (exact congrArg Value.bool (decide_eq_false (by omega))) | (simp; done) | (simp; omega) | (simp [*]; done)) (by intro X; exact op_move rfl),
          ⟨.w rfl rfl rfl (by rintro _ _ ⟨rfl, rfl⟩; first | rfl | (exact congrArg Value.bool (decide_eq_true (by omega))) | (exact congrArg Value.bool (decide_eq_false (by omega))) | (simp; done) | (simp; omega) | (simp [*]; done)) (by intro X; exact op_move rfl),
          ⟨.w rfl rfl rfl (by rintro _ _ ⟨rfl, rfl⟩; first | rfl | (exact congrArg Value.bool (decide_eq_true (by omega))) | (exact congrArg Value.bool (decide_eq_false (by omega))) | (simp; done) | (simp; omega) | (simp [*]; done)) (by intro X; rintro _ _ ⟨rfl, rfl⟩ _ _ ⟨rfl, rfl⟩; exact op_idx rfl rfl tS48vj (Sl.ent (Sl.lab 151 rfl (by first | exact hcl0 | exact hcl1))) (by omega)),
          ⟨.w rfl rfl rfl (by rintro _ _ ⟨rfl, rfl⟩; first | rfl | (exact congrArg Value.bool (decide_eq_true (by omega))) | (exact congrArg Value.bool (decide_eq_false (by omega))) | (simp; done) | (simp; omega) | (simp [*]; done)) (by intro X; rintro _ _ ⟨rfl, rfl⟩; exact op_fieldAddr (off := 1) rfl tF52_1vj),
          ⟨.w rfl rfl rfl (by rintro _ _ ⟨rfl, rfl⟩; first | rfl | (exact congrArg Value.bool (decide_eq_true (by omega))) | (exact congrArg Value.bool (decide_eq_false (by omega))) | (simp; done) | (simp; omega) | (simp [*]; done)) (by intro X; rintro _ _ ⟨rfl, rfl⟩; exact op_ldxf rfl tO3vj (Sl.lab 151 rfl (by first | exact hcl0 | exact hcl1)) (by assumption) (by rfl)),
          ⟨.w rfl rfl rfl (by rintro _ _ ⟨rfl, rfl⟩; first | rfl | (exact congrArg Value.bool (decide_eq_true (by omega))) | (exact congrArg Value.bool (decide_eq_false (by omega))) | (simp; done) | (simp; omega) | (simp [*]; done)) (by intro X; rintro _ _ ⟨rfl, rfl⟩ _ _ ⟨rfl, rfl⟩; exact op_val (v' := .bool false) (by simp) (op_neq rfl rfl)),
          ⟨.p rfl (by intro X; rintro _ _ ⟨rfl, rfl⟩ _ _ ⟨rfl, rfl⟩; exact op_pick_f rfl rfl),
          ⟨.p rfl (by intro X; rintro _ _ ⟨rfl, rfl⟩; exact op_move rfl),
          ⟨.w rfl rfl rfl (by rintro _ _ ⟨rfl, rfl⟩; first | rfl | (exact congrArg Value.bool (decide_eq_true (by omega))) | (exact congrArg Value.bool (decide_eq_false (by omega))) | (simp; done) | (simp; omega) | (simp [*]; done)) (by intro X; exact op_move rfl),
          ⟨.w rfl rfl rfl (by rintro _ _ ⟨rfl, rfl⟩; first | rfl | (exact congrArg Value.bool (decide_eq_true (by omega))) | (exact congrArg Value.bool (decide_eq_false (by omega))) | (simp; done) | (simp; omega) | (simp [*]; done)) (by intro X; exact op_move rfl),
          ⟨.w rfl rfl rfl (by rintro _ _ ⟨rfl, rfl⟩; first | rfl | (exact congrArg Value.bool (decide_eq_true (by omega))) | (exact congrArg Value.bool (decide_eq_false (by omega))) | (simp; done) | (simp; omega) | (simp [*]; done)) (by intro X; rintro _ _ ⟨rfl, rfl⟩ _ _ ⟨rfl, rfl⟩; exact op_idx rfl rfl tS48vj (Sl.ent (Sl.lab 157 rfl (by first | exact hcl0 | exact hcl1))) (by omega)),
          ⟨.w rfl rfl rfl (by rintro _ _ ⟨rfl, rfl⟩; first | rfl | (exact congrArg Value.bool (decide_eq_true (by omega))) | (exact congrArg Value.bool (decide_eq_false (by omega))) | (simp; done) | (simp; omega) | (simp [*]; done)) (by intro X; rintro _ _ ⟨rfl, rfl⟩; exact op_fieldAddr (off := 2) rfl tF52_2vj),
          ⟨.w rfl rfl rfl (by rintro _ _ ⟨rfl, rfl⟩; first | rfl | (exact congrArg Value.bool (decide_eq_true (by omega))) | (exact congrArg Value.bool (decide_eq_false (by omega))) | (simp; done) | (simp; omega) | (simp [*]; done)) (by intro X; rintro _ _ ⟨rfl, rfl⟩; exact op_ldxf rfl tO3vj (Sl.lab 157 rfl (by first | exact hcl0 | exact hcl1)) (by assumption) (by rfl)),
          ⟨.w rfl rfl rfl (by rintro _ _ ⟨rfl, rfl⟩; first | rfl | (exact congrArg Value.bool (decide_eq_true (by omega))) | (exact congrArg Value.bool (decide_eq_false (by omega))) | (simp; done) | (simp; omega) | (simp [*]; done)) (by intro X; exact op_move rfl),
          ⟨.w rfl rfl rfl (by rintro _ _ ⟨rfl, rfl⟩; first | rfl | (exact congrArg Value.bool (decide_eq_true (by omega))) | (exact congrArg Value.bool (decide_eq_false (by omega))) | (simp; done) | (simp; omega) | (simp [*]; done)) (by intro X; exact op_move rfl),
          ⟨.w rfl rfl rfl (by rintro _ _ ⟨rfl, rfl⟩; first | rfl | (exact congrArg Value.bool (decide_eq_true (by omega))) | (exact congrArg Value.bool (decide_eq_false (by omega))) | (simp; done) | (simp; omega) | (simp [*]; done)) (by intro X; rintro _ _ ⟨rfl, rfl⟩ _ _ ⟨rfl, rfl⟩; exact op_idx rfl rfl tS48vj (Sl.ent (Sl.lab 151 rfl (by first | exact hcl0 | exact hcl1))) (by omega)),
          ⟨.w rfl rfl rfl (by rintro _ _ ⟨rfl, rfl⟩; first | rfl | (exact congrArg Value.bool (decide_eq_true (by omega))) | (exact congrArg Value.bool (decide_eq_false (by omega))) | (simp; done) | (simp; omega) | (simp [*]; done)) (by intro X; rintro _ _ ⟨rfl, rfl⟩; exact op_fieldAddr (off := 2) rfl tF52_2vj),
          ⟨.w rfl rfl rfl (by rintro _ _ ⟨rfl, rfl⟩; first | rfl | (exact congrArg Value.bool (decide_eq_true (by omega))) | (exact congrArg Value.bool (decide_eq_false (by omega))) | (simp; done) | (simp; omega) | (simp [*]; done)) (by intro X; rintro _ _ ⟨rfl, rfl⟩; exact op_ldxf rfl tO3vj (Sl.lab 151 rfl (by first | exact hcl0 | exact hcl1)) (by assumption) (by rfl)),
          ⟨.w rfl rfl rfl (by rintro _ _ ⟨rfl, rfl⟩; first | rfl | (exact congrArg Value.bool (decide_eq_true (by omega))) | (exact congrArg Value.bool (decide_eq_false (by omega))) | (simp; done) | (simp; omega) | (simp [*]; done)) (by intro X; rintro _ _ ⟨rfl, rfl⟩ _ _ ⟨rfl, rfl⟩; exact op_val (v' := .bool false) (by simp) (op_neq rfl rfl)),
          ⟨.p rfl (by intro X; rintro _ _ ⟨rfl, rfl⟩ _ _ ⟨rfl, rfl⟩; exact op_pick_f rfl rfl),
          trivial⟩⟩⟩⟩⟩⟩⟩⟩⟩⟩⟩⟩⟩⟩⟩⟩⟩⟩⟩⟩⟩⟩⟩⟩⟩⟩⟩⟩⟩⟩⟩⟩⟩⟩⟩⟩⟩⟩⟩)
          (fun β β' => ⟨fun _ => by rfl, ⟨fun _ => by rfl, ⟨fun _ => by rfl, ⟨fun _ => by rfl, ⟨fun _ => by rfl, ⟨fun _ => by rfl, ⟨fun _ => by rfl, ⟨fun _ => by rfl, ⟨fun _ => by rfl, ⟨fun _ => by rfl, ⟨fun _ => by rfl, ⟨fun _ => by rfl, ⟨fun _ => by rfl, ⟨fun _ => by rfl, ⟨fun _ => by rfl, ⟨fun _ => by rfl, ⟨fun _ => by rfl, ⟨fun _ => by rfl, ⟨fun _ => by rfl, ⟨fun _ => by rfl, ⟨fun _ => by rfl, ⟨fun _ => by rfl, ⟨fun _ => by rfl, ⟨fun _ => by rfl, ⟨fun _ => by rfl, ⟨fun _ => by rfl, ⟨fun _ => by rfl, ⟨fun _ => by rfl, ⟨fun _ => by rfl, ⟨fun _ => by rfl, ⟨fun _ => by rfl, ⟨fun _ => by rfl, ⟨fun _ => by rfl, ⟨fun _ => by rfl, ⟨fun _ => by rfl, ⟨fun _ => by rfl, ⟨fun _ => by rfl, ⟨fun _ => by rfl, ⟨fun _ => by rfl, trivial⟩⟩⟩⟩⟩⟩⟩⟩⟩⟩⟩⟩⟩⟩⟩⟩⟩⟩⟩⟩⟩⟩⟩⟩⟩⟩⟩⟩⟩⟩⟩⟩⟩⟩⟩⟩⟩⟩⟩) ?_
      intro β
      rintro _ _ ⟨rfl, rfl⟩ _ _ ⟨rfl, rfl⟩ _ _ ⟨rfl, rfl⟩ _ _ ⟨rfl, rfl⟩ _ _ ⟨rfl, rfl⟩ _ _ ⟨rfl, rfl⟩ _ _ ⟨rfl, rfl⟩ _ _ ⟨rfl, rfl⟩ _ _ ⟨rfl, rfl⟩ _ _ ⟨rfl, rfl⟩ _ _ ⟨rfl, rfl⟩ _ _ ⟨rfl, rfl⟩ _ _ ⟨rfl, rfl⟩ _ _ ⟨rfl, rfl⟩ _ _ ⟨rfl, rfl⟩ _ _ ⟨rfl, rfl⟩ _ _ ⟨rfl, rfl⟩ _ _ ⟨rfl, rfl⟩ _ _ ⟨rfl, rfl⟩ _ _ ⟨rfl, rfl⟩ _ _ ⟨rfl, rfl⟩ _ _ ⟨rfl, rfl⟩ _ _ ⟨rfl, rfl⟩ _ _ ⟨rfl, rfl⟩ _ _ ⟨rfl, rfl⟩ _ _ ⟨rfl, rfl⟩ _ _ ⟨rfl, rfl⟩ _ _ ⟨rfl, rfl⟩ _ _ ⟨rfl, rfl⟩ _ _ ⟨rfl, rfl⟩ _ _ ⟨rfl, rfl⟩ _ _ ⟨rfl, rfl⟩ _ _ ⟨rfl, rfl⟩ _ _ ⟨rfl, rfl⟩ _ _ ⟨rfl, rfl⟩ _ _ ⟨rfl, rfl⟩ _ _ ⟨rfl, rfl⟩ _ _ ⟨rfl, rfl⟩ _ _ ⟨rfl, rfl⟩
      refine wl_norm (e' := [(20, _), (24, _), (26, _), (28, _), (221, _)]) (.cons rfl (.cons rfl (.cons rfl (.cons rfl (.cons rfl (.nil _)))))) (by dsimp only [cond_false, cond_true, List.nil_append, List.cons_append]) ?_
      refine wl_nil (st_tn (w_cond_f (rfl) ?_))
      refine w_skip (st_bn (st_tn (w_region (zm rfl (zd rfl (op_add' rfl rfl (by omega)) ?_)))))
      refine za rfl (wl_nil ?_)
      refine st_roundQ (x := j) (j + 1) [151, 157] rfl (rfl) (.cons rfl (.nil _)) (.cons rfl (.cons rfl (.cons rfl (.nil _)))) (by
          try dsimp only
          omega) (by
          try dsimp only
          omega)
    · -- c180.f
      refine w_exit (st_te ?_)
      refine st_te ?_
      refine st_be (st_tn (w_seq (w_region (za rfl (wl_nil (st_tn (w_ret (st_ret (vs := [_]) [] Tryz.results3 ⟨rfl, trivial⟩ rfl ?_))))))))
      refine ⟨_, rfl, ?_⟩
      exact ⟨rfl, rfl⟩
end Go.Proofs.YtecmigildpkigaaGreat
namespace Go.Proofs.YtecmigildpkigaaGreat.Ser
open Go Go.SL Go.RowKit
set_option linter.unusedVariables false
set_option linter.unusedSimpArgs false
def toDC (c : CallV) : D := .row [.z .u8 c.par, .z .u8 c.clk, .z .u8 c.knd, .z .u8 c.svc, .z .u8 c.ver, .z .u8 c.opn, .z .u8 c.wait, .z .u8 c.long, .z .u8 c.link, .z .u8 c.tag, .b c.fail]
def toDT (t : TreeV) : D := .row [.z .u8 t.slot, .z .u8 t.start, .sl 11 t.a t.c (t.calls.map toDC)]
def toDY (y : SyncV) : D := .row [.z .u8 y.1, .z .u8 y.2.1, .z .u8 y.2.2.1, .z .u8 y.2.2.2.1, .z .u8 y.2.2.2.2]
theorem call_of {d : D} (h : hasD (.row [.int .u8, .int .u8, .int .u8, .int .u8, .int .u8, .int .u8, .int .u8, .int .u8, .int .u8, .int .u8, .bool]) d) : ∃ c : CallV, d = toDC c ∧ CallOk c := by
  obtain ⟨ds, rfl, hds⟩ := has_row h
  obtain ⟨e0, r0, rfl, q0, hds⟩ := has_cons hds
  obtain ⟨e1, r1, rfl, q1, hds⟩ := has_cons hds
  obtain ⟨e2, r2, rfl, q2, hds⟩ := has_cons hds
  obtain ⟨e3, r3, rfl, q3, hds⟩ := has_cons hds
  obtain ⟨e4, r4, rfl, q4, hds⟩ := has_cons hds
  obtain ⟨e5, r5, rfl, q5, hds⟩ := has_cons hds
  obtain ⟨e6, r6, rfl, q6, hds⟩ := has_cons hds
  obtain ⟨e7, r7, rfl, q7, hds⟩ := has_cons hds
  obtain ⟨e8, r8, rfl, q8, hds⟩ := has_cons hds
  obtain ⟨e9, r9, rfl, q9, hds⟩ := has_cons hds
  obtain ⟨e10, r10, rfl, q10, hds⟩ := has_cons hds
  obtain rfl := has_nil hds
  obtain ⟨x0, rfl, h0⟩ := has_int q0
  obtain ⟨x1, rfl, h1⟩ := has_int q1
  obtain ⟨x2, rfl, h2⟩ := has_int q2
  obtain ⟨x3, rfl, h3⟩ := has_int q3
  obtain ⟨x4, rfl, h4⟩ := has_int q4
  obtain ⟨x5, rfl, h5⟩ := has_int q5
  obtain ⟨x6, rfl, h6⟩ := has_int q6
  obtain ⟨x7, rfl, h7⟩ := has_int q7
  obtain ⟨x8, rfl, h8⟩ := has_int q8
  obtain ⟨x9, rfl, h9⟩ := has_int q9
  obtain ⟨b, rfl⟩ := has_bool q10
  exact ⟨⟨x0, x1, x2, x3, x4, x5, x6, x7, x8, x9, b⟩, rfl, ⟨wf_u8 h0, wf_u8 h1, wf_u8 h2, wf_u8 h3, wf_u8 h4, wf_u8 h5, wf_u8 h6, wf_u8 h7, wf_u8 h8, wf_u8 h9⟩⟩
theorem tree_of {d : D} (h : hasD (.row [.int .u8, .int .u8, .slice 11 (.row [.int .u8, .int .u8, .int .u8, .int .u8, .int .u8, .int .u8, .int .u8, .int .u8, .int .u8, .int .u8, .bool])]) d) : ∃ t : TreeV, d = toDT t ∧ (B8 t.slot ∧ B8 t.start ∧ ∀ c ∈ t.calls, CallOk c) := by
  obtain ⟨ds, rfl, hds⟩ := has_row h
  obtain ⟨e0, r0, rfl, q0, hds⟩ := has_cons hds
  obtain ⟨e1, r1, rfl, q1, hds⟩ := has_cons hds
  obtain ⟨e2, r2, rfl, q2, hds⟩ := has_cons hds
  obtain rfl := has_nil hds
  obtain ⟨x0, rfl, h0⟩ := has_int q0
  obtain ⟨x1, rfl, h1⟩ := has_int q1
  obtain ⟨a, c, l, rfl, hl⟩ := has_slice q2
  obtain ⟨l, rfl, hb⟩ := of_all toDC CallOk l (fun d hd => call_of (hl d hd))
  exact ⟨⟨x0, x1, a, c, l⟩, rfl, wf_u8 h0, wf_u8 h1, hb⟩
theorem sync_of {d : D} (h : hasD (.row [.int .u8, .int .u8, .int .u8, .int .u8, .int .u8]) d) : ∃ y : SyncV, d = toDY y ∧ True := by
  obtain ⟨ds, rfl, hds⟩ := has_row h
  obtain ⟨e0, r0, rfl, q0, hds⟩ := has_cons hds
  obtain ⟨e1, r1, rfl, q1, hds⟩ := has_cons hds
  obtain ⟨e2, r2, rfl, q2, hds⟩ := has_cons hds
  obtain ⟨e3, r3, rfl, q3, hds⟩ := has_cons hds
  obtain ⟨e4, r4, rfl, q4, hds⟩ := has_cons hds
  obtain rfl := has_nil hds
  obtain ⟨x0, rfl, h0⟩ := has_int q0
  obtain ⟨x1, rfl, h1⟩ := has_int q1
  obtain ⟨x2, rfl, h2⟩ := has_int q2
  obtain ⟨x3, rfl, h3⟩ := has_int q3
  obtain ⟨x4, rfl, h4⟩ := has_int q4
  exact ⟨(x0, x1, x2, x3, x4), rfl, trivial⟩
set_option maxRecDepth 100000 in
theorem open_story {H : Type} {enc : TypeId × Value → H} {W : World} {v : Value} {d : DataW H} {p : List MemPlace} (hval : Value.okWide Tryz.prog W .any 0 27 v) (h : DataW.Trod enc Tryz.prog W 0 (fun _ => true) true 27 v d p) :
    ∃ S : StoryV, v = stV S ∧ StOk W [whole W] S := by
  obtain ⟨cs, rfl⟩ := okWide_agg (ss := [.slice 3 (.row [.int .u8, .int .u8, .slice 11 (.row [.int .u8, .int .u8, .int .u8, .int .u8, .int .u8, .int .u8, .int .u8, .int .u8, .int .u8, .int .u8, .bool])]), .row [.int .i8, .int .i8, .int .i8, .int .i8], .slice 5 (.row [.int .u8, .int .u8, .int .u8, .int .u8, .int .u8]), .int .u8]) (by kernel_rfl) hval
  obtain ⟨d, hd, hc, hdeep⟩ := open_Trod (s := .row [.slice 3 (.row [.int .u8, .int .u8, .slice 11 (.row [.int .u8, .int .u8, .int .u8, .int .u8, .int .u8, .int .u8, .int .u8, .int .u8, .int .u8, .int .u8, .bool])]), .row [.int .i8, .int .i8, .int .i8, .int .i8], .slice 5 (.row [.int .u8, .int .u8, .int .u8, .int .u8, .int .u8]), .int .u8]) (by kernel_rfl) h
  obtain ⟨ds, rfl, hds⟩ := has_row hd
  obtain ⟨e0, r0, rfl, q0, hds⟩ := has_cons hds
  obtain ⟨e1, r1, rfl, q1, hds⟩ := has_cons hds
  obtain ⟨e2, r2, rfl, q2, hds⟩ := has_cons hds
  obtain ⟨e3, r3, rfl, q3, hds⟩ := has_cons hds
  obtain rfl := has_nil hds
  obtain ⟨ta, tc, tl, rfl, htl⟩ := has_slice q0
  obtain ⟨tl, rfl, htb⟩ := of_all toDT (fun t => B8 t.slot ∧ B8 t.start ∧ ∀ c ∈ t.calls, CallOk c) tl (fun d hd => tree_of (htl d hd))
  obtain ⟨os, rfl, hos⟩ := has_row q1
  obtain ⟨f0, g0, rfl, p0, hos⟩ := has_cons hos
  obtain ⟨f1, g1, rfl, p1, hos⟩ := has_cons hos
  obtain ⟨f2, g2, rfl, p2, hos⟩ := has_cons hos
  obtain ⟨f3, g3, rfl, p3, hos⟩ := has_cons hos
  obtain rfl := has_nil hos
  obtain ⟨o0, rfl, ho0⟩ := has_int p0
  obtain ⟨o1, rfl, ho1⟩ := has_int p1
  obtain ⟨o2, rfl, ho2⟩ := has_int p2
  obtain ⟨o3, rfl, ho3⟩ := has_int p3
  obtain ⟨sa, sc, yl, rfl, hyl⟩ := has_slice q2
  obtain ⟨yl, rfl, _⟩ := of_all toDY (fun _ => True) yl (fun d hd => sync_of (hyl d hd))
  obtain ⟨wr, rfl, hwr⟩ := has_int q3
  refine ⟨⟨ta, tc, tl, o0, o1, o2, o3, sa, sc, yl, wr⟩, ?_, ⟨⟨fun t ht => (htb t ht).1, fun t ht => (htb t ht).2.1, fun t ht => (htb t ht).2.2, wf_i8 ho0, wf_i8 ho1, wf_i8 ho2, wf_i8 ho3, wf_u8 hwr⟩, Sl.conv (deep_sl hdeep.1) (fun t => ?_), fun t ht => ?_, Sl.conv (deep_sl hdeep.2.2.1) (fun _ => rfl)⟩⟩
  · congr 1
    apply Array.ext'
    simp only [Value.cells] at hc
    rw [hc]
    simp [encD, encDs]
  · simp [toDT, encD, encDs, encTree]
  · have h1 := (deepDs_iff.1 hdeep.1.2) (toDT t) (List.mem_map.2 ⟨t, ht, rfl⟩)
    exact Sl.conv (deep_sl h1.2.2.1) (fun _ => rfl)
set_option maxRecDepth 100000 in
theorem open_u4 {H : Type} {enc : TypeId × Value → H} {W : World} {v : Value} {d : DataW H} {p : List MemPlace} (hval : Value.okWide Tryz.prog W .any 0 28 v) (h : DataW.Trod enc Tryz.prog W 0 (fun _ => true) true 28 v d p) :
    ∃ (x2 : Int) (x3 : Int) (x4 : Int) (x5 : Int), v = .agg #[.int .u8 x2, .int .u8 x3, .int .u8 x4, .int .u8 x5] ∧ (0 ≤ x2 ∧ x2 ≤ 255) ∧ (0 ≤ x3 ∧ x3 ≤ 255) ∧ (0 ≤ x4 ∧ x4 ≤ 255) ∧ (0 ≤ x5 ∧ x5 ≤ 255) := by
  obtain ⟨cs, rfl⟩ := okWide_agg (ss := [.int .u8, .int .u8, .int .u8, .int .u8]) (by kernel_rfl) hval
  obtain ⟨d, hd, hc, hdeep⟩ := open_Trod (s := .row [.int .u8, .int .u8, .int .u8, .int .u8]) (by kernel_rfl) h
  obtain ⟨dsx1, rfl, hdsx1⟩ := has_row hd
  obtain ⟨ex1_0, rx1_0, rfl, qx1_0, hdsx1⟩ := has_cons hdsx1
  obtain ⟨ex1_1, rx1_1, rfl, qx1_1, hdsx1⟩ := has_cons hdsx1
  obtain ⟨ex1_2, rx1_2, rfl, qx1_2, hdsx1⟩ := has_cons hdsx1
  obtain ⟨ex1_3, rx1_3, rfl, qx1_3, hdsx1⟩ := has_cons hdsx1
  obtain rfl := has_nil hdsx1
  obtain ⟨x2, rfl, hx2⟩ := has_int qx1_0
  obtain ⟨x3, rfl, hx3⟩ := has_int qx1_1
  obtain ⟨x4, rfl, hx4⟩ := has_int qx1_2
  obtain ⟨x5, rfl, hx5⟩ := has_int qx1_3
  refine ⟨x2, x3, x4, x5, ?_, wf_u8 hx2, wf_u8 hx3, wf_u8 hx4, wf_u8 hx5⟩
  congr 1
  apply Array.ext'
  simp only [Value.cells] at hc
  rw [hc]
  simp [encD, encDs]
end Go.Proofs.YtecmigildpkigaaGreat.Ser
