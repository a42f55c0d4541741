/- The best segmentations of all beginnings: the walk. Best, Pruned, Potentials. Verify; the least totals with a number of cuts. The least totals with a number of cuts: what the tables hold. Counts. The example of layer 44. The law TopSegmentationIsOptimal. Conditions: none. -/
import Derived.Test.YtecmigildpkigaaSlZ
import Derived.Test.YtecmigildpkigaaTBa
namespace Go.Proofs.Ytecmigildpkigaa
open Go Go.SL Go.RowKit Go.SegP
set_option linter.unusedVariables false
set_option linter.unusedSimpArgs false
theorem tA97ug : aggB Try.prog 97 2 = true := by kernel_rfl
theorem tB97ug : placesB Try.prog 97 = some ([(0, 1), (1, 1)], [Value.int .i64 0, Value.slice none 0 0]) := by kernel_rfl
theorem tF97_0ug : fieldB Try.prog 97 0 0 = true := by kernel_rfl
theorem tL30_1ug : zerosB Try.prog 30 3 1 1 = some [Value.int .i64 0] := by kernel_rfl
theorem tL92_1ug : zerosB Try.prog 92 97 2 1 = some [Value.int .i64 0, Value.slice none 0 0] := by kernel_rfl
theorem tMixug : Try.prog.follows .mixedOrders = true := by kernel_rfl
theorem tN30ug : (Try.prog.info? 30).bind (·.zero) = some (Value.slice none 0 0) := by kernel_rfl
theorem tN92ug : (Try.prog.info? 92).bind (·.zero) = some (Value.slice none 0 0) := by kernel_rfl
theorem tN97ug : (Try.prog.info? 97).bind (·.zero) = some (Value.agg #[Value.int .i64 0, Value.slice none 0 0]) := by kernel_rfl
theorem tO3ug : oneB Try.prog 3 = true := by kernel_rfl
theorem tO30ug : oneB Try.prog 30 = true := by kernel_rfl
theorem tO92ug : oneB Try.prog 92 = true := by kernel_rfl
theorem tP30ug : appB Try.prog 30 3 1 8 = true := by kernel_rfl
theorem tP92ug : appB Try.prog 92 97 2 32 = true := by kernel_rfl
theorem tS30ug : sliceB Try.prog 30 3 1 = true := by kernel_rfl
theorem tS92ug : sliceB Try.prog 92 97 2 = true := by kernel_rfl
theorem tZ30ug : (Try.prog.info? 30).map (·.size) = some 1 := by kernel_rfl
theorem tZ92ug : (Try.prog.info? 92).map (·.size) = some 1 := by kernel_rfl
theorem tZ97ug : (Try.prog.info? 97).map (·.size) = some 2 := by kernel_rfl
theorem stp_step {all : List BV} {pen : Int} {c : Nat → Int} {s : Nat} {x fnd : BstV} (a : Option Addr) (cc : Nat) (hg : all.getD s (0, []) = keyB x) :
    stpB all pen c none s = some (keyB (aftV x s (pen + c s) a cc)) ∧
    (x.tot + pen + c s > fnd.tot → stpB all pen c (some (keyB fnd)) s = some (keyB fnd)) ∧
    (¬ x.tot + pen + c s > fnd.tot → btr (keyB (aftV x s (pen + c s) a cc)) (keyB fnd) = true → stpB all pen c (some (keyB fnd)) s = some (keyB (aftV x s (pen + c s) a cc))) ∧
    (¬ x.tot + pen + c s > fnd.tot → ¬ btr (keyB (aftV x s (pen + c s) a cc)) (keyB fnd) = true → stpB all pen c (some (keyB fnd)) s = some (keyB fnd)) := by
  unfold stpB
  rw [hg]
  refine ⟨rfl, fun h => if_pos h, fun h1 h2 => ?_, fun h1 h2 => ?_⟩
  · exact (if_neg h1).trans (if_pos h2)
  · exact (if_neg h1).trans (if_neg h2)
theorem delFuncR {σ : World} {F : List Res} {a : Option Addr} {c : Nat} {l : List Int} {g : Nat} {gn : Func} {fs cs : List Value} {p : Int → Bool} (lab0 lab : Nat) (hl : l.length ≤ 1099511627776)
    (hg : Try.prog.funcs[g]? = some gn) (hgb : gn.body.isSome = true) (hgn : (gn.name == "runtime.NumGoroutine") = false) (hp : ∀ (X : List Res), ∀ r ∈ l, FnT Try.prog σ (X ++ F) g (fs ++ [.int .i64 r] ++ cs) [] (fun u ρ => u = .bool (p r) ∧ ρ = [])) :
    FnT Try.prog σ F 54 [.slice a l.length c, .func (.func g) fs.toArray cs.toArray] [(lab0, slW 3 SL.encZ 1 (.slice a l.length c) l)] (NewI (l.filter fun x => !p x) lab) :=
  delFuncI lab hl hg hgb hgn hp
def prnP (al : List BstV) (co : List Int) (fnd : BstV) (z : Int) : Bool := decide ((al.getD z.toNat bst0).tot + co.getD z.toNat 0 > fnd.tot)
theorem prn_eq {al : List BstV} {co : List Int} {fnd x : BstV} {s : Nat} {v : Int} (hx : al[s]? = some x) (hv : co[s]? = some v) : prnP al co fnd ((s : Nat) : Int) = decide (x.tot + v > fnd.tot) := by
  unfold prnP
  rw [List.getD_eq_getElem?_getD, List.getD_eq_getElem?_getD, Int.toNat_natCast, hx, hv]; rfl
abbrev ofN (s : Nat) : Int := (s : Int)
set_option maxHeartbeats 4000000 in
set_option maxRecDepth 100000 in
theorem solveS {σ : World} {F : List Res} {a : Option Addr} {c : Nat} {pts : List Int} (pen : Int) (prune : Bool) (lab1 lab2 : Nat) (g : Sl σ F SL.encZ 1 (.slice a pts.length c) pts) (hb : PtsB pts) (hp : 0 ≤ pen ∧ pen ≤ 1000) :
    FnT Try.prog σ F 35 [.slice a pts.length c, .int .i64 pen, .bool prune] [] (fun u ρ => ∃ (al : List BstV) (P : PZ) (a' : Option Addr) (c' : Nat) (asked : Int), al.map keyB = (allN (segC pts) pen prune pts.length).1 ∧ (∀ x ∈ al, InZ P x) ∧ u = .tuple #[.slice a' al.length c', .int .i64 asked] ∧ ρ = [(lab1, slW 97 encBst 2 (.slice a' al.length c') al), (lab2, poolZ P)]) := by
  refine fn_of 94 Try.func35 rfl Try.ntmps35 rfl ?_
  have hle := hb.len
  refine w_seq (w_region (za rfl (za rfl (wl_nil (st_tn (w_seq (w_region (zm rfl (zd rfl (op_neg rfl (by omega)) ?_)))))))))
  refine zd rfl (op_build tB97ug rfl rfl) (wl_op [] rfl rfl rfl rfl (op_buildSlice (enc := encBst) (l := [⟨-pen, none, 0, []⟩]) (lab := 20) tL92_1ug rfl rfl (fun _ => rfl) rfl) ?_)
  rintro _ _ ⟨a20, c20, rfl, rfl⟩
  refine wl_op [] rfl rfl rfl rfl (op_alloc (l := 8) tN92ug) ?_
  rintro _ _ ⟨b8, rfl, rfl⟩
  refine wl_op0 [8] rfl rfl rfl (op_store rfl rfl tZ92ug (by rfl) (by rfl) (by exact Nat.le_of_ble_eq_true rfl)) ?_
  rintro _ _ ⟨rfl, rfl⟩
  refine wl_nil (st_tn (w_seq (w_region (wl_op [] rfl rfl rfl rfl (op_buildSlice (enc := SL.encZ) (l := [(0 : Int)]) (lab := 21) tL30_1ug rfl rfl (fun _ => rfl) rfl) ?_))))
  rintro _ _ ⟨a21, c21, rfl, rfl⟩
  refine za rfl (wl_nil (st_tn (w_seq (w_region (za rfl (wl_nil (st_tn (w_seq (w_seq (w_emp 605 pool_start ?_))))))))))
  refine w_region (za rfl (wl_nil (st_tn (w_block ?_))))
  refine w_loopQ (X := List BstV × Option Addr × Nat × List Int × Option Addr × Nat × Int × Nat × PZ) (fun z => (z.2.2.2.2.2.2.2.1 ≤ pts.length ∧ 0 ≤ z.2.2.2.2.2.2.1 ∧ z.2.2.2.2.2.2.1 ≤ 200 * z.2.2.2.2.2.2.2.1) ∧ z.1.map keyB = (allN (segC pts) pen prune z.2.2.2.2.2.2.2.1).1 ∧ z.2.2.2.1 = (allN (segC pts) pen prune z.2.2.2.2.2.2.2.1).2.map ofN ∧ (∀ x ∈ z.1, InZ z.2.2.2.2.2.2.2.2 x) ∧ InZ z.2.2.2.2.2.2.2.2 bst0) (fun z => [(9, .slice (z.2.2.2.2.1) (z.2.2.2.1).length (z.2.2.2.2.2.1)), (10, .int .i64 (z.2.2.2.2.2.2.1)), (11, .int .i64 (((z.2.2.2.2.2.2.2.1) + 1 : Nat) : Int))]) (fun z => [(20, slW 97 encBst 2 (.slice (z.2.1) (z.1).length (z.2.2.1)) (z.1)), (8, cel b8 [.slice (z.2.1) (z.1).length (z.2.2.1)] 92), (21, slW 3 SL.encZ 1 (.slice (z.2.2.2.2.1) (z.2.2.2.1).length (z.2.2.2.2.2.1)) (z.2.2.2.1)), (605, poolZ (z.2.2.2.2.2.2.2.2))]) (fun z => pts.length - z.2.2.2.2.2.2.2.1) ((_, _, _, _, _, _, 0, 0, [((.slice none 0 0 : Value), ([] : List Int))])) [(0, _), (1, _), (2, _), (8, _)] [] [20, 8, 21, 605] rfl (rfl) (.cons rfl (.cons rfl (.cons rfl (.nil _)))) (.cons rfl (.cons rfl (.cons rfl (.cons rfl (.nil _))))) (by
      try dsimp only
      exact ⟨⟨Nat.zero_le _, Int.le_refl _, by omega⟩, rfl, rfl, fun x hx => by rw [List.mem_singleton] at hx; subst hx; exact List.mem_singleton.2 rfl, List.mem_singleton.2 rfl⟩) ?_
  rintro ⟨al, a_al, c_al, cz, a_cz, c_cz, asked, k, P⟩ ⟨⟨hk, ha1, ha2⟩, hal, hcz, hin, hin0⟩
  refine w_norm2 (by dsimp only [List.cons_append, List.nil_append]) (by dsimp only [List.cons_append, List.nil_append]) ?_
  try dsimp only at hk ha1 ha2 hal hcz hin hin0 ⊢
  refine w_seq (w_seq (w_region (zm rfl (zm rfl (zd rfl (op_lenT rfl tS30ug (Sl.ent (g.app _))) (zd rfl (op_leq rfl rfl) (wl_nil (st_tn (w_cond_d rfl (fun hc25 => ?_) (fun hc25 => ?_))))))))))
  · -- c25.t
    have hcl : cz.length = (allN (segC pts) pen prune k).2.length := by rw [hcz, List.length_map]
    have hcl2 := cand_len (segC pts) pen prune k
    have hall : al.length = k + 1 := by have h9 := congrArg List.length hal; rw [List.length_map, all_len] at h9; exact h9
    have hcol := costs_len pts (k + 1)
    refine w_skip (st_tn (w_seq (w_block (w_seq (w_region (zm rfl (zm rfl (wl_op [] rfl rfl rfl rfl (op_fn Try.func40 rfl rfl rfl (costsS (t := k + 1) 30 (g.app _) hb (by omega))) ?_))))))))
    rintro _ _ ⟨a30, c30, rfl, rfl⟩
    refine wl_op [] rfl rfl rfl rfl (op_alloc (l := 12) tN30ug) ?_
    rintro _ _ ⟨b12, rfl, rfl⟩
    refine wl_op0 [12] rfl rfl rfl (op_store rfl rfl tZ30ug (by rfl) (by rfl) (by exact Nat.le_of_ble_eq_true rfl)) ?_
    rintro _ _ ⟨rfl, rfl⟩
    refine wl_nil (st_tn (w_seq (w_region (wl_op [] rfl rfl rfl rfl (op_alloc (l := 13) tN97ug) ?_))))
    rintro _ _ ⟨b13, rfl, rfl⟩
    refine wl_nil (st_tn (w_seq (w_seq (w_wk 13 (cel b13 (encBst bst0) 97) rfl (fun _ h => h) ?_))))
    refine w_region (zm rfl (zd rfl (op_lenT rfl tS30ug (Sl.ent (Sl.lab 21 rfl (by unfold maxLen; omega)))) ?_))
    refine zm rfl (wl_nil (st_tn (w_block ?_)))
    refine w_loopQ (X := Int × Nat × BstV × PZ) (fun z => (z.2.1 ≤ cz.length ∧ 0 ≤ z.1 ∧ z.1 ≤ 200 * k + z.2.1) ∧ pikB (allN (segC pts) pen prune k).1 pen (fun s => segC pts s (k + 1)) ((allN (segC pts) pen prune k).2.take z.2.1) = (if z.2.1 = 0 then none else some (keyB z.2.2.1)) ∧ (InZ z.2.2.2 z.2.2.1 ∧ z.2.2.1.cuts.length ≤ 200 ∧ -1000000000 ≤ z.2.2.1.tot ∧ z.2.2.1.tot ≤ 1000000000) ∧ (∀ x ∈ al, InZ z.2.2.2 x) ∧ InZ z.2.2.2 bst0) (fun z => [(10, .int .i64 (z.1)), (33, .int .i64 (z.2.1))]) (fun z => [(13, cel b13 (encBst (z.2.2.1)) 97), (605, poolZ (z.2.2.2))]) (fun z => cz.length - z.2.1) ((asked, 0, bst0, P)) [(0, _), (1, _), (2, _), (8, _), (9, _), (11, _), (12, _), (13, _), (31, _), (32, _)] [(8, _), (20, _), (21, _), (12, _), (30, _)] [13, 605, 8, 20, 21, 12, 30] rfl (rfl) (.cons rfl (.cons rfl (.nil _))) (.cons rfl (.cons rfl (.cons rfl (.cons rfl (.cons rfl (.cons rfl (.cons rfl (.cons rfl (.cons rfl (.cons rfl (.nil _))))))))))) (by
        try dsimp only
        exact ⟨⟨Nat.zero_le _, ha1, by omega⟩, rfl, ⟨hin0, by decide, by decide, by decide⟩, hin, hin0⟩) ?_
    rintro ⟨asked2, j, fnd, P2⟩ ⟨⟨hj, hb1, hb2⟩, hpk, hfn, hin2, hin0'⟩
    refine w_norm2 (by dsimp only [List.cons_append, List.nil_append]) (by dsimp only [List.cons_append, List.nil_append]) ?_
    try dsimp only at hj hb1 hb2 hpk hfn hin2 hin0 ⊢
    refine w_seq (w_region (zd rfl (op_lss rfl rfl) (wl_nil (st_tn (w_seq (w_cond_d rfl (fun hc34 => ?_) (fun hc34 => ?_)))))))
    · -- c34.t
      refine Exists.elim (getE (l := (allN (segC pts) pen prune k).2) (i := j) (by omega)) (fun s hs => ?_)
      have hsk := cand_sub (segC pts) pen prune k s (List.mem_of_getElem? hs)
      have hczj : cz[j]? = some ((s : Nat) : Int) := by rw [hcz, List.getElem?_map, hs]; rfl
      refine Exists.elim (al_get hp (segC_pos pts hb) (by omega) hal hsk) (fun x hxx => ?_)
      have hx := hxx.1
      have hxk := hxx.2.1
      have hxb := hxx.2.2.1
      have hxc := hxx.2.2.2
      have hco := costs_get pts (show s < k + 1 by omega)
      have hvb := segC_pos pts hb s (k + 1)
      have hgs : (allN (segC pts) pen prune k).1.getD s (0, []) = keyB x := by rw [all_bst (segC pts) pen prune hsk, hxk]
      have hxin := hin2 x (List.mem_of_getElem? hx)
      have hsn : pikB (allN (segC pts) pen prune k).1 pen (fun s => segC pts s (k + 1)) ((allN (segC pts) pen prune k).2.take (j + 1)) = stpB (allN (segC pts) pen prune k).1 pen (fun s => segC pts s (k + 1)) (pikB (allN (segC pts) pen prune k).1 pen (fun s => segC pts s (k + 1)) ((allN (segC pts) pen prune k).2.take j)) s := by rw [take_snocS hs, pik_snoc]
      have hst := fun (a : Option Addr) (cc : Nat) => stp_step (pen := pen) (c := fun s => segC pts s (k + 1)) (fnd := fnd) a cc hgs
      refine w_skip (st_tn (w_seq (w_block (w_seq (w_region (zm rfl (zd rfl (op_idx rfl rfl tS30ug (Sl.ent (Sl.lab 21 rfl (by unfold maxLen; omega))) (by omega)) ?_)))))))
      refine zd rfl (op_ldx rfl tO3ug (Sl.lab 21 rfl (by unfold maxLen; omega)) hczj (by rfl)) ?_
      refine za rfl (za rfl (wl_nil (st_tn (w_seq (w_region (zm rfl (zd rfl (op_add' rfl rfl (by omega)) ?_)))))))
      refine za rfl (wl_nil (st_tn (w_seq (w_seq (w_cutL [(58, .bool (decide (0 < j ∧ x.tot + pen + segC pts s (k + 1) > fnd.tot)))] [0, 1, 2, 8, 9, 10, 11, 12, 13, 14, 15, 31, 32, 33] [13, 605, 8, 20, 21, 12, 30] rfl (fun K' hK => ?_) ?_)))))
      · -- cut r13
        by_cases hj0 : (j : Int) > 0
        · -- hj0 True
          refine w_drawW (fun β => [⟨40, [], [], [], noW (_), false, [], []⟩, ⟨41, [0], [], [], noW (_), false, [], []⟩, ⟨42, [1], [], [], noW (_), false, [], []⟩, ⟨43, [], [], [], noW (_), false, [], []⟩, ⟨44, [], [], [], noW (_), false, [], []⟩, ⟨45, [3, 4], [], [], noW (_), false, [], []⟩, ⟨46, [5], [], [], noW (_), false, [], []⟩, ⟨47, [6], [], [], noW (_), false, [], []⟩, ⟨48, [], [], [], noW (_), false, [], []⟩, ⟨49, [7, 8], [], [], noW (_), false, [], []⟩, ⟨50, [], [], [], noW (_), false, [], []⟩, ⟨51, [], [], [], noW (_), false, [], []⟩, ⟨52, [10, 11], [], [], noW (_), false, [], []⟩, ⟨53, [12], [], [], noW (_), false, [], []⟩, ⟨54, [9, 13], [], [], noW (_), false, [], []⟩, ⟨55, [], [], [], noW (_), false, [], []⟩, ⟨56, [15], [], [], noW (_), false, [], []⟩, ⟨57, [14, 16], [], [], noW (_), false, [], []⟩, ⟨58, [2, 17], [], [], noW (_), false, [], []⟩]) [] [14, 8, 15, 1, 12, 13] [⟨40, [], [], false, [], []⟩, ⟨41, [0], [], false, [], []⟩, ⟨42, [1], [], false, [], []⟩, ⟨43, [], [], false, [], []⟩, ⟨44, [], [], false, [], []⟩, ⟨45, [3, 4], [], false, [], []⟩, ⟨46, [5], [], false, [], []⟩, ⟨47, [6], [], false, [], []⟩, ⟨48, [], [], false, [], []⟩, ⟨49, [7, 8], [], false, [], []⟩, ⟨50, [], [], false, [], []⟩, ⟨51, [], [], false, [], []⟩, ⟨52, [10, 11], [], false, [], []⟩, ⟨53, [12], [], false, [], []⟩, ⟨54, [9, 13], [], false, [], []⟩, ⟨55, [], [], false, [], []⟩, ⟨56, [15], [], false, [], []⟩, ⟨57, [14, 16], [], false, [], []⟩, ⟨58, [2, 17], [], false, [], []⟩] [[], [], [], [], [], [], [], [], [], [], [], [], [], [], [], [], [], [], []] [[], [], [], [], [], [], [], [], [], [], [], [], [], [], [], [], [], [], []] tMixug (fun _ => by rfl) (fun _ => by rfl) (by kernel_rfl) (by kernel_rfl) (by rfl) (by rfl)
              (fun β => ⟨.p rfl (by intro X; exact op_move rfl),
              ⟨.p rfl (by intro X; rintro _ _ ⟨rfl, rfl⟩; exact op_gtr rfl rfl),
              ⟨.p rfl (by intro X; rintro _ _ ⟨rfl, rfl⟩; exact op_move rfl),
              ⟨.w rfl rfl rfl (by rintro _ _ ⟨rfl, rfl⟩; first | rfl | (exact congrArg Value.bool (decide_eq_true (by omega))) | (exact congrArg Value.bool (decide_eq_false (by omega))) | (simp; done) | (simp; omega) | (simp [*]; done)) (by intro X; exact op_load1 rfl tO92ug (Ent.lab (l := 8) rfl (says_cel 0))),
              ⟨.w rfl rfl rfl (by rintro _ _ ⟨rfl, rfl⟩; first | rfl | (exact congrArg Value.bool (decide_eq_true (by omega))) | (exact congrArg Value.bool (decide_eq_false (by omega))) | (simp; done) | (simp; omega) | (simp [*]; done)) (by intro X; exact op_move rfl),
              ⟨.w rfl rfl rfl (by rintro _ _ ⟨rfl, rfl⟩; first | rfl | (exact congrArg Value.bool (decide_eq_true (by omega))) | (exact congrArg Value.bool (decide_eq_false (by omega))) | (simp; done) | (simp; omega) | (simp [*]; done)) (by intro X; rintro _ _ ⟨rfl, rfl⟩ _ _ ⟨rfl, rfl⟩; exact op_idx rfl rfl tS92ug (Sl.ent (Sl.lab 20 rfl (by unfold maxLen; omega))) (by omega)),
              ⟨.w rfl rfl rfl (by rintro _ _ ⟨rfl, rfl⟩; first | rfl | (exact congrArg Value.bool (decide_eq_true (by omega))) | (exact congrArg Value.bool (decide_eq_false (by omega))) | (simp; done) | (simp; omega) | (simp [*]; done)) (by intro X; rintro _ _ ⟨rfl, rfl⟩; exact op_fieldAddr (off := 0) rfl tF97_0ug),
              ⟨.w rfl rfl rfl (by rintro _ _ ⟨rfl, rfl⟩; first | rfl | (exact congrArg Value.bool (decide_eq_true (by omega))) | (exact congrArg Value.bool (decide_eq_false (by omega))) | (simp; done) | (simp; omega) | (simp [*]; done)) (by intro X; rintro _ _ ⟨rfl, rfl⟩; exact op_ldxf rfl tO3ug (Sl.lab 20 rfl (by unfold maxLen; omega)) (by assumption) (by rfl)),
              ⟨.w rfl rfl rfl (by rintro _ _ ⟨rfl, rfl⟩; first | rfl | (exact congrArg Value.bool (decide_eq_true (by omega))) | (exact congrArg Value.bool (decide_eq_false (by omega))) | (simp; done) | (simp; omega) | (simp [*]; done)) (by intro X; exact op_move rfl),
              ⟨.w rfl rfl rfl (by rintro _ _ ⟨rfl, rfl⟩; first | rfl | (exact congrArg Value.bool (decide_eq_true (by omega))) | (exact congrArg Value.bool (decide_eq_false (by omega))) | (simp; done) | (simp; omega) | (simp [*]; done)) (by intro X; rintro _ _ ⟨rfl, rfl⟩ _ _ ⟨rfl, rfl⟩; exact op_add' rfl rfl (by omega)),
              ⟨.w rfl rfl rfl (by rintro _ _ ⟨rfl, rfl⟩; first | rfl | (exact congrArg Value.bool (decide_eq_true (by omega))) | (exact congrArg Value.bool (decide_eq_false (by omega))) | (simp; done) | (simp; omega) | (simp [*]; done)) (by intro X; exact op_load1 rfl tO30ug (Ent.lab (l := 12) rfl (says_cel 0))),
              ⟨.w rfl rfl rfl (by rintro _ _ ⟨rfl, rfl⟩; first | rfl | (exact congrArg Value.bool (decide_eq_true (by omega))) | (exact congrArg Value.bool (decide_eq_false (by omega))) | (simp; done) | (simp; omega) | (simp [*]; done)) (by intro X; exact op_move rfl),
              ⟨.w rfl rfl rfl (by rintro _ _ ⟨rfl, rfl⟩; first | rfl | (exact congrArg Value.bool (decide_eq_true (by omega))) | (exact congrArg Value.bool (decide_eq_false (by omega))) | (simp; done) | (simp; omega) | (simp [*]; done)) (by intro X; rintro _ _ ⟨rfl, rfl⟩ _ _ ⟨rfl, rfl⟩; exact op_idx rfl rfl tS30ug (Sl.ent (Sl.lab 30 rfl (by unfold maxLen; omega))) (by omega)),
              ⟨.w rfl rfl rfl (by rintro _ _ ⟨rfl, rfl⟩; first | rfl | (exact congrArg Value.bool (decide_eq_true (by omega))) | (exact congrArg Value.bool (decide_eq_false (by omega))) | (simp; done) | (simp; omega) | (simp [*]; done)) (by intro X; rintro _ _ ⟨rfl, rfl⟩; exact op_ldx rfl tO3ug (Sl.lab 30 rfl (by unfold maxLen; omega)) (by assumption) (by rfl)),
              ⟨.w rfl rfl rfl (by rintro _ _ ⟨rfl, rfl⟩; first | rfl | (exact congrArg Value.bool (decide_eq_true (by omega))) | (exact congrArg Value.bool (decide_eq_false (by omega))) | (simp; done) | (simp; omega) | (simp [*]; done)) (by intro X; rintro _ _ ⟨rfl, rfl⟩ _ _ ⟨rfl, rfl⟩; exact op_add' rfl rfl (by omega)),
              ⟨.w rfl rfl rfl (by rintro _ _ ⟨rfl, rfl⟩; first | rfl | (exact congrArg Value.bool (decide_eq_true (by omega))) | (exact congrArg Value.bool (decide_eq_false (by omega))) | (simp; done) | (simp; omega) | (simp [*]; done)) (by intro X; exact op_fieldAddr (off := 0) rfl tF97_0ug),
              ⟨.w rfl rfl rfl (by rintro _ _ ⟨rfl, rfl⟩; first | rfl | (exact congrArg Value.bool (decide_eq_true (by omega))) | (exact congrArg Value.bool (decide_eq_false (by omega))) | (simp; done) | (simp; omega) | (simp [*]; done)) (by intro X; rintro _ _ ⟨rfl, rfl⟩; exact op_load1 rfl tO3ug (Ent.lab (l := 13) rfl (says_cel 0))),
              ⟨.w rfl rfl rfl (by rintro _ _ ⟨rfl, rfl⟩; first | rfl | (exact congrArg Value.bool (decide_eq_true (by omega))) | (exact congrArg Value.bool (decide_eq_false (by omega))) | (simp; done) | (simp; omega) | (simp [*]; done)) (by intro X; rintro _ _ ⟨rfl, rfl⟩ _ _ ⟨rfl, rfl⟩; exact op_gtr rfl rfl),
              ⟨.p rfl (by intro X; rintro _ _ ⟨rfl, rfl⟩ _ _ ⟨rfl, rfl⟩; exact op_pick_t (by first | rfl | (show some (Value.bool (decide _)) = _; rw [decide_eq_true (by omega)]) | (show some (Value.bool (decide _)) = _; rw [decide_eq_false (by omega)]) | (simp [ev, lk]; done) | (simp [ev, lk]; omega) | (simp [ev, lk, *]; done)) rfl),
              trivial⟩⟩⟩⟩⟩⟩⟩⟩⟩⟩⟩⟩⟩⟩⟩⟩⟩⟩⟩)
              (fun β β' => ⟨fun _ => by rfl, ⟨fun _ => by rfl, ⟨fun _ => by rfl, ⟨fun _ => by rfl, ⟨fun _ => by rfl, ⟨fun _ => by rfl, ⟨fun _ => by rfl, ⟨fun _ => by rfl, ⟨fun _ => by rfl, ⟨fun _ => by rfl, ⟨fun _ => by rfl, ⟨fun _ => by rfl, ⟨fun _ => by rfl, ⟨fun _ => by rfl, ⟨fun _ => by rfl, ⟨fun _ => by rfl, ⟨fun _ => by rfl, ⟨fun _ => by rfl, ⟨fun _ => by rfl, trivial⟩⟩⟩⟩⟩⟩⟩⟩⟩⟩⟩⟩⟩⟩⟩⟩⟩⟩⟩) ?_
          intro β
          rintro _ _ ⟨rfl, rfl⟩ _ _ ⟨rfl, rfl⟩ _ _ ⟨rfl, rfl⟩ _ _ ⟨rfl, rfl⟩ _ _ ⟨rfl, rfl⟩ _ _ ⟨rfl, rfl⟩ _ _ ⟨rfl, rfl⟩ _ _ ⟨rfl, rfl⟩ _ _ ⟨rfl, rfl⟩ _ _ ⟨rfl, rfl⟩ _ _ ⟨rfl, rfl⟩ _ _ ⟨rfl, rfl⟩ _ _ ⟨rfl, rfl⟩ _ _ ⟨rfl, rfl⟩ _ _ ⟨rfl, rfl⟩ _ _ ⟨rfl, rfl⟩ _ _ ⟨rfl, rfl⟩ _ _ ⟨rfl, rfl⟩ _ _ ⟨rfl, rfl⟩
          refine wl_norm (e' := [(0, _), (1, _), (2, _), (8, _), (9, _), (10, _), (11, _), (12, _), (13, _), (14, _), (15, _), (31, _), (32, _), (33, _), (58, _)]) (.cons rfl (.cons rfl (.cons rfl (.cons rfl (.cons rfl (.cons rfl (.cons rfl (.cons rfl (.cons rfl (.cons rfl (.cons rfl (.cons rfl (.cons rfl (.cons rfl (.cons rfl (.nil _)))))))))))))))) (by dsimp only [cond_false, cond_true, List.nil_append, List.cons_append]) ?_
          refine wl_nil (st_tn ?_)
          exact cut_done1 [13, 605, 8, 20, 21, 12, 30] hK rfl (by first | (rw [decide_eq_decide]; omega) | (symm; rw [decide_eq_false_iff_not]; omega) | (symm; rw [decide_eq_true_iff]; omega) | (simp; done) | (simp; omega) | (simp [*]; done) | (simp [*]; omega)) (by rfl) rfl rfl
        · -- hj0 False
          refine w_drawW (fun β => [⟨40, [], [], [], noW (_), false, [], []⟩, ⟨41, [0], [], [], noW (_), false, [], []⟩, ⟨42, [1], [], [], noW (_), false, [], []⟩, ⟨43, [], [], [], noW (Det undef), false, [], []⟩, ⟨44, [], [], [], noW (Det undef), false, [], []⟩, ⟨45, [], [], [], noW (Det undef), false, [], []⟩, ⟨46, [], [], [], noW (Det undef), false, [], []⟩, ⟨47, [], [], [], noW (Det undef), false, [], []⟩, ⟨48, [], [], [], noW (Det undef), false, [], []⟩, ⟨49, [], [], [], noW (Det undef), false, [], []⟩, ⟨50, [], [], [], noW (Det undef), false, [], []⟩, ⟨51, [], [], [], noW (Det undef), false, [], []⟩, ⟨52, [], [], [], noW (Det undef), false, [], []⟩, ⟨53, [], [], [], noW (Det undef), false, [], []⟩, ⟨54, [], [], [], noW (Det undef), false, [], []⟩, ⟨55, [], [], [], noW (Det undef), false, [], []⟩, ⟨56, [], [], [], noW (Det undef), false, [], []⟩, ⟨57, [], [], [], noW (Det undef), false, [], []⟩, ⟨58, [2, 17], [], [], noW (_), false, [], []⟩]) [] [14, 8, 15, 1, 12, 13] [⟨40, [], [], false, [], []⟩, ⟨41, [0], [], false, [], []⟩, ⟨42, [1], [], false, [], []⟩, ⟨43, [], [], false, [], []⟩, ⟨44, [], [], false, [], []⟩, ⟨45, [], [], false, [], []⟩, ⟨46, [], [], false, [], []⟩, ⟨47, [], [], false, [], []⟩, ⟨48, [], [], false, [], []⟩, ⟨49, [], [], false, [], []⟩, ⟨50, [], [], false, [], []⟩, ⟨51, [], [], false, [], []⟩, ⟨52, [], [], false, [], []⟩, ⟨53, [], [], false, [], []⟩, ⟨54, [], [], false, [], []⟩, ⟨55, [], [], false, [], []⟩, ⟨56, [], [], false, [], []⟩, ⟨57, [], [], false, [], []⟩, ⟨58, [2, 17], [], false, [], []⟩] [[], [], [], [], [], [], [], [], [], [], [], [], [], [], [], [], [], [], []] [[], [], [], [], [], [], [], [], [], [], [], [], [], [], [], [], [], [], []] tMixug (fun _ => by rfl) (fun _ => by rfl) (by kernel_rfl) (by kernel_rfl) (by rfl) (by rfl)
              (fun β => ⟨.p rfl (by intro X; exact op_move rfl),
              ⟨.p rfl (by intro X; rintro _ _ ⟨rfl, rfl⟩; exact op_gtr rfl rfl),
              ⟨.p rfl (by intro X; rintro _ _ ⟨rfl, rfl⟩; exact op_move rfl),
              ⟨.u rfl rfl rfl (by rintro _ _ ⟨rfl, rfl⟩; exact congrArg (offB true) (by first | rfl | (exact congrArg Value.bool (decide_eq_true (by omega))) | (exact congrArg Value.bool (decide_eq_false (by omega))) | (simp; done) | (simp; omega) | (simp [*]; done) : _ = Value.bool false)) ⟨rfl, rfl⟩ rfl rfl,
              ⟨.u rfl rfl rfl (by rintro _ _ ⟨rfl, rfl⟩; exact congrArg (offB true) (by first | rfl | (exact congrArg Value.bool (decide_eq_true (by omega))) | (exact congrArg Value.bool (decide_eq_false (by omega))) | (simp; done) | (simp; omega) | (simp [*]; done) : _ = Value.bool false)) ⟨rfl, rfl⟩ rfl rfl,
              ⟨.u rfl rfl rfl (by rintro _ _ ⟨rfl, rfl⟩; exact congrArg (offB true) (by first | rfl | (exact congrArg Value.bool (decide_eq_true (by omega))) | (exact congrArg Value.bool (decide_eq_false (by omega))) | (simp; done) | (simp; omega) | (simp [*]; done) : _ = Value.bool false)) ⟨rfl, rfl⟩ rfl rfl,
              ⟨.u rfl rfl rfl (by rintro _ _ ⟨rfl, rfl⟩; exact congrArg (offB true) (by first | rfl | (exact congrArg Value.bool (decide_eq_true (by omega))) | (exact congrArg Value.bool (decide_eq_false (by omega))) | (simp; done) | (simp; omega) | (simp [*]; done) : _ = Value.bool false)) ⟨rfl, rfl⟩ rfl rfl,
              ⟨.u rfl rfl rfl (by rintro _ _ ⟨rfl, rfl⟩; exact congrArg (offB true) (by first | rfl | (exact congrArg Value.bool (decide_eq_true (by omega))) | (exact congrArg Value.bool (decide_eq_false (by omega))) | (simp; done) | (simp; omega) | (simp [*]; done) : _ = Value.bool false)) ⟨rfl, rfl⟩ rfl rfl,
              ⟨.u rfl rfl rfl (by rintro _ _ ⟨rfl, rfl⟩; exact congrArg (offB true) (by first | rfl | (exact congrArg Value.bool (decide_eq_true (by omega))) | (exact congrArg Value.bool (decide_eq_false (by omega))) | (simp; done) | (simp; omega) | (simp [*]; done) : _ = Value.bool false)) ⟨rfl, rfl⟩ rfl rfl,
              ⟨.u rfl rfl rfl (by rintro _ _ ⟨rfl, rfl⟩; exact congrArg (offB true) (by first | rfl | (exact congrArg Value.bool (decide_eq_true (by omega))) | (exact congrArg Value.bool (decide_eq_false (by omega))) | (simp; done) | (simp; omega) | (simp [*]; done) : _ = Value.bool false)) ⟨rfl, rfl⟩ rfl rfl,
              ⟨.u rfl rfl rfl (by rintro _ _ ⟨rfl, rfl⟩; exact congrArg (offB true) (by first | rfl | (exact congrArg Value.bool (decide_eq_true (by omega))) | (exact congrArg Value.bool (decide_eq_false (by omega))) | (simp; done) | (simp; omega) | (simp [*]; done) : _ = Value.bool false)) ⟨rfl, rfl⟩ rfl rfl,
              ⟨.u rfl rfl rfl (by rintro _ _ ⟨rfl, rfl⟩; exact congrArg (offB true) (by first | rfl | (exact congrArg Value.bool (decide_eq_true (by omega))) | (exact congrArg Value.bool (decide_eq_false (by omega))) | (simp; done) | (simp; omega) | (simp [*]; done) : _ = Value.bool false)) ⟨rfl, rfl⟩ rfl rfl,
              ⟨.u rfl rfl rfl (by rintro _ _ ⟨rfl, rfl⟩; exact congrArg (offB true) (by first | rfl | (exact congrArg Value.bool (decide_eq_true (by omega))) | (exact congrArg Value.bool (decide_eq_false (by omega))) | (simp; done) | (simp; omega) | (simp [*]; done) : _ = Value.bool false)) ⟨rfl, rfl⟩ rfl rfl,
              ⟨.u rfl rfl rfl (by rintro _ _ ⟨rfl, rfl⟩; exact congrArg (offB true) (by first | rfl | (exact congrArg Value.bool (decide_eq_true (by omega))) | (exact congrArg Value.bool (decide_eq_false (by omega))) | (simp; done) | (simp; omega) | (simp [*]; done) : _ = Value.bool false)) ⟨rfl, rfl⟩ rfl rfl,
              ⟨.u rfl rfl rfl (by rintro _ _ ⟨rfl, rfl⟩; exact congrArg (offB true) (by first | rfl | (exact congrArg Value.bool (decide_eq_true (by omega))) | (exact congrArg Value.bool (decide_eq_false (by omega))) | (simp; done) | (simp; omega) | (simp [*]; done) : _ = Value.bool false)) ⟨rfl, rfl⟩ rfl rfl,
              ⟨.u rfl rfl rfl (by rintro _ _ ⟨rfl, rfl⟩; exact congrArg (offB true) (by first | rfl | (exact congrArg Value.bool (decide_eq_true (by omega))) | (exact congrArg Value.bool (decide_eq_false (by omega))) | (simp; done) | (simp; omega) | (simp [*]; done) : _ = Value.bool false)) ⟨rfl, rfl⟩ rfl rfl,
              ⟨.u rfl rfl rfl (by rintro _ _ ⟨rfl, rfl⟩; exact congrArg (offB true) (by first | rfl | (exact congrArg Value.bool (decide_eq_true (by omega))) | (exact congrArg Value.bool (decide_eq_false (by omega))) | (simp; done) | (simp; omega) | (simp [*]; done) : _ = Value.bool false)) ⟨rfl, rfl⟩ rfl rfl,
              ⟨.u rfl rfl rfl (by rintro _ _ ⟨rfl, rfl⟩; exact congrArg (offB true) (by first | rfl | (exact congrArg Value.bool (decide_eq_true (by omega))) | (exact congrArg Value.bool (decide_eq_false (by omega))) | (simp; done) | (simp; omega) | (simp [*]; done) : _ = Value.bool false)) ⟨rfl, rfl⟩ rfl rfl,
              ⟨.p rfl (by intro X; rintro _ _ ⟨rfl, rfl⟩ _ _ ⟨rfl, rfl⟩; exact op_pick_f (by first | rfl | (show some (Value.bool (decide _)) = _; rw [decide_eq_true (by omega)]) | (show some (Value.bool (decide _)) = _; rw [decide_eq_false (by omega)]) | (simp [ev, lk]; done) | (simp [ev, lk]; omega) | (simp [ev, lk, *]; done)) rfl),
              trivial⟩⟩⟩⟩⟩⟩⟩⟩⟩⟩⟩⟩⟩⟩⟩⟩⟩⟩⟩)
              (fun β β' => ⟨fun _ => by rfl, ⟨fun _ => by rfl, ⟨fun _ => by rfl, ⟨fun _ => by rfl, ⟨fun _ => by rfl, ⟨fun _ => by rfl, ⟨fun _ => by rfl, ⟨fun _ => by rfl, ⟨fun _ => by rfl, ⟨fun _ => by rfl, ⟨fun _ => by rfl, ⟨fun _ => by rfl, ⟨fun _ => by rfl, ⟨fun _ => by rfl, ⟨fun _ => by rfl, ⟨fun _ => by rfl, ⟨fun _ => by rfl, ⟨fun _ => by rfl, ⟨fun _ => by rfl, trivial⟩⟩⟩⟩⟩⟩⟩⟩⟩⟩⟩⟩⟩⟩⟩⟩⟩⟩⟩) ?_
          intro β
          rintro _ _ ⟨rfl, rfl⟩ _ _ ⟨rfl, rfl⟩ _ _ ⟨rfl, rfl⟩ _ _ ⟨rfl, rfl⟩ _ _ ⟨rfl, rfl⟩ _ _ ⟨rfl, rfl⟩ _ _ ⟨rfl, rfl⟩ _ _ ⟨rfl, rfl⟩ _ _ ⟨rfl, rfl⟩ _ _ ⟨rfl, rfl⟩ _ _ ⟨rfl, rfl⟩ _ _ ⟨rfl, rfl⟩ _ _ ⟨rfl, rfl⟩ _ _ ⟨rfl, rfl⟩ _ _ ⟨rfl, rfl⟩ _ _ ⟨rfl, rfl⟩ _ _ ⟨rfl, rfl⟩ _ _ ⟨rfl, rfl⟩ _ _ ⟨rfl, rfl⟩
          refine wl_norm (e' := [(0, _), (1, _), (2, _), (8, _), (9, _), (10, _), (11, _), (12, _), (13, _), (14, _), (15, _), (31, _), (32, _), (33, _), (58, _)]) (.cons rfl (.cons rfl (.cons rfl (.cons rfl (.cons rfl (.cons rfl (.cons rfl (.cons rfl (.cons rfl (.cons rfl (.cons rfl (.cons rfl (.cons rfl (.cons rfl (.cons rfl (.nil _)))))))))))))))) (by dsimp only [cond_false, cond_true, List.nil_append, List.cons_append]) ?_
          refine wl_nil (st_tn ?_)
          exact cut_done1 [13, 605, 8, 20, 21, 12, 30] hK rfl (by first | (rw [decide_eq_decide]; omega) | (symm; rw [decide_eq_false_iff_not]; omega) | (symm; rw [decide_eq_true_iff]; omega) | (simp; done) | (simp; omega) | (simp [*]; done) | (simp [*]; omega)) (by rfl) rfl rfl
      · -- behind r13
        show W _ _ _ _ _ [(58, _), (0, _), (1, _), (2, _), (8, _), (9, _), (10, _), (11, _), (12, _), (13, _), (14, _), (15, _), (31, _), (32, _), (33, _)] [(13, _), (605, _), (8, _), (20, _), (21, _), (12, _), (30, _)] _
        refine w_cond_d rfl (fun hc58 => ?_) (fun hc58 => ?_)
        · -- c58.t
          refine w_exit (st_te ?_)
          refine st_be (st_tn (w_region (zd rfl (op_add' rfl rfl (by omega)) ?_)))
          refine zm rfl (wl_nil ?_)
          refine st_roundQ (x := (asked2, j, fnd, P2)) ((asked2 + 1, j + 1, fnd, P2)) [13, 605, 8, 20, 21, 12, 30] rfl (rfl) (.cons rfl (.cons rfl (.nil _))) (.cons rfl (.cons rfl (.cons rfl (.cons rfl (.cons rfl (.cons rfl (.cons rfl (.cons rfl (.cons rfl (.cons rfl (.nil _))))))))))) (by
              try dsimp only
              exact ⟨⟨by omega, by omega, by omega⟩, by rw [hsn, hpk, if_neg (by omega), if_neg (by omega)]; exact (hst none 0).2.1 hc58.2, hfn, hin2, hin0'⟩) (by
              try dsimp only
              omega)
        · -- c58.f
          refine w_skip (st_tn (w_seq ?_))
          refine w_drawW (fun β => [⟨59, [], [], [], noW (_), false, [], []⟩, ⟨60, [], [], [], noW (_), false, [], []⟩, ⟨61, [0, 1], [], [], noW (_), false, [], []⟩, ⟨62, [2], [], [], noW (_), false, [], []⟩, ⟨63, [], [], [], noW (_), false, [], []⟩, ⟨64, [], [], [], noW (_), false, [], []⟩, ⟨65, [], [], [], noW (_), false, [], []⟩, ⟨66, [], [], [], noW (_), false, [], []⟩, ⟨67, [6, 7], [], [], noW (_), false, [], []⟩, ⟨68, [8], [], [], noW (_), false, [], []⟩, ⟨69, [5, 9], [], [], noW (_), false, [], []⟩, ⟨70, [3, 4, 10], [], [], fun w => AndW _ (DetW _ _), false, [], []⟩, ⟨16, [], [], [], fun w => DetW _ _, false, [], []⟩]) [] [8, 15, 1, 12] [⟨59, [], [], false, [], []⟩, ⟨60, [], [], false, [], []⟩, ⟨61, [0, 1], [], false, [], []⟩, ⟨62, [2], [], false, [], []⟩, ⟨63, [], [], false, [], []⟩, ⟨64, [], [], false, [], []⟩, ⟨65, [], [], false, [], []⟩, ⟨66, [], [], false, [], []⟩, ⟨67, [6, 7], [], false, [], []⟩, ⟨68, [8], [], false, [], []⟩, ⟨69, [5, 9], [], false, [], []⟩, ⟨70, [3, 4, 10], [], false, [], []⟩, ⟨16, [], [], false, [], []⟩] [[], [], [], [], [], [], [], [], [], [], [], [], []] [[], [], [], [], [], [], [], [], [], [], [], [], []] tMixug (fun _ => by rfl) (fun _ => by rfl) (by kernel_rfl) (by kernel_rfl) (by rfl) (by rfl)
              (fun β => ⟨.p rfl (by intro X; exact op_load1 rfl tO92ug (Ent.lab (l := 8) rfl (says_cel 0))),
              ⟨.p rfl (by intro X; exact op_move rfl),
              ⟨.p rfl (by intro X; rintro _ _ ⟨rfl, rfl⟩ _ _ ⟨rfl, rfl⟩; exact op_idx rfl rfl tS92ug (Sl.ent (Sl.lab 20 rfl (by unfold maxLen; omega))) (by omega)),
              ⟨.p rfl (by intro X; rintro _ _ ⟨rfl, rfl⟩; exact op_ldxA rfl tA97ug (Sl.lab 20 rfl (by unfold maxLen; omega)) (by assumption) (by rfl) (by rfl)),
              ⟨.p rfl (by intro X; exact op_move rfl),
              ⟨.p rfl (by intro X; exact op_move rfl),
              ⟨.p rfl (by intro X; exact op_load1 rfl tO30ug (Ent.lab (l := 12) rfl (says_cel 0))),
              ⟨.p rfl (by intro X; exact op_move rfl),
              ⟨.p rfl (by intro X; rintro _ _ ⟨rfl, rfl⟩ _ _ ⟨rfl, rfl⟩; exact op_idx rfl rfl tS30ug (Sl.ent (Sl.lab 30 rfl (by unfold maxLen; omega))) (by omega)),
              ⟨.p rfl (by intro X; rintro _ _ ⟨rfl, rfl⟩; exact op_ldx rfl tO3ug (Sl.lab 30 rfl (by unfold maxLen; omega)) (by assumption) (by rfl)),
              ⟨.p rfl (by intro X; rintro _ _ ⟨rfl, rfl⟩ _ _ ⟨rfl, rfl⟩; exact op_add' rfl rfl (by omega)),
              ⟨.px rfl (by intro X; rintro _ _ ⟨rfl, rfl⟩ _ _ ⟨rfl, rfl⟩ _ _ ⟨rfl, rfl⟩; refine OpT.mono (op_fn Try.func41 rfl rfl rfl (afterS (x := x) (s := s) (pen + segC pts s (k + 1)) 70 (hxin.sl 605 rfl (by omega)) (by omega) (by omega) (by omega))) ?_; rintro _ _ ⟨a70, c70, h70, rfl, rfl⟩; obtain ⟨w, rfl, rfl⟩ : ∃ w : Wt, w.a = a70 ∧ w.c = c70 := ⟨{ a := a70, c := c70 }, rfl, rfl⟩; exact ⟨w, h70, rfl, rfl⟩),
              ⟨.px rfl (by intro X; refine OpT.mono (op_alloc (l := 16) tN97ug) ?_; rintro _ _ ⟨b16, rfl, rfl⟩; obtain ⟨w, rfl⟩ : ∃ w : Wt, w.b = b16 := ⟨{ b := b16 }, rfl⟩; exact ⟨w, rfl, rfl⟩),
              trivial⟩⟩⟩⟩⟩⟩⟩⟩⟩⟩⟩⟩⟩)
              (fun β β' => ⟨fun _ => by rfl, ⟨fun _ => by rfl, ⟨fun _ => by rfl, ⟨fun _ => by rfl, ⟨fun _ => by rfl, ⟨fun _ => by rfl, ⟨fun _ => by rfl, ⟨fun _ => by rfl, ⟨fun _ => by rfl, ⟨fun _ => by rfl, ⟨fun _ => by rfl, ⟨fun _ => by rfl, ⟨fun _ => by rfl, trivial⟩⟩⟩⟩⟩⟩⟩⟩⟩⟩⟩⟩⟩) ?_
          intro β
          rintro _ _ ⟨rfl, rfl⟩ _ _ ⟨rfl, rfl⟩ _ _ ⟨rfl, rfl⟩ _ _ ⟨rfl, rfl⟩ _ _ ⟨rfl, rfl⟩ _ _ ⟨rfl, rfl⟩ _ _ ⟨rfl, rfl⟩ _ _ ⟨rfl, rfl⟩ _ _ ⟨rfl, rfl⟩ _ _ ⟨rfl, rfl⟩ _ _ ⟨rfl, rfl⟩ _ _ ⟨h70, rfl, rfl⟩ _ _ ⟨rfl, rfl⟩
          generalize (β 11).a = a70 at h70 ⊢
          generalize (β 11).c = c70 at h70 ⊢
          generalize (β 12).b = b16 at h70 ⊢
          refine wl_norm (e' := [(0, _), (1, _), (2, _), (8, _), (9, _), (10, _), (11, _), (12, _), (13, _), (14, _), (16, _), (31, _), (32, _), (33, _), (70, _)]) (.cons rfl (.cons rfl (.cons rfl (.cons rfl (.cons rfl (.cons rfl (.cons rfl (.cons rfl (.cons rfl (.cons rfl (.cons rfl (.cons rfl (.cons rfl (.cons rfl (.cons rfl (.nil _)))))))))))))))) (by dsimp only [cond_false, cond_true, List.nil_append, List.cons_append]) ?_
          refine wl_op0 [16] rfl rfl rfl (op_store rfl rfl tZ97ug (by rfl) (by rfl) (by exact Nat.le_of_ble_eq_true rfl)) ?_
          rintro _ _ ⟨rfl, rfl⟩
          refine wl_nil (st_tn (w_seq (w_star 70 605 605 rfl ?_)))
          refine w_wk 605 (poolZ (((if s > 0 then Value.slice a70 (x.cuts.length + 1) c70 else .slice none 0 0), (if s > 0 then x.cuts ++ [(s : Int)] else [])) :: P2)) rfl (fun _ h => h) ?_
          refine w_wk 16 (cel b16 (encBst (aftV x s (pen + segC pts s (k + 1)) a70 c70)) 97) rfl (fun _ h => h) ?_
          have hy := hxin.aft (cost := pen + segC pts s (k + 1)) h70
          have hyc : (aftV x s (pen + segC pts s (k + 1)) a70 c70).cuts.length ≤ 200 := by
            unfold aftV; dsimp only
            by_cases h0 : s > 0
            · rw [if_pos h0, List.length_append, List.length_singleton]; omega
            · rw [if_neg h0]; omega
          have hyb : -1000000000 ≤ (aftV x s (pen + segC pts s (k + 1)) a70 c70).tot ∧ (aftV x s (pen + segC pts s (k + 1)) a70 c70).tot ≤ 1000000000 := by unfold aftV; dsimp only; omega
          refine w_cutL [(77, .bool (decide (j = 0 ∨ btr (keyB (aftV x s (pen + segC pts s (k + 1)) a70 c70)) (keyB fnd) = true)))] [0, 1, 2, 8, 9, 10, 11, 12, 13, 16, 31, 32, 33] [8, 20, 21, 12, 30, 13, 16, 605] rfl (fun K' hK => ?_) ?_
          · -- cut r15
            refine w_region (zm rfl (zd rfl (op_eql rfl rfl) (zm rfl (wl_gsplit (t := 73) rfl (fun hg73 => ?_) (fun hg73 => ?_)))))
            · -- 73 is True
              refine wl_unwanted rfl rfl rfl rfl rfl rfl rfl rfl (wl_unwanted rfl rfl rfl rfl rfl rfl rfl rfl (wl_unwanted rfl rfl rfl rfl rfl rfl rfl rfl (zd rfl (op_pick_t rfl rfl) (wl_nil (st_tn ?_)))))
              exact cut_done1 [8, 20, 21, 12, 30, 13, 16, 605] hK rfl (by first | (symm; rw [decide_eq_true_iff]; exact .inl (by omega)) | (simp [show ¬ j = 0 by omega]; done)) (by rfl) rfl rfl
            · -- 73 is False
              refine wl_wanted_det rfl rfl rfl rfl rfl rfl rfl (op_loadA rfl tA97ug (Ent.lab (l := 16) rfl (says_cel 0)) (Nat.le_of_ble_eq_true rfl)) (wl_wanted_det rfl rfl rfl rfl rfl rfl rfl (op_loadA rfl tA97ug (Ent.lab (l := 13) rfl (says_cel 0)) (Nat.le_of_ble_eq_true rfl)) (wl_wanted_det rfl rfl rfl rfl rfl rfl rfl (op_fn Try.func42 rfl rfl rfl (betterS (hy.sl 605 rfl (by omega)) ((hfn.1.more _).sl 605 rfl (by omega)))) ?_))
              refine zd rfl (op_pick_f rfl rfl) (wl_nil (st_tn ?_))
              exact cut_done1 [8, 20, 21, 12, 30, 13, 16, 605] hK rfl (by first | (symm; rw [decide_eq_true_iff]; exact .inl (by omega)) | (simp [show ¬ j = 0 by omega]; done)) (by rfl) rfl rfl
          · -- behind r15
            show W _ _ _ _ _ [(77, _), (0, _), (1, _), (2, _), (8, _), (9, _), (10, _), (11, _), (12, _), (13, _), (16, _), (31, _), (32, _), (33, _)] [(8, _), (20, _), (21, _), (12, _), (30, _), (13, _), (16, _), (605, _)] _
            refine w_cond_d rfl (fun hc77 => ?_) (fun hc77 => ?_)
            · -- c77.t
              refine w_region (zd rfl (op_loadA rfl tA97ug (Ent.lab (l := 16) rfl (says_cel 0)) (Nat.le_of_ble_eq_true rfl)) (wl_op0 [13] rfl rfl rfl (op_store rfl rfl tZ97ug (by rfl) (by rfl) (by exact Nat.le_of_ble_eq_true rfl)) ?_))
              rintro _ _ ⟨rfl, rfl⟩
              refine wl_nil (st_bn (st_tn (w_wk 13 (cel b13 (encBst (aftV x s (pen + segC pts s (k + 1)) a70 c70)) 97) rfl (fun _ h => h) ?_)))
              refine w_region (zd rfl (op_add' rfl rfl (by omega)) ?_)
              refine zm rfl (wl_nil ?_)
              refine st_roundQ (x := (asked2, j, fnd, P2)) ((asked2 + 1, j + 1, aftV x s (pen + segC pts s (k + 1)) a70 c70, ((if s > 0 then Value.slice a70 (x.cuts.length + 1) c70 else .slice none 0 0), (if s > 0 then x.cuts ++ [(s : Int)] else [])) :: P2)) [13, 605, 8, 20, 21, 12, 30] rfl (rfl) (.cons rfl (.cons rfl (.nil _))) (.cons rfl (.cons rfl (.cons rfl (.cons rfl (.cons rfl (.cons rfl (.cons rfl (.cons rfl (.cons rfl (.cons rfl (.nil _))))))))))) (by
                  try dsimp only
                  refine ⟨⟨by omega, by omega, by omega⟩, ?_, ⟨hy, hyc, hyb⟩, fun x hx => (hin2 x hx).more _, hin0'.more _⟩
                  rw [hsn, hpk, if_neg (show ¬ j + 1 = 0 by omega)]
                  by_cases hj0 : j = 0
                  · rw [if_pos hj0]; exact (hst a70 c70).1
                  · rw [if_neg hj0]; exact (hst a70 c70).2.2.1 (fun h => hc58 ⟨by omega, h⟩) (hc77.resolve_left hj0)) (by
                  try dsimp only
                  omega)
            · -- c77.f
              refine w_skip (st_bn (st_tn (w_region (zd rfl (op_add' rfl rfl (by omega)) ?_))))
              refine zm rfl (wl_nil ?_)
              refine st_roundQ (x := (asked2, j, fnd, P2)) ((asked2 + 1, j + 1, fnd, ((if s > 0 then Value.slice a70 (x.cuts.length + 1) c70 else .slice none 0 0), (if s > 0 then x.cuts ++ [(s : Int)] else [])) :: P2)) [13, 605, 8, 20, 21, 12, 30] rfl (rfl) (.cons rfl (.cons rfl (.nil _))) (.cons rfl (.cons rfl (.cons rfl (.cons rfl (.cons rfl (.cons rfl (.cons rfl (.cons rfl (.cons rfl (.cons rfl (.nil _))))))))))) (by
                  try dsimp only
                  refine ⟨⟨by omega, by omega, by omega⟩, ?_, ⟨hfn.1.more _, hfn.2⟩, fun x hx => (hin2 x hx).more _, hin0'.more _⟩
                  have hj0 : ¬ j = 0 := fun h => hc77 (.inl h)
                  rw [hsn, hpk, if_neg (show ¬ j + 1 = 0 by omega), if_neg hj0]
                  exact (hst a70 c70).2.2.2 (fun h => hc58 ⟨by omega, h⟩) (fun h => hc77 (.inr h))) (by
                  try dsimp only
                  omega)
    · -- c34.f
      refine w_exit (st_te ?_)
      refine st_te ?_
      refine st_be (st_tn (w_seq ?_))
      have hjn : j = (allN (segC pts) pen prune k).2.length := by omega
      have hjp : 0 < (allN (segC pts) pen prune k).2.length := List.length_pos_of_mem (cand_last (segC pts) pen prune k)
      rw [hjn, List.take_of_length_le (Nat.le_refl _), if_neg (by omega)] at hpk
      have hfnd : fndN (segC pts) pen prune k = keyB fnd := by unfold fndN; rw [hpk]; rfl
      have hal2 : (al ++ [fnd]).map keyB = (allN (segC pts) pen prune (k + 1)).1 := by rw [List.map_append, hal, all_succ, hfnd]; rfl
      have hin3 : ∀ x ∈ al ++ [fnd], InZ P2 x := fun x hx => by
        rcases List.mem_append.1 hx with hx | hx
        · exact hin2 x hx
        · rw [List.mem_singleton] at hx; subst hx; exact hfn.1
      clear hin2
      have hin2 := hin3
      refine w_region (zd rfl (op_load1 rfl tO92ug (Ent.lab (l := 8) rfl (says_cel 0))) (zd rfl (op_loadA rfl tA97ug (Ent.lab (l := 13) rfl (says_cel 0)) (Nat.le_of_ble_eq_true rfl)) (wl_op [] rfl rfl rfl rfl (op_buildSlice (enc := encBst) (l := [fnd]) (lab := 82) tL92_1ug rfl rfl (fun _ => rfl) rfl) ?_)))
      rintro _ _ ⟨a82, c82, rfl, rfl⟩
      refine wl_op [20] rfl rfl rfl rfl (op_append (lab := 20) (lab' := 83) rfl rfl tP92ug enc1Bst (Sl.lab 82 rfl (by simp [maxLen])) (by first | omega | (simp; done) | (simp; omega) | (simp [*]; omega)) (by first | omega | (simp; done) | (simp; omega) | (simp [*]; omega))) ?_
      rintro _ _ ⟨a83, c83, rfl, rfl⟩
      refine wl_op0 [8] rfl rfl rfl (op_store rfl rfl tZ92ug (by rfl) (by rfl) (by exact Nat.le_of_ble_eq_true rfl)) ?_
      rintro _ _ ⟨rfl, rfl⟩
      refine wl_nil (st_tn (w_seq (w_seq (w_wk 8 (cel b8 [.slice a83 (al ++ [fnd]).length c83] 92) rfl (fun _ h => h) ?_))))
      refine w_region (zm rfl (wl_nil (st_tn (w_cond rfl (fun hc84 => ?_) (fun hc84 => ?_)))))
      · -- c84.t
        refine w_region (zm rfl (zd rfl (op_makeFunc rfl rfl) ?_))
        refine wl_op [21] rfl rfl rfl rfl (op_fn Try.func54 rfl rfl rfl (delFuncR (fs := []) (cs := [.pointer (some ⟨b8, 0, none⟩), .pointer (some ⟨b12, 0, none⟩), .pointer (some ⟨b13, 0, none⟩)]) (p := prnP (al ++ [fnd]) (costsL pts (k + 1)) fnd) 21 87 (by omega) Try.func55 rfl rfl (fun X r hr => by
  rw [hcz] at hr
  obtain ⟨s, hs, rfl⟩ := List.mem_map.1 hr
  have hsk := cand_sub (segC pts) pen prune k s hs
  obtain ⟨x, hx, hxk, hxb, hxc⟩ := al_get hp (segC_pos pts hb) (by omega) hal hsk
  have hco := costs_get pts (show s < k + 1 by omega)
  have hvb := segC_pos pts hb s (k + 1)
  have hx2 : (al ++ [fnd])[s]? = some x := by rw [List.getElem?_append_left (by omega)]; exact hx
  rw [show prnP (al ++ [fnd]) (costsL pts (k + 1)) fnd (ofN s) = decide (x.tot + segC pts s (k + 1) > fnd.tot) from prn_eq hx2 hco]
  exact solve1S (q8 := ⟨b8, 0, none⟩) (q12 := ⟨b12, 0, none⟩) (q13 := ⟨b13, 0, none⟩) (Ent.app (Ent.lab (l := 8) rfl (says_cel 0)) X) (Sl.app (Sl.lab 83 rfl (by rw [List.length_append, List.length_singleton]; unfold maxLen; omega)) X) (Ent.app (Ent.lab (l := 12) rfl (says_cel 0)) X) (Sl.app (Sl.lab 30 rfl (by unfold maxLen; omega)) X) (Ent.app (Ent.lab (l := 13) rfl (says_cel 0)) X) hx2 hco (by omega) (by omega)))) ?_
        rintro _ _ ⟨a87, c87, rfl, rfl⟩
        refine za rfl (wl_nil (st_tn ?_))
        have hcz2 : (cz.filter fun x => !prnP (al ++ [fnd]) (costsL pts (k + 1)) fnd x) ++ [((k + 1 : Nat) : Int)] = (allN (segC pts) pen prune (k + 1)).2.map ofN := by
          rw [cand_succ, if_pos hc84, List.map_append, hcz, List.filter_map]
          refine congrArg (fun q => List.map ofN q ++ [((k + 1 : Nat) : Int)]) (List.filter_congr fun s hs => ?_)
          have hsk := cand_sub (segC pts) pen prune k s hs
          obtain ⟨x, hx, hxk, hxb, hxc⟩ := al_get hp (segC_pos pts hb) (by omega) hal hsk
          have hco := costs_get pts (show s < k + 1 by omega)
          have hx2 : (al ++ [fnd])[s]? = some x := by rw [List.getElem?_append_left (by omega)]; exact hx
          show (!prnP (al ++ [fnd]) (costsL pts (k + 1)) fnd (ofN s)) = _
          rw [prn_eq hx2 hco, all_bst (segC pts) pen prune hsk, ← hxk, hfnd]; rfl
        have hfl := List.length_filter_le (fun x => !prnP (al ++ [fnd]) (costsL pts (k + 1)) fnd x) cz
        refine w_region (zm rfl (zm rfl (wl_op [] rfl rfl rfl rfl (op_buildSlice (enc := SL.encZ) (l := [((k + 1 : Nat) : Int)]) (lab := 90) tL30_1ug rfl rfl (fun _ => rfl) rfl) ?_)))
        rintro _ _ ⟨a90, c90, rfl, rfl⟩
        refine wl_op [87] rfl rfl rfl rfl (op_append (lab := 87) (lab' := 91) rfl rfl tP30ug SL.enc1Z (Sl.lab 90 rfl (by simp [maxLen])) (by first | omega | (simp; done) | (simp; omega) | (simp [*]; omega)) (by first | omega | (simp; done) | (simp; omega) | (simp [*]; omega))) ?_
        rintro _ _ ⟨a91, c91, rfl, rfl⟩
        refine za rfl (wl_nil (st_bn (st_tn (w_region (zm rfl (zd rfl (op_add' rfl rfl (by omega)) ?_))))))
        refine za rfl (wl_nil ?_)
        refine st_roundQ (x := (al, a_al, c_al, cz, a_cz, c_cz, asked, k, P)) ((_, _, _, _, _, _, asked2, k + 1, P2)) [83, 8, 91, 605] rfl (rfl) (.cons rfl (.cons rfl (.cons rfl (.nil _)))) (.cons rfl (.cons rfl (.cons rfl (.cons rfl (.nil _))))) (by
            try dsimp only
            exact ⟨⟨by omega, by omega, by omega⟩, hal2, hcz2, hin2, hin0'⟩) (by
            try dsimp only
            omega)
      · -- c84.f
        refine w_skip (st_tn ?_)
        have hcz2 : cz ++ [((k + 1 : Nat) : Int)] = (allN (segC pts) pen prune (k + 1)).2.map ofN := by
          rw [cand_succ, if_neg (by rw [hc84]; decide), List.map_append, hcz]; rfl
        refine w_region (zm rfl (zm rfl (wl_op [] rfl rfl rfl rfl (op_buildSlice (enc := SL.encZ) (l := [((k + 1 : Nat) : Int)]) (lab := 90) tL30_1ug rfl rfl (fun _ => rfl) rfl) ?_)))
        rintro _ _ ⟨a90, c90, rfl, rfl⟩
        refine wl_op [21] rfl rfl rfl rfl (op_append (lab := 21) (lab' := 91) rfl rfl tP30ug SL.enc1Z (Sl.lab 90 rfl (by simp [maxLen])) (by first | omega | (simp; done) | (simp; omega) | (simp [*]; omega)) (by first | omega | (simp; done) | (simp; omega) | (simp [*]; omega))) ?_
        rintro _ _ ⟨a91, c91, rfl, rfl⟩
        refine za rfl (wl_nil (st_bn (st_tn (w_region (zm rfl (zd rfl (op_add' rfl rfl (by omega)) ?_))))))
        refine za rfl (wl_nil ?_)
        refine st_roundQ (x := (al, a_al, c_al, cz, a_cz, c_cz, asked, k, P)) ((_, _, _, _, _, _, asked2, k + 1, P2)) [83, 8, 91, 605] rfl (rfl) (.cons rfl (.cons rfl (.cons rfl (.nil _)))) (.cons rfl (.cons rfl (.cons rfl (.cons rfl (.nil _))))) (by
            try dsimp only
            exact ⟨⟨by omega, by omega, by omega⟩, hal2, hcz2, hin2, hin0'⟩) (by
            try dsimp only
            omega)
  · -- c25.f
    refine w_exit (st_te ?_)
    refine st_te ?_
    refine st_be (st_tn (w_seq (w_region (zd rfl (op_load1 rfl tO92ug (Ent.lab (l := 8) rfl (says_cel 0))) (zm rfl (za rfl (za rfl (wl_nil (st_tn (w_ret (st_ret (vs := [_, _]) [20, 605] Try.results35 ⟨rfl, ⟨rfl, trivial⟩⟩ rfl ?_)))))))))))
    refine ⟨[(lab1, _), (lab2, _)], rfl, ?_⟩
    have hkn : k = pts.length := by omega
    rw [hkn] at hal
    exact ⟨al, P, _, _, asked, hal, hin, rfl, rfl⟩
end Go.Proofs.Ytecmigildpkigaa
namespace Go.Proofs.Ytecmigildpkigaa
open Go Go.SL Go.RowKit Go.SegP
set_option linter.unusedVariables false
set_option linter.unusedSimpArgs false
theorem tA60uh : aggB Try.prog 60 2 = true := by kernel_rfl
theorem tA97uh : aggB Try.prog 97 2 = true := by kernel_rfl
theorem tB60uh : placesB Try.prog 60 = some ([(0, 1), (1, 1)], [Value.slice none 0 0, Value.int .i64 0]) := by kernel_rfl
theorem tF97_0uh : fieldB Try.prog 97 0 0 = true := by kernel_rfl
theorem tF97_1uh : fieldB Try.prog 97 1 1 = true := by kernel_rfl
theorem tM30uh : makeB Try.prog 30 3 8 = some (Value.int .i64 0) := by kernel_rfl
theorem tMixuh : Try.prog.follows .mixedOrders = true := by kernel_rfl
theorem tN60uh : (Try.prog.info? 60).bind (·.zero) = some (Value.agg #[Value.slice none 0 0, Value.int .i64 0]) := by kernel_rfl
theorem tN97uh : (Try.prog.info? 97).bind (·.zero) = some (Value.agg #[Value.int .i64 0, Value.slice none 0 0]) := by kernel_rfl
theorem tO3uh : oneB Try.prog 3 = true := by kernel_rfl
theorem tO30uh : oneB Try.prog 30 = true := by kernel_rfl
theorem tS30uh : sliceB Try.prog 30 3 1 = true := by kernel_rfl
theorem tS92uh : sliceB Try.prog 92 97 2 = true := by kernel_rfl
theorem tZ60uh : (Try.prog.info? 60).map (·.size) = some 2 := by kernel_rfl
theorem tZ97uh : (Try.prog.info? 97).map (·.size) = some 2 := by kernel_rfl
set_option maxHeartbeats 600000 in
set_option maxRecDepth 100000 in
theorem segS {σ : World} {F : List Res} {a : Option Addr} {c : Nat} {al : List BstV} {x : BstV} (lab : Nat) (g : Sl σ F encBst 2 (.slice a al.length c) al) (hx : al[al.length - 1]? = some x) (gx : Sl σ F SL.encZ 1 (.slice x.a x.cuts.length x.c) x.cuts) (hl : x.cuts.length ≤ 1000) :
    FnT Try.prog σ F 36 [.slice a al.length c] [] (fun u ρ => ∃ (a' : Option Addr) (c' : Nat), u = .agg #[.slice a' x.cuts.length c', .int .i64 x.tot] ∧ ρ = [(lab, slW 3 SL.encZ 1 (.slice a' x.cuts.length c') x.cuts)]) := by
  refine fn_of 16 Try.func36 rfl Try.ntmps36 rfl ?_
  have hle := g.i64
  have hlt := (List.getElem?_eq_some_iff.1 hx).1
  refine w_seq (w_region (wl_op [] rfl rfl rfl rfl (op_alloc (l := 2) tN60uh) ?_))
  rintro _ _ ⟨b2, rfl, rfl⟩
  refine wl_nil (st_tn (w_seq (w_region (zm rfl (zm rfl (zd rfl (op_lenT rfl tS92uh (Sl.ent (g.app _))) (zd rfl (op_val (v' := .int .i64 ((al.length - 1 : Nat) : Int)) (by rw [show ((al.length - 1 : Nat) : Int) = (al.length : Int) - 1 by omega]) (op_sub' rfl rfl (by omega))) ?_)))))))
  refine zd rfl (op_idx rfl rfl tS92uh (Sl.ent (g.app _)) (by omega)) ?_
  refine zd rfl (op_ldxA rfl tA97uh (g.app _) hx (by rfl) (by rfl)) ?_
  refine wl_op [] rfl rfl rfl rfl (op_alloc (l := 3) tN97uh) ?_
  rintro _ _ ⟨b3, rfl, rfl⟩
  refine wl_op0 [3] rfl rfl rfl (op_store rfl rfl tZ97uh (by rfl) (by rfl) (by exact Nat.le_of_ble_eq_true rfl)) ?_
  rintro _ _ ⟨rfl, rfl⟩
  refine wl_nil (st_tn (w_seq ?_))
  refine w_drawW (fun β => [⟨10, [], [], [], noW (_), false, [], []⟩, ⟨11, [0], [], [], noW (_), false, [], []⟩, ⟨12, [1], [], [], fun w => DetW _ _, false, [], []⟩, ⟨13, [], [], [], noW (_), false, [], []⟩, ⟨14, [3], [], [], noW (_), false, [], []⟩]) [] [3] [⟨10, [], [], false, [], []⟩, ⟨11, [0], [], false, [], []⟩, ⟨12, [1], [], false, [], []⟩, ⟨13, [], [], false, [], []⟩, ⟨14, [3], [], false, [], []⟩] [[], [], [], [], []] [[], [], [], [], []] tMixuh (fun _ => by rfl) (fun _ => by rfl) (by kernel_rfl) (by kernel_rfl) (by rfl) (by rfl)
      (fun β => ⟨.p rfl (by intro X; exact op_fieldAddr (off := 1) rfl tF97_1uh),
      ⟨.p rfl (by intro X; rintro _ _ ⟨rfl, rfl⟩; exact op_load1 rfl tO30uh (Ent.lab (l := 3) rfl (says_cel 1))),
      ⟨.px rfl (by intro X; rintro _ _ ⟨rfl, rfl⟩; refine OpT.mono (op_fn Try.func43 rfl rfl rfl (cloneI (rl := x.cuts) 12 (Sl.app (Sl.app gx X) _) (by omega))) ?_; rintro _ _ ⟨a12, c12, rfl, rfl⟩; obtain ⟨w, rfl, rfl⟩ : ∃ w : Wt, w.a = a12 ∧ w.c = c12 := ⟨{ a := a12, c := c12 }, rfl, rfl⟩; exact ⟨w, rfl, rfl⟩),
      ⟨.p rfl (by intro X; exact op_fieldAddr (off := 0) rfl tF97_0uh),
      ⟨.p rfl (by intro X; rintro _ _ ⟨rfl, rfl⟩; exact op_load1 rfl tO3uh (Ent.lab (l := 3) rfl (says_cel 0))),
      trivial⟩⟩⟩⟩⟩)
      (fun β β' => ⟨fun _ => by rfl, ⟨fun _ => by rfl, ⟨fun _ => by rfl, ⟨fun _ => by rfl, ⟨fun _ => by rfl, trivial⟩⟩⟩⟩⟩) ?_
  intro β
  rintro _ _ ⟨rfl, rfl⟩ _ _ ⟨rfl, rfl⟩ _ _ ⟨rfl, rfl⟩ _ _ ⟨rfl, rfl⟩ _ _ ⟨rfl, rfl⟩
  generalize (β 2).a = a12
  generalize (β 2).c = c12
  refine wl_norm (e' := [(2, _), (12, _), (14, _)]) (.cons rfl (.cons rfl (.cons rfl (.nil _)))) (by dsimp only [cond_false, cond_true, List.nil_append, List.cons_append]) ?_
  refine zd rfl (op_build tB60uh rfl rfl) (wl_op0 [2] rfl rfl rfl (op_store rfl rfl tZ60uh (by rfl) (by rfl) (by exact Nat.le_of_ble_eq_true rfl)) ?_)
  rintro _ _ ⟨rfl, rfl⟩
  refine wl_nil (st_tn (w_ret (st_ret (vs := [_]) [12] Try.results36 ⟨⟨_, rfl, Ent.mono (Ent.lab (l := 2) rfl (says_cel 0)) (fun _ h => run_load_agg tA60uh h (Nat.le_of_ble_eq_true rfl))⟩, trivial⟩ rfl ?_)))
  refine ⟨[(lab, _)], rfl, ?_⟩
  exact ⟨_, _, rfl, rfl⟩
theorem al_last {C : Nat → Nat → Int} {pen : Int} {prune : Bool} {n : Nat} {al : List BstV} (hp : 0 ≤ pen ∧ pen ≤ 1000) (hC : ∀ s t, 0 ≤ C s t ∧ C s t ≤ 200000) (hk : n ≤ 100) (h : al.map keyB = (allN C pen prune n).1) : al.length = n + 1 ∧ ∃ x, al[al.length - 1]? = some x ∧ x.tot = (bstN C pen prune n).1 ∧ x.cuts = (bstN C pen prune n).2 ∧ x.cuts.length ≤ 100 ∧ x ∈ al := by
  have hl : al.length = n + 1 := by have h9 := congrArg List.length h; rw [List.length_map, all_len] at h9; exact h9
  obtain ⟨x, h1, h2, h3, h4⟩ := al_get hp hC hk h (Nat.le_refl n)
  refine ⟨hl, x, by rw [hl]; exact h1, ?_, ?_, h4, List.mem_of_getElem? h1⟩
  · rw [← h2]; rfl
  · rw [← h2]; rfl
set_option maxHeartbeats 1000000 in
set_option maxRecDepth 100000 in
theorem bestS {σ : World} {F : List Res} {a : Option Addr} {c : Nat} {pts : List Int} (pen : Int) (lab : Nat) (g : Sl σ F SL.encZ 1 (.slice a pts.length c) pts) (hb : PtsB pts) (h1 : 1 ≤ pts.length) (hp : 0 ≤ pen ∧ pen ≤ 1000) :
    FnT Try.prog σ F 17 [.slice a pts.length c, .int .i64 pen] [] (fun u ρ => ∃ (a' : Option Addr) (c' : Nat), u = .tuple #[.agg #[.slice a' (bstN (segC pts) pen false pts.length).2.length c', .int .i64 (bstN (segC pts) pen false pts.length).1], .int .i64 0] ∧ ρ = [(lab, slW 3 SL.encZ 1 (.slice a' (bstN (segC pts) pen false pts.length).2.length c') (bstN (segC pts) pen false pts.length).2)]) := by
  refine fn_of 24 Try.func17 rfl Try.ntmps17 rfl ?_
  have hle := hb.len
  refine w_seq (w_region (wl_op [] rfl rfl rfl rfl (op_alloc (l := 4) tN60uh) ?_))
  rintro _ _ ⟨b4, rfl, rfl⟩
  refine za rfl (wl_nil (st_tn (w_seq (w_seq (w_region (zm rfl (zm rfl (zd rfl (op_fn Try.func34 rfl rfl rfl (checkS pen (g.app _) hb h1 hp)) (za rfl (wl_nil (st_tn (w_seq (w_region ?_)))))))))))))
  refine zm rfl (zd rfl (op_val (v' := .bool false) (by rfl) (op_neq rfl rfl)) ?_)
  refine wl_nil (st_tn (w_cond_f (rfl) ?_))
  refine w_skip (st_tn (w_seq (w_region (zm rfl (zm rfl (wl_op [] rfl rfl rfl rfl (op_fn Try.func35 rfl rfl rfl (solveS pen false 71 72 (g.app _) hb hp)) ?_))))))
  rintro _ _ ⟨al, P, a19, c19, asked, hal, hin, rfl, rfl⟩
  refine zm rfl (zd rfl (op_extract rfl rfl) (zd rfl (op_extract rfl rfl) (za rfl (za rfl (wl_nil (st_tn (w_seq ?_)))))))
  obtain ⟨hall, x, hx, hxt, hxc, hxl, hxm⟩ := al_last hp (segC_pos pts hb) hle hal
  refine w_region (zm rfl (wl_op [] rfl rfl rfl rfl (op_fn Try.func36 rfl rfl rfl (segS 23 (Sl.lab 71 rfl (by unfold maxLen; omega)) hx ((hin x hxm).sl 72 rfl (by omega)) (by omega))) ?_))
  rintro _ _ ⟨a23, c23, rfl, rfl⟩
  refine wl_op0 [4] rfl rfl rfl (op_store rfl rfl tZ60uh (by rfl) (by rfl) (by exact Nat.le_of_ble_eq_true rfl)) ?_
  rintro _ _ ⟨rfl, rfl⟩
  refine za rfl (wl_nil (st_tn (w_ret (st_ret (vs := [_, _]) [23] Try.results17 ⟨⟨_, rfl, Ent.mono (Ent.lab (l := 4) rfl (says_cel 0)) (fun _ h => run_load_agg tA60uh h (Nat.le_of_ble_eq_true rfl))⟩, ⟨rfl, trivial⟩⟩ rfl ?_))))
  refine ⟨[(lab, _)], rfl, ?_⟩
  rw [← hxt, ← hxc]; exact ⟨_, _, rfl, rfl⟩
set_option maxHeartbeats 1000000 in
set_option maxRecDepth 100000 in
theorem prunedS {σ : World} {F : List Res} {a : Option Addr} {c : Nat} {pts : List Int} (pen : Int) (lab : Nat) (g : Sl σ F SL.encZ 1 (.slice a pts.length c) pts) (hb : PtsB pts) (h1 : 1 ≤ pts.length) (hp : 0 ≤ pen ∧ pen ≤ 1000) :
    FnT Try.prog σ F 18 [.slice a pts.length c, .int .i64 pen] [] (fun u ρ => ∃ (a' : Option Addr) (c' : Nat) (z : Int), u = .tuple #[.agg #[.slice a' (bstN (segC pts) pen true pts.length).2.length c', .int .i64 (bstN (segC pts) pen true pts.length).1], .int .i64 z, .int .i64 0] ∧ ρ = [(lab, slW 3 SL.encZ 1 (.slice a' (bstN (segC pts) pen true pts.length).2.length c') (bstN (segC pts) pen true pts.length).2)]) := by
  refine fn_of 26 Try.func18 rfl Try.ntmps18 rfl ?_
  have hle := hb.len
  refine w_seq (w_region (wl_op [] rfl rfl rfl rfl (op_alloc (l := 4) tN60uh) ?_))
  rintro _ _ ⟨b4, rfl, rfl⟩
  refine za rfl (za rfl (wl_nil (st_tn (w_seq (w_seq (w_region (zm rfl (zm rfl (zd rfl (op_fn Try.func34 rfl rfl rfl (checkS pen (g.app _) hb h1 hp)) (za rfl (wl_nil (st_tn (w_seq ?_)))))))))))))
  refine w_region (zm rfl (zd rfl (op_val (v' := .bool false) (by rfl) (op_neq rfl rfl)) ?_))
  refine wl_nil (st_tn (w_cond_f (rfl) ?_))
  refine w_skip (st_tn (w_seq (w_region (zm rfl (zm rfl (wl_op [] rfl rfl rfl rfl (op_fn Try.func35 rfl rfl rfl (solveS pen true 71 72 (g.app _) hb hp)) ?_))))))
  rintro _ _ ⟨al, P, a19, c19, asked, hal, hin, rfl, rfl⟩
  refine zm rfl (zd rfl (op_extract rfl rfl) (zd rfl (op_extract rfl rfl) (za rfl (za rfl (wl_nil (st_tn (w_seq ?_)))))))
  obtain ⟨hall, x, hx, hxt, hxc, hxl, hxm⟩ := al_last hp (segC_pos pts hb) hle hal
  refine w_region (zm rfl (wl_op [] rfl rfl rfl rfl (op_fn Try.func36 rfl rfl rfl (segS 23 (Sl.lab 71 rfl (by unfold maxLen; omega)) hx ((hin x hxm).sl 72 rfl (by omega)) (by omega))) ?_))
  rintro _ _ ⟨a23, c23, rfl, rfl⟩
  refine zm rfl (wl_op0 [4] rfl rfl rfl (op_store rfl rfl tZ60uh (by rfl) (by rfl) (by exact Nat.le_of_ble_eq_true rfl)) ?_)
  rintro _ _ ⟨rfl, rfl⟩
  refine za rfl (za rfl (wl_nil (st_tn (w_ret (st_ret (vs := [_, _, _]) [23] Try.results18 ⟨⟨_, rfl, Ent.mono (Ent.lab (l := 4) rfl (says_cel 0)) (fun _ h => run_load_agg tA60uh h (Nat.le_of_ble_eq_true rfl))⟩, ⟨rfl, ⟨rfl, trivial⟩⟩⟩ rfl ?_)))))
  refine ⟨[(lab, _)], rfl, ?_⟩
  rw [← hxt, ← hxc]; exact ⟨_, _, _, rfl, rfl⟩
theorem fill_step {l : List Int} {i : Nat} {v : Int} (h : l[i]? = some v) : (l.take i ++ List.replicate (l.length - i) 0).set i v = l.take (i + 1) ++ List.replicate (l.length - (i + 1)) 0 := by
  have hi := (List.getElem?_eq_some_iff.1 h).1
  obtain ⟨q, hq⟩ : ∃ q, l.length - i = q + 1 := ⟨l.length - i - 1, by omega⟩
  have hl : (l.take i).length = i := by rw [List.length_take]; omega
  rw [take_snocS h, hq, List.replicate_succ, List.set_append, if_neg (by omega), hl, Nat.sub_self, List.set_cons_zero, show l.length - (i + 1) = q by omega]
  simp
def potL (pts : List Int) (pen : Int) : List Int := (List.range (pts.length + 1)).map fun t => (bstN (segC pts) pen false t).1
theorem pot_len (pts : List Int) (pen : Int) : (potL pts pen).length = pts.length + 1 := by unfold potL; simp
theorem pot_get {pts : List Int} {pen : Int} {t : Nat} (h : t ≤ pts.length) : (potL pts pen)[t]? = some (bstN (segC pts) pen false t).1 := by unfold potL; rw [List.getElem?_map, List.getElem?_range (by omega)]; rfl
theorem pot_al {pts : List Int} {pen : Int} {al : List BstV} (h : al.map keyB = (allN (segC pts) pen false pts.length).1) : al.map (·.tot) = potL pts pen := by
  have hl : al.length = pts.length + 1 := by have h9 := congrArg List.length h; rw [List.length_map, all_len] at h9; exact h9
  apply List.ext_getElem?
  intro t
  by_cases ht : t ≤ pts.length
  · have h1 := all_getS (segC pts) pen false ht
    rw [← h, List.getElem?_map] at h1
    rw [pot_get ht, List.getElem?_map]
    cases hx : al[t]? with
    | none => rw [hx] at h1; simp at h1
    | some x => rw [hx] at h1; simp only [Option.map_some, Option.some.injEq] at h1 ⊢; rw [← h1]; rfl
  · rw [List.getElem?_eq_none (by rw [List.length_map]; omega), List.getElem?_eq_none (by rw [pot_len]; omega)]
set_option maxHeartbeats 1000000 in
set_option maxRecDepth 100000 in
theorem potS {σ : World} {F : List Res} {a : Option Addr} {c : Nat} {pts : List Int} (pen : Int) (lab : Nat) (g : Sl σ F SL.encZ 1 (.slice a pts.length c) pts) (hb : PtsB pts) (h1 : 1 ≤ pts.length) (hp : 0 ≤ pen ∧ pen ≤ 1000) :
    FnT Try.prog σ F 19 [.slice a pts.length c, .int .i64 pen] [] (fun u ρ => ∃ (a' : Option Addr) (c' : Nat), u = .tuple #[.slice a' (potL pts pen).length c', .int .i64 0] ∧ ρ = [(lab, slW 3 SL.encZ 1 (.slice a' (potL pts pen).length c') (potL pts pen))]) := by
  refine fn_of 41 Try.func19 rfl Try.ntmps19 rfl ?_
  have hle := hb.len
  refine w_seq (w_region (za rfl (za rfl (wl_nil (st_tn (w_seq (w_seq (w_region (zm rfl (zm rfl (zd rfl (op_fn Try.func34 rfl rfl rfl (checkS pen (g.app _) hb h1 hp)) (za rfl (wl_nil ?_)))))))))))))
  refine st_tn (w_seq (w_region (zm rfl (zd rfl (op_val (v' := .bool false) (by rfl) (op_neq rfl rfl)) ?_))))
  refine wl_nil (st_tn (w_cond_f (rfl) ?_))
  refine w_skip (st_tn (w_seq (w_region (zm rfl (zm rfl (wl_op [] rfl rfl rfl rfl (op_fn Try.func35 rfl rfl rfl (solveS pen false 71 72 (g.app _) hb hp)) ?_))))))
  rintro _ _ ⟨al, P, a19, c19, asked, hal, hin, rfl, rfl⟩
  refine zm rfl (zd rfl (op_extract rfl rfl) (zd rfl (op_extract rfl rfl) (za rfl (za rfl (wl_nil (st_tn (w_seq ?_)))))))
  have hall : al.length = pts.length + 1 := by have h9 := congrArg List.length hal; rw [List.length_map, all_len] at h9; exact h9
  have hpa := pot_al hal
  have hml : (al.map (·.tot)).length = al.length := List.length_map ..
  refine w_region (zm rfl (zd rfl (op_lenT rfl tS92uh (Sl.ent (Sl.lab 71 rfl (by unfold maxLen; omega)))) ?_))
  refine wl_op [] rfl rfl rfl rfl (op_makeSlice (enc := SL.encZ) (a0 := 0) (lab := 26) rfl rfl tM30uh (fun _ => rfl) rfl rfl (by omega) (by unfold maxLen; omega)) ?_
  rintro _ _ ⟨a26, c26, rfl, rfl⟩
  refine za rfl (wl_nil (st_tn (w_seq (w_seq (w_region (zm rfl (zd rfl (op_lenT rfl tS92uh (Sl.ent (Sl.lab 71 rfl (by unfold maxLen; omega)))) ?_)))))))
  refine zm rfl (wl_nil (st_tn (w_block ?_)))
  refine w_loopQ (X := LIn × Nat) (fun z => z.2 ≤ al.length ∧ z.1 = (al.map (·.tot)).take z.2 ++ List.replicate ((al.map (·.tot)).length - z.2) 0) (fun z => [(29, .int .i64 (z.2))]) (fun z => [(26, slW 3 SL.encZ 1 (.slice a26 (List.replicate al.length (0 : Int)).length c26) (z.1))]) (fun z => al.length - z.2) ((List.replicate al.length 0, 0)) [(9, _), (27, _), (28, _)] [(71, _)] [26, 71] rfl (rfl) (.cons rfl (.nil _)) (.cons rfl (.cons rfl (.cons rfl (.nil _)))) (by
      try dsimp only
      exact ⟨Nat.zero_le _, by rw [hml]; rfl⟩) ?_
  rintro ⟨out, i⟩ ⟨hi, ho⟩
  refine w_norm2 (by dsimp only [List.cons_append, List.nil_append]) (by dsimp only [List.cons_append, List.nil_append]) ?_
  try dsimp only at hi ho ⊢
  refine w_seq (w_region (zd rfl (op_lss rfl rfl) (wl_nil (st_tn (w_seq (w_cond_d rfl (fun hc30 => ?_) (fun hc30 => ?_)))))))
  · -- c30.t
    refine Exists.elim (getE (l := al) (i := i) (by omega)) (fun x hx => ?_)
    have hxm : (al.map (·.tot))[i]? = some x.tot := by rw [List.getElem?_map, hx]; rfl
    have hol : out.length = al.length := by rw [ho, List.length_append, List.length_take, List.length_replicate]; omega
    refine Exists.elim (getE (l := out) (i := i) (by omega)) (fun old hold => ?_)
    refine w_skip (st_tn (w_seq (w_block (w_seq (w_region (zm rfl (zd rfl (op_idx rfl rfl tS92uh (Sl.ent (Sl.lab 71 rfl (by unfold maxLen; omega))) (by omega)) ?_)))))))
    refine zd rfl (op_ldxA rfl tA97uh (Sl.lab 71 rfl (by unfold maxLen; omega)) hx (by rfl) (by rfl)) ?_
    refine wl_op [] rfl rfl rfl rfl (op_alloc (l := 11) tN97uh) ?_
    rintro _ _ ⟨b11, rfl, rfl⟩
    refine za rfl (wl_op0 [11] rfl rfl rfl (op_store rfl rfl tZ97uh (by rfl) (by rfl) (by exact Nat.le_of_ble_eq_true rfl)) ?_)
    rintro _ _ ⟨rfl, rfl⟩
    refine wl_nil (st_tn (w_region (zm rfl (zm rfl (zd rfl (op_fieldAddr (off := 0) rfl tF97_0uh) (zd rfl (op_load1 rfl tO3uh (Ent.lab (l := 11) rfl (says_cel 0))) (zd rfl (op_idx rfl rfl tS30uh (Sl.ent (Sl.lab 26 rfl (by first | (unfold maxLen; omega) | (rw [List.length_replicate]; unfold maxLen; omega)))) (by omega)) ?_)))))))
    refine wl_op0 [26] rfl rfl rfl (op_storeX (lab := 26) (j := 0) rfl rfl tO3uh rfl rfl (by rfl) (by first | assumption | (simp [*]; done)) (Nat.le_of_ble_eq_true rfl) (by rfl)) ?_
    rintro _ _ ⟨rfl, rfl⟩
    refine wl_nil (st_bn (st_tn (w_region (zd rfl (op_add' rfl rfl (by omega)) ?_))))
    refine zm rfl (wl_nil ?_)
    refine st_roundQ (x := (out, i)) ((out.set i x.tot, i + 1)) [26, 71] rfl (rfl) (.cons rfl (.nil _)) (.cons rfl (.cons rfl (.cons rfl (.nil _)))) (by
        try dsimp only
        exact ⟨by omega, by rw [ho]; exact fill_step hxm⟩) (by
        try dsimp only
        omega)
  · -- c30.f
    refine w_exit (st_te ?_)
    refine st_te ?_
    refine st_be (st_tn (w_seq (w_region (zm rfl (za rfl (za rfl (wl_nil (st_tn (w_ret (st_ret (vs := [_, _]) [26] Try.results19 ⟨rfl, ⟨rfl, trivial⟩⟩ rfl ?_))))))))))
    refine ⟨[(lab, _)], rfl, ?_⟩
    have hin2 : i = (al.map (·.tot)).length := by omega
    rw [hin2, List.take_of_length_le (Nat.le_refl _), Nat.sub_self, List.replicate_zero, List.append_nil, hpa] at ho
    subst ho
    have hpl := pot_len pts pen
    exact ⟨a26, c26, by rw [List.length_replicate, hall, hpl]; rfl, by rw [List.length_replicate, hall, hpl]⟩
end Go.Proofs.Ytecmigildpkigaa
namespace Go.Proofs.Ytecmigildpkigaa
open Go Go.SL Go.RowKit Go.SegP
set_option linter.unusedVariables false
set_option linter.unusedSimpArgs false
theorem tF60_0ui : fieldB Try.prog 60 0 0 = true := by kernel_rfl
theorem tF60_1ui : fieldB Try.prog 60 1 1 = true := by kernel_rfl
theorem tMixui : Try.prog.follows .mixedOrders = true := by kernel_rfl
theorem tO3ui : oneB Try.prog 3 = true := by kernel_rfl
theorem tO30ui : oneB Try.prog 30 = true := by kernel_rfl
theorem tS30ui : sliceB Try.prog 30 3 1 = true := by kernel_rfl
def totZ (pts : List Int) (pen : Int) (cuts : List Int) : Int := pen * cuts.length + sgs (segC pts) pts.length 0 cuts
set_option maxHeartbeats 1500000 in
set_option maxRecDepth 100000 in
theorem verifyS {σ : World} {F : List Res} {a a2 b : Option Addr} {c c2 d : Nat} {pts cuts : List Int} (pen : Int) (g : Sl σ F SL.encZ 1 (.slice a pts.length c) pts) (gp : Sl σ F SL.encZ 1 (.slice a2 (potL pts pen).length c2) (potL pts pen)) (gc : Sl σ F SL.encZ 1 (.slice b cuts.length d) cuts) (hb : PtsB pts) (h1 : 1 ≤ pts.length) (hp : 0 ≤ pen ∧ pen ≤ 1000) (hc : Cuts pts.length 0 cuts) :
    FnT Try.prog σ F 22 [.slice a pts.length c, .int .i64 pen, .slice a2 (potL pts pen).length c2, .agg #[.slice b cuts.length d, .int .i64 (totZ pts pen cuts)]] [] (fun u ρ => u = .int .i64 (if totZ pts pen cuts = (bstN (segC pts) pen false pts.length).1 then 0 else 24) ∧ ρ = []) := by
  refine fn_of 97 Try.func22 rfl Try.ntmps22 rfl ?_
  have hle := hb.len
  have hpl := pot_len pts pen
  have hp0 : (potL pts pen)[0]? = some (-pen) := by rw [pot_get (Nat.zero_le _), bst_zero]
  have hpn := pot_get (pts := pts) (pen := pen) (Nat.le_refl pts.length)
  obtain ⟨T, hT⟩ : ∃ T, T = totZ pts pen cuts := ⟨_, rfl⟩
  rw [← hT]
  refine w_seq (w_region (wl_op [] rfl rfl rfl rfl (op_box (T := 60) (l := 7) rfl) ?_))
  rintro _ _ ⟨b7, rfl, rfl⟩
  refine za rfl (wl_nil (st_tn (w_seq (w_region (zm rfl (zm rfl (zd rfl (op_fieldAddr (off := 0) rfl tF60_0ui) (zd rfl (op_load1 rfl tO30ui (Ent.lab (l := 7) rfl (says_cel 0))) (zd rfl (op_fn Try.func20 rfl rfl rfl (fn_imp (totalS pen (g.app _) (gc.app _) hb h1 hp hc) (fun u ρ hu => (by rw [show pen * (cuts.length : Int) + sgs (segC pts) pts.length 0 cuts = T from hT.symm] at hu; exact hu : u = .tuple #[.int .i64 T, .int .i64 0] ∧ ρ = [])))) ?_)))))))))
  refine zm rfl (zd rfl (op_extract rfl rfl) (zd rfl (op_extract rfl rfl) (za rfl (za rfl (wl_nil (st_tn (w_seq (w_seq (w_region (zm rfl (zd rfl (op_val (v' := .bool false) (by rfl) (op_neq rfl rfl)) ?_)))))))))))
  refine wl_nil (st_tn (w_cond_f (rfl) ?_))
  refine w_skip (st_tn (w_seq (w_region (zm rfl (zd rfl (op_lenT rfl tS30ui (Sl.ent (g.app _))) (za rfl (wl_nil (st_tn (w_seq (w_seq (w_region (zd rfl (op_fieldAddr (off := 1) rfl tF60_1ui) (zd rfl (op_load1 rfl tO3ui (Ent.lab (l := 7) rfl (says_cel 1))) ?_)))))))))))))
  refine zm rfl (zd rfl (op_val (v' := .bool false) (by rw [decide_eq_false (fun h => h rfl)]) (op_neq rfl rfl)) ?_)
  refine zm rfl (wl_wanted_det rfl rfl rfl rfl rfl rfl rfl (op_move rfl) (wl_wanted_det rfl rfl rfl rfl rfl rfl rfl (op_lenT rfl tS30ui (Sl.ent (gp.app _))) (wl_wanted_det rfl rfl rfl rfl rfl rfl rfl (op_move rfl) (wl_wanted_det rfl rfl rfl rfl rfl rfl rfl (op_add' rfl rfl (by omega)) ?_))))
  refine wl_wanted_det rfl rfl rfl rfl rfl rfl rfl (op_val (v' := .bool false) (by rw [decide_eq_false (by omega)]) (op_neq rfl rfl)) ?_
  refine zd rfl (op_pick_f rfl rfl) (wl_nil (st_tn (w_cond_f (rfl) ?_)))
  refine w_skip (st_tn (w_seq (w_seq (w_region (zm rfl (zd rfl (op_lenT rfl tS30ui (Sl.ent (gp.app _))) (zm rfl (wl_nil (st_tn (w_block ?_))))))))))
  refine w_loopQ (X := Nat) (fun z => z ≤ pts.length + 1) (fun z => [(43, .int .i64 (z))]) (fun _ => []) (fun z => pts.length + 1 - z) (0) [(0, _), (1, _), (2, _), (7, _), (11, _), (41, _), (42, _)] [(7, _)] [7] rfl (rfl) (.cons rfl (.nil _)) (.cons rfl (.cons rfl (.cons rfl (.cons rfl (.cons rfl (.cons rfl (.cons rfl (.nil _)))))))) (by
      try dsimp only
      exact Nat.zero_le _) ?_
  rintro i hi
  refine w_norm2 (by dsimp only [List.cons_append, List.nil_append]) (by dsimp only [List.cons_append, List.nil_append]) ?_
  try dsimp only at hi ⊢
  refine w_seq (w_region (zd rfl (op_lss rfl rfl) (wl_nil (st_tn (w_seq (w_cond_d rfl (fun hc44 => ?_) (fun hc44 => ?_)))))))
  · -- c44.t
    have hpi := pot_get (pts := pts) (pen := pen) (show i ≤ pts.length by omega)
    have hbd := bst_bd hp (segC_pos pts hb) false i
    refine w_skip (st_tn (w_seq (w_block (w_seq (w_region (zd rfl (op_idx rfl rfl tS30ui (Sl.ent (gp.app _)) (by omega)) ?_))))))
    refine zd rfl (op_ldx rfl tO3ui (gp.app _) (by assumption) (by rfl)) ?_
    refine za rfl (wl_nil (st_tn (w_seq (w_region (zm rfl (zd rfl (op_val (v' := .bool false) (by rw [decide_eq_false (by omega)]) (op_lss rfl rfl)) ?_))))))
    refine zm rfl (wl_wanted_det rfl rfl rfl rfl rfl rfl rfl (op_move rfl) (wl_wanted_det rfl rfl rfl rfl rfl rfl rfl (op_val (v' := .bool false) (by rw [decide_eq_false (by omega)]) (op_gtr rfl rfl)) ?_))
    refine zd rfl (op_pick_f rfl rfl) (wl_nil (st_tn (w_cond_f (rfl) ?_)))
    refine w_skip (st_bn (st_tn (w_region (zd rfl (op_add' rfl rfl (by omega)) ?_))))
    refine zm rfl (wl_nil ?_)
    refine st_roundQ (x := i) (i + 1) [7] rfl (rfl) (.cons rfl (.nil _)) (.cons rfl (.cons rfl (.cons rfl (.cons rfl (.cons rfl (.cons rfl (.cons rfl (.nil _)))))))) (by
        try dsimp only
        omega) (by
        try dsimp only
        omega)
  · -- c44.f
    refine w_exit (st_te ?_)
    refine st_te ?_
    refine st_be (st_tn (w_seq (w_seq ?_)))
    obtain ⟨B, hB⟩ : ∃ B, B = (bstN (segC pts) pen false pts.length).1 := ⟨_, rfl⟩
    rw [← hB] at hpn
    refine w_drawW (fun β => [⟨54, [], [], [], noW (_), false, [], []⟩, ⟨55, [0], [], [], noW (_), false, [], []⟩, ⟨56, [1], [], [], noW (_), false, [], []⟩, ⟨57, [], [], [], noW (_), false, [], []⟩, ⟨58, [3], [], [], noW (_), false, [], []⟩, ⟨59, [2, 4], [], [], noW (_), false, [], []⟩, ⟨60, [5], [], [], noW (_), false, [], []⟩, ⟨61, [], [], [], noW (_), false, [], []⟩, ⟨62, [], [], [], noW (_), false, [], []⟩, ⟨63, [7, 8], [], [], noW (_), false, [], []⟩, ⟨64, [9], [], [], noW (_), false, [], []⟩, ⟨65, [], [], [], noW (_), false, [], []⟩, ⟨66, [11], [], [], noW (_), false, [], []⟩, ⟨67, [10, 12], [], [], noW (_), false, [], []⟩, ⟨68, [6, 13], [], [], noW (_), false, [], []⟩]) [] [2, 1, 11, 7] [⟨54, [], [], false, [], []⟩, ⟨55, [0], [], false, [], []⟩, ⟨56, [1], [], false, [], []⟩, ⟨57, [], [], false, [], []⟩, ⟨58, [3], [], false, [], []⟩, ⟨59, [2, 4], [], false, [], []⟩, ⟨60, [5], [], false, [], []⟩, ⟨61, [], [], false, [], []⟩, ⟨62, [], [], false, [], []⟩, ⟨63, [7, 8], [], false, [], []⟩, ⟨64, [9], [], false, [], []⟩, ⟨65, [], [], false, [], []⟩, ⟨66, [11], [], false, [], []⟩, ⟨67, [10, 12], [], false, [], []⟩, ⟨68, [6, 13], [], false, [], []⟩] [[], [], [], [], [], [], [], [], [], [], [], [], [], [], []] [[], [], [], [], [], [], [], [], [], [], [], [], [], [], []] tMixui (fun _ => by rfl) (fun _ => by rfl) (by kernel_rfl) (by kernel_rfl) (by rfl) (by rfl)
        (fun β => ⟨.p rfl (by intro X; exact op_move rfl),
        ⟨.p rfl (by intro X; rintro _ _ ⟨rfl, rfl⟩; exact op_idx (i := 0) rfl rfl tS30ui (Sl.ent (Sl.app (Sl.app gp X) _)) (by omega)),
        ⟨.p rfl (by intro X; rintro _ _ ⟨rfl, rfl⟩; exact op_ldx rfl tO3ui (Sl.app (Sl.app gp X) _) hp0 (by rfl)),
        ⟨.p rfl (by intro X; exact op_move rfl),
        ⟨.p rfl (by intro X; rintro _ _ ⟨rfl, rfl⟩; exact op_neg rfl (by omega)),
        ⟨.p rfl (by intro X; rintro _ _ ⟨rfl, rfl⟩ _ _ ⟨rfl, rfl⟩; exact op_val (v' := .bool false) (by rw [decide_eq_false (fun h => h rfl)]) (op_neq rfl rfl)),
        ⟨.p rfl (by intro X; rintro _ _ ⟨rfl, rfl⟩; exact op_move rfl),
        ⟨.w rfl rfl rfl (by rintro _ _ ⟨rfl, rfl⟩; first | rfl | (exact congrArg Value.bool (decide_eq_true (by omega))) | (exact congrArg Value.bool (decide_eq_false (by omega))) | (simp; done) | (simp; omega) | (simp [*]; done)) (by intro X; exact op_move rfl),
        ⟨.w rfl rfl rfl (by rintro _ _ ⟨rfl, rfl⟩; first | rfl | (exact congrArg Value.bool (decide_eq_true (by omega))) | (exact congrArg Value.bool (decide_eq_false (by omega))) | (simp; done) | (simp; omega) | (simp [*]; done)) (by intro X; exact op_move rfl),
        ⟨.w rfl rfl rfl (by rintro _ _ ⟨rfl, rfl⟩; first | rfl | (exact congrArg Value.bool (decide_eq_true (by omega))) | (exact congrArg Value.bool (decide_eq_false (by omega))) | (simp; done) | (simp; omega) | (simp [*]; done)) (by intro X; rintro _ _ ⟨rfl, rfl⟩ _ _ ⟨rfl, rfl⟩; exact op_idx rfl rfl tS30ui (Sl.ent (Sl.app (Sl.app gp X) _)) (by omega)),
        ⟨.w rfl rfl rfl (by rintro _ _ ⟨rfl, rfl⟩; first | rfl | (exact congrArg Value.bool (decide_eq_true (by omega))) | (exact congrArg Value.bool (decide_eq_false (by omega))) | (simp; done) | (simp; omega) | (simp [*]; done)) (by intro X; rintro _ _ ⟨rfl, rfl⟩; exact op_ldx rfl tO3ui (Sl.app (Sl.app gp X) _) (by assumption) (by rfl)),
        ⟨.w rfl rfl rfl (by rintro _ _ ⟨rfl, rfl⟩; first | rfl | (exact congrArg Value.bool (decide_eq_true (by omega))) | (exact congrArg Value.bool (decide_eq_false (by omega))) | (simp; done) | (simp; omega) | (simp [*]; done)) (by intro X; exact op_fieldAddr (off := 1) rfl tF60_1ui),
        ⟨.w rfl rfl rfl (by rintro _ _ ⟨rfl, rfl⟩; first | rfl | (exact congrArg Value.bool (decide_eq_true (by omega))) | (exact congrArg Value.bool (decide_eq_false (by omega))) | (simp; done) | (simp; omega) | (simp [*]; done)) (by intro X; rintro _ _ ⟨rfl, rfl⟩; exact op_load1 rfl tO3ui (Ent.lab (l := 7) rfl (says_cel 1))),
        ⟨.w rfl rfl rfl (by rintro _ _ ⟨rfl, rfl⟩; first | rfl | (exact congrArg Value.bool (decide_eq_true (by omega))) | (exact congrArg Value.bool (decide_eq_false (by omega))) | (simp; done) | (simp; omega) | (simp [*]; done)) (by intro X; rintro _ _ ⟨rfl, rfl⟩ _ _ ⟨rfl, rfl⟩; exact op_neq rfl rfl),
        ⟨.p rfl (by intro X; rintro _ _ ⟨rfl, rfl⟩ _ _ ⟨rfl, rfl⟩; exact op_pick_f rfl rfl),
        trivial⟩⟩⟩⟩⟩⟩⟩⟩⟩⟩⟩⟩⟩⟩⟩)
        (fun β β' => ⟨fun _ => by rfl, ⟨fun _ => by rfl, ⟨fun _ => by rfl, ⟨fun _ => by rfl, ⟨fun _ => by rfl, ⟨fun _ => by rfl, ⟨fun _ => by rfl, ⟨fun _ => by rfl, ⟨fun _ => by rfl, ⟨fun _ => by rfl, ⟨fun _ => by rfl, ⟨fun _ => by rfl, ⟨fun _ => by rfl, ⟨fun _ => by rfl, ⟨fun _ => by rfl, trivial⟩⟩⟩⟩⟩⟩⟩⟩⟩⟩⟩⟩⟩⟩⟩) ?_
    intro β
    rintro _ _ ⟨rfl, rfl⟩ _ _ ⟨rfl, rfl⟩ _ _ ⟨rfl, rfl⟩ _ _ ⟨rfl, rfl⟩ _ _ ⟨rfl, rfl⟩ _ _ ⟨rfl, rfl⟩ _ _ ⟨rfl, rfl⟩ _ _ ⟨rfl, rfl⟩ _ _ ⟨rfl, rfl⟩ _ _ ⟨rfl, rfl⟩ _ _ ⟨rfl, rfl⟩ _ _ ⟨rfl, rfl⟩ _ _ ⟨rfl, rfl⟩ _ _ ⟨rfl, rfl⟩ _ _ ⟨rfl, rfl⟩
    refine wl_norm (e' := [(0, _), (1, _), (2, _), (11, _), (68, _)]) (.cons rfl (.cons rfl (.cons rfl (.cons rfl (.cons rfl (.nil _)))))) (by dsimp only [cond_false, cond_true, List.nil_append, List.cons_append]) ?_
    refine wl_nil (st_tn (w_cond_d rfl (fun hc68 => ?_) (fun hc68 => ?_)))
    · -- c68.t
      refine w_seq (w_region (za rfl (wl_nil (st_tn (w_ret (st_tr (st_ret (vs := [_]) [] Try.results22 ⟨rfl, trivial⟩ rfl ?_)))))))
      refine ⟨_, rfl, ?_⟩
      rw [if_neg (by omega)]; exact ⟨rfl, rfl⟩
    · -- c68.f
      have hTB : T = B := by omega
      refine w_skip (st_tn (w_seq (w_seq (w_region (za rfl (wl_nil (st_tn (w_block ?_))))))))
      refine w_loopQ (X := Nat) (fun z => 1 ≤ z ∧ z ≤ pts.length + 1) (fun z => [(14, .int .i64 (z))]) (fun _ => []) (fun z => pts.length + 1 - z) (1) [(0, _), (1, _), (2, _), (11, _)] [] [] rfl (rfl) (.cons rfl (.nil _)) (.cons rfl (.cons rfl (.cons rfl (.cons rfl (.nil _))))) (by
          try dsimp only
          exact ⟨Nat.le_refl _, by omega⟩) ?_
      rintro t ⟨ht1, ht2⟩
      refine w_norm2 (by dsimp only [List.cons_append, List.nil_append]) (by dsimp only [List.cons_append, List.nil_append]) ?_
      try dsimp only at ht1 ht2 ⊢
      refine w_seq (w_seq (w_region (zm rfl (zm rfl (zd rfl (op_leq rfl rfl) (wl_nil (st_tn (w_cond_d rfl (fun hc71 => ?_) (fun hc71 => ?_)))))))))
      · -- c71.t
        have hcol := costs_len pts t
        have hpt := pot_get (pts := pts) (pen := pen) (show t ≤ pts.length by omega)
        refine w_skip (st_tn (w_seq (w_block (w_seq (w_region (zm rfl (zm rfl (wl_op [] rfl rfl rfl rfl (op_fn Try.func40 rfl rfl rfl (costsS (t := t) 76 (g.app _) hb (by omega))) ?_))))))))
        rintro _ _ ⟨a76, c76, rfl, rfl⟩
        refine zd rfl (op_lenT rfl tS30ui (Sl.ent (Sl.lab 76 rfl (by unfold maxLen; omega)))) ?_
        refine zm rfl (wl_nil (st_tn (w_block ?_)))
        refine w_loopQ (X := Nat) (fun z => z ≤ t) (fun z => [(78, .int .i64 (z))]) (fun _ => []) (fun z => t - z) (0) [(0, _), (1, _), (2, _), (11, _), (14, _), (76, _), (77, _)] [(76, _)] [76] rfl (rfl) (.cons rfl (.nil _)) (.cons rfl (.cons rfl (.cons rfl (.cons rfl (.cons rfl (.cons rfl (.cons rfl (.nil _)))))))) (by
            try dsimp only
            exact Nat.zero_le _) ?_
        rintro k hk
        refine w_norm2 (by dsimp only [List.cons_append, List.nil_append]) (by dsimp only [List.cons_append, List.nil_append]) ?_
        try dsimp only at hk ⊢
        refine w_seq (w_region (zd rfl (op_lss rfl rfl) (wl_nil (st_tn (w_seq (w_cond_d rfl (fun hc79 => ?_) (fun hc79 => ?_)))))))
        · -- c79.t
          have hkt : k < t := by omega
          have hck := costs_get pts hkt
          have hpk := pot_get (pts := pts) (pen := pen) (show k ≤ pts.length by omega)
          have hbk := bst_bd hp (segC_pos pts hb) false k
          have hvb := segC_pos pts hb k t
          have hlek : (bstN (segC pts) pen false t).1 ≤ (bstN (segC pts) pen false k).1 + pen + segC pts k t := by
            have h9 := bst_le (segC pts) pen (s := k) (t := t - 1) (by omega)
            rwa [show t - 1 + 1 = t by omega] at h9
          refine w_skip (st_tn (w_seq (w_block (w_seq (w_region (zm rfl (zd rfl (op_idx rfl rfl tS30ui (Sl.ent (Sl.lab 76 rfl (by unfold maxLen; omega))) (by omega)) ?_)))))))
          refine zd rfl (op_ldx rfl tO3ui (Sl.lab 76 rfl (by unfold maxLen; omega)) (by assumption) (by rfl)) ?_
          refine za rfl (za rfl (wl_nil (st_tn (w_seq ?_))))
          refine w_drawW (fun β => [⟨83, [], [], [], noW (_), false, [], []⟩, ⟨84, [], [], [], noW (_), false, [], []⟩, ⟨85, [0, 1], [], [], noW (_), false, [], []⟩, ⟨86, [2], [], [], noW (_), false, [], []⟩, ⟨87, [], [], [], noW (_), false, [], []⟩, ⟨88, [], [], [], noW (_), false, [], []⟩, ⟨89, [4, 5], [], [], noW (_), false, [], []⟩, ⟨90, [6], [], [], noW (_), false, [], []⟩, ⟨91, [], [], [], noW (_), false, [], []⟩, ⟨92, [7, 8], [], [], noW (_), false, [], []⟩, ⟨93, [], [], [], noW (_), false, [], []⟩, ⟨94, [9, 10], [], [], noW (_), false, [], []⟩]) [] [2, 14, 15, 1, 16] [⟨83, [], [], false, [], []⟩, ⟨84, [], [], false, [], []⟩, ⟨85, [0, 1], [], false, [], []⟩, ⟨86, [2], [], false, [], []⟩, ⟨87, [], [], false, [], []⟩, ⟨88, [], [], false, [], []⟩, ⟨89, [4, 5], [], false, [], []⟩, ⟨90, [6], [], false, [], []⟩, ⟨91, [], [], false, [], []⟩, ⟨92, [7, 8], [], false, [], []⟩, ⟨93, [], [], false, [], []⟩, ⟨94, [9, 10], [], false, [], []⟩] [[], [], [], [], [], [], [], [], [], [], [], []] [[], [], [], [], [], [], [], [], [], [], [], []] tMixui (fun _ => by rfl) (fun _ => by rfl) (by kernel_rfl) (by kernel_rfl) (by rfl) (by rfl)
              (fun β => ⟨.p rfl (by intro X; exact op_move rfl),
              ⟨.p rfl (by intro X; exact op_move rfl),
              ⟨.p rfl (by intro X; rintro _ _ ⟨rfl, rfl⟩ _ _ ⟨rfl, rfl⟩; exact op_idx rfl rfl tS30ui (Sl.ent (Sl.app (Sl.app gp X) _)) (by omega)),
              ⟨.p rfl (by intro X; rintro _ _ ⟨rfl, rfl⟩; exact op_ldx rfl tO3ui (Sl.app (Sl.app gp X) _) hpt (by rfl)),
              ⟨.p rfl (by intro X; exact op_move rfl),
              ⟨.p rfl (by intro X; exact op_move rfl),
              ⟨.p rfl (by intro X; rintro _ _ ⟨rfl, rfl⟩ _ _ ⟨rfl, rfl⟩; exact op_idx rfl rfl tS30ui (Sl.ent (Sl.app (Sl.app gp X) _)) (by omega)),
              ⟨.p rfl (by intro X; rintro _ _ ⟨rfl, rfl⟩; exact op_ldx rfl tO3ui (Sl.app (Sl.app gp X) _) hpk (by rfl)),
              ⟨.p rfl (by intro X; exact op_move rfl),
              ⟨.p rfl (by intro X; rintro _ _ ⟨rfl, rfl⟩ _ _ ⟨rfl, rfl⟩; exact op_add' rfl rfl (by omega)),
              ⟨.p rfl (by intro X; exact op_move rfl),
              ⟨.p rfl (by intro X; rintro _ _ ⟨rfl, rfl⟩ _ _ ⟨rfl, rfl⟩; exact op_add' rfl rfl (by omega)),
              trivial⟩⟩⟩⟩⟩⟩⟩⟩⟩⟩⟩⟩)
              (fun β β' => ⟨fun _ => by rfl, ⟨fun _ => by rfl, ⟨fun _ => by rfl, ⟨fun _ => by rfl, ⟨fun _ => by rfl, ⟨fun _ => by rfl, ⟨fun _ => by rfl, ⟨fun _ => by rfl, ⟨fun _ => by rfl, ⟨fun _ => by rfl, ⟨fun _ => by rfl, ⟨fun _ => by rfl, trivial⟩⟩⟩⟩⟩⟩⟩⟩⟩⟩⟩⟩) ?_
          intro β
          rintro _ _ ⟨rfl, rfl⟩ _ _ ⟨rfl, rfl⟩ _ _ ⟨rfl, rfl⟩ _ _ ⟨rfl, rfl⟩ _ _ ⟨rfl, rfl⟩ _ _ ⟨rfl, rfl⟩ _ _ ⟨rfl, rfl⟩ _ _ ⟨rfl, rfl⟩ _ _ ⟨rfl, rfl⟩ _ _ ⟨rfl, rfl⟩ _ _ ⟨rfl, rfl⟩ _ _ ⟨rfl, rfl⟩
          refine wl_norm (e' := [(0, _), (1, _), (2, _), (11, _), (14, _), (76, _), (77, _), (78, _), (86, _), (94, _)]) (.cons rfl (.cons rfl (.cons rfl (.cons rfl (.cons rfl (.cons rfl (.cons rfl (.cons rfl (.cons rfl (.cons rfl (.nil _))))))))))) (by dsimp only [cond_false, cond_true, List.nil_append, List.cons_append]) ?_
          refine zd rfl (op_gtr rfl rfl) (wl_nil (st_tn (w_cond_d rfl (fun hc95 => ?_) (fun hc95 => ?_))))
          · -- c95.t
            exfalso; omega
          · -- c95.f
            refine w_skip (st_bn (st_tn (w_region (zd rfl (op_add' rfl rfl (by omega)) ?_))))
            refine zm rfl (wl_nil ?_)
            refine st_roundQ (x := k) (k + 1) [76] rfl (rfl) (.cons rfl (.nil _)) (.cons rfl (.cons rfl (.cons rfl (.cons rfl (.cons rfl (.cons rfl (.cons rfl (.nil _)))))))) (by
                try dsimp only
                omega) (by
                try dsimp only
                omega)
        · -- c79.f
          refine w_exit (st_te ?_)
          refine st_te ?_
          refine st_be (st_bn (st_tn (w_region (zm rfl (zd rfl (op_add' rfl rfl (by omega)) ?_)))))
          refine za rfl (wl_nil ?_)
          refine st_roundQ (x := t) (t + 1) [] rfl (rfl) (.cons rfl (.nil _)) (.cons rfl (.cons rfl (.cons rfl (.cons rfl (.nil _))))) (by
              try dsimp only
              exact ⟨by omega, by omega⟩) (by
              try dsimp only
              omega)
      · -- c71.f
        refine w_exit (st_te ?_)
        refine st_te ?_
        refine st_be (st_tn (w_seq (w_region (za rfl (wl_nil (st_tn (w_ret (st_ret (vs := [_]) [] Try.results22 ⟨rfl, trivial⟩ rfl ?_))))))))
        refine ⟨_, rfl, ?_⟩
        rw [if_pos (by rw [← hB]; exact hTB)]; exact ⟨rfl, rfl⟩
end Go.Proofs.Ytecmigildpkigaa
namespace Go.Proofs.Ytecmigildpkigaa
open Go Go.SL Go.RowKit Go.SegP
set_option linter.unusedVariables false
set_option linter.unusedSimpArgs false
theorem row_unique {C : Nat → Nat → Int} {k t : Nat} {u v : Int} (h1 : IsRow C k t u) (h2 : IsRow C k t v) : u = v := by
  cases k with
  | zero => exact (show u = _ from h1).trans (show v = _ from h2).symm
  | succ k =>
    obtain ⟨⟨x1, y1, z1, w1, q1⟩, r1⟩ := h1
    obtain ⟨⟨x2, y2, z2, w2, q2⟩, r2⟩ := h2
    have := r1 x2 y2 z2.1 z2.2 w2
    have := r2 x1 y1 z1.1 z1.2 w1
    omega
theorem row_bd {C : Nat → Nat → Int} (hC : ∀ s t, 0 ≤ C s t ∧ C s t ≤ 200000) : ∀ {k t : Nat} {v : Int}, IsRow C k t v → 0 ≤ v ∧ v ≤ 200000 * (k + 1)
  | 0, t, v, h => by
    have h0 : v = C 0 t := h
    have := hC 0 t
    simp; omega
  | k + 1, t, v, h => by
    obtain ⟨⟨s, u, _, h2, h3⟩, _⟩ := h
    have ih := row_bd hC h2
    have := hC s t
    omega
def CurOk (C : Nat → Nat → Int) (q t s : Nat) (v : Int) : Prop := (∃ s0 u, (q < s0 ∧ s0 < s) ∧ IsRow C q s0 u ∧ v = u + C s0 t) ∧ ∀ s0 u, q < s0 → s0 < s → IsRow C q s0 u → v ≤ u + C s0 t
theorem cur_row {C : Nat → Nat → Int} {q t : Nat} {v : Int} (h : CurOk C q t t v) : IsRow C (q + 1) t v := h
theorem cur_first {C : Nat → Nat → Int} {q t : Nat} {u : Int} (h : IsRow C q (q + 1) u) : CurOk C q t (q + 1 + 1) (u + C (q + 1) t) :=
  ⟨⟨q + 1, u, ⟨by omega, by omega⟩, h, rfl⟩, fun s0 w h1 h2 h3 => by
    have : s0 = q + 1 := by omega
    subst this
    have := row_unique h h3
    omega⟩
theorem cur_keep {C : Nat → Nat → Int} {q t s : Nat} {u v : Int} (hs : q < s) (h : CurOk C q t s v) (hu : IsRow C q s u) (hle : v ≤ u + C s t) : CurOk C q t (s + 1) v := by
  obtain ⟨⟨s0, w, ⟨a1, a2⟩, a3, a4⟩, b⟩ := h
  refine ⟨⟨s0, w, ⟨a1, by omega⟩, a3, a4⟩, fun s1 w1 h1 h2 h3 => ?_⟩
  by_cases e : s1 = s
  · subst e; have := row_unique hu h3; omega
  · exact b s1 w1 h1 (by omega) h3
theorem cur_new {C : Nat → Nat → Int} {q t s : Nat} {u v : Int} (hs : q < s) (h : CurOk C q t s v) (hu : IsRow C q s u) (hle : u + C s t ≤ v) : CurOk C q t (s + 1) (u + C s t) := by
  obtain ⟨_, b⟩ := h
  refine ⟨⟨s, u, ⟨hs, by omega⟩, hu, rfl⟩, fun s1 w1 h1 h2 h3 => ?_⟩
  by_cases e : s1 = s
  · subst e; have := row_unique hu h3; omega
  · have := b s1 w1 h1 (by omega) h3; omega
def CellOk (C : Nat → Nat → Int) (k t : Nat) (P : PZ) (x : BstV) : Prop := IsRow C k t x.tot ∧ InZ P x ∧ x.cuts.length ≤ k
def RowOk (C : Nat → Nat → Int) (k m : Nat) (P : PZ) (row : List BstV) : Prop := ∀ t, k < t → t < m → ∃ x, row[t]? = some x ∧ CellOk C k t P x
theorem RowOk.more {C : Nat → Nat → Int} {k m : Nat} {P : PZ} {row : List BstV} (h : RowOk C k m P row) (q : Value × List Int) : RowOk C k m (q :: P) row := fun t h1 h2 => by
  obtain ⟨x, a1, a2, a3, a4⟩ := h t h1 h2
  exact ⟨x, a1, a2, a3.more q, a4⟩
theorem RowOk.set {C : Nat → Nat → Int} {k m : Nat} {P : PZ} {row : List BstV} (h : RowOk C k m P row) (x : BstV) : RowOk C k m P (row.set m x) := fun t h1 h2 => by
  obtain ⟨y, a1, a2⟩ := h t h1 h2
  exact ⟨y, by rw [List.getElem?_set_ne (by omega)]; exact a1, a2⟩
theorem RowOk.succ {C : Nat → Nat → Int} {k m : Nat} {P : PZ} {row : List BstV} {x : BstV} (h : RowOk C k m P row) (hx : row[m]? = some x) (hc : CellOk C k m P x) : RowOk C k (m + 1) P row := fun t h1 h2 => by
  by_cases e : t = m
  · subst e; exact ⟨x, hx, hc⟩
  · exact h t h1 (by omega)
def TbOk (pts : List Int) (m : Nat) (P : PZ) (tb : List HdV) : Prop := ∀ t, 1 ≤ t → t < m → ∃ h : HdV, tb[t]? = some h ∧ (Value.slice h.1 h.2.1 h.2.2, costsL pts t) ∈ P
theorem TbOk.more {pts : List Int} {m : Nat} {P : PZ} {tb : List HdV} (h : TbOk pts m P tb) (q : Value × List Int) : TbOk pts m (q :: P) tb := fun t h1 h2 => by
  obtain ⟨x, a1, a2⟩ := h t h1 h2
  exact ⟨x, a1, List.mem_cons_of_mem _ a2⟩
theorem TbOk.add {pts : List Int} {m : Nat} {P : PZ} {tb : List HdV} (h : TbOk pts m P tb) (hm : m < tb.length) (x : HdV) : TbOk pts (m + 1) ((Value.slice x.1 x.2.1 x.2.2, costsL pts m) :: P) (tb.set m x) := fun t h1 h2 => by
  by_cases e : t = m
  · subst e; exact ⟨x, List.getElem?_set_self hm, List.mem_cons_self⟩
  · obtain ⟨y, a1, a2⟩ := h t h1 (by omega)
    exact ⟨y, by rw [List.getElem?_set_ne (by omega)]; exact a1, List.mem_cons_of_mem _ a2⟩
abbrev SgV := Option Addr × Nat × Nat × Int
def encSg (s : SgV) : List Value := [.slice s.1 s.2.1 s.2.2.1, .int .i64 s.2.2.2]
theorem enc1Sg : Enc1 encSg 2 := ⟨fun _ => rfl, fun a u h => by simp only [encSg, List.mem_cons, List.not_mem_nil, or_false] at h; rcases h with rfl | rfl <;> rfl⟩
def CntOk (pts : List Int) (k : Nat) (L : List SgV) : Prop := L.length = k ∧ ∀ q, q < k → ∃ s, L[q]? = some s ∧ IsRow (segC pts) q pts.length s.2.2.2
theorem CntOk.add {pts : List Int} {k : Nat} {L : List SgV} (h : CntOk pts k L) (s : SgV) (hs : IsRow (segC pts) k pts.length s.2.2.2) : CntOk pts (k + 1) (L ++ [s]) := by
  obtain ⟨h1, h2⟩ := h
  refine ⟨by rw [List.length_append, h1]; rfl, fun q hq => ?_⟩
  by_cases e : q = k
  · subst e; exact ⟨s, by rw [List.getElem?_append_right (by omega), h1, Nat.sub_self]; rfl, hs⟩
  · obtain ⟨y, a1, a2⟩ := h2 q (by omega)
    exact ⟨y, by rw [List.getElem?_append_left (by omega)]; exact a1, a2⟩
theorem tKb : makeK Try.prog 92 97 32 2 = some (.agg #[.int .i64 0, .slice none 0 0]) := by kernel_rfl
theorem tKh : makeK Try.prog 99 30 24 1 = some (.slice none 0 0) := by kernel_rfl
theorem tZbst : (Try.prog.info? 97).map (·.size) = some 2 := by kernel_rfl
end Go.Proofs.Ytecmigildpkigaa
namespace Go.Proofs.Ytecmigildpkigaa
open Go Go.SL Go.RowKit Go.SegP
set_option linter.unusedVariables false
set_option linter.unusedSimpArgs false
theorem tA97uk : aggB Try.prog 97 2 = true := by kernel_rfl
theorem tB60uk : placesB Try.prog 60 = some ([(0, 1), (1, 1)], [Value.slice none 0 0, Value.int .i64 0]) := by kernel_rfl
theorem tB97uk : placesB Try.prog 97 = some ([(0, 1), (1, 1)], [Value.int .i64 0, Value.slice none 0 0]) := by kernel_rfl
theorem tF97_0uk : fieldB Try.prog 97 0 0 = true := by kernel_rfl
theorem tF97_1uk : fieldB Try.prog 97 1 1 = true := by kernel_rfl
theorem tL67_1uk : zerosB Try.prog 67 60 2 1 = some [Value.slice none 0 0, Value.int .i64 0] := by kernel_rfl
theorem tMixuk : Try.prog.follows .mixedOrders = true := by kernel_rfl
theorem tN97uk : (Try.prog.info? 97).bind (·.zero) = some (Value.agg #[Value.int .i64 0, Value.slice none 0 0]) := by kernel_rfl
theorem tO3uk : oneB Try.prog 3 = true := by kernel_rfl
theorem tO30uk : oneB Try.prog 30 = true := by kernel_rfl
theorem tP67uk : appB Try.prog 67 60 2 32 = true := by kernel_rfl
theorem tS30uk : sliceB Try.prog 30 3 1 = true := by kernel_rfl
theorem tS92uk : sliceB Try.prog 92 97 2 = true := by kernel_rfl
theorem tS99uk : sliceB Try.prog 99 30 1 = true := by kernel_rfl
theorem tZ97uk : (Try.prog.info? 97).map (·.size) = some 2 := by kernel_rfl
abbrev LHd := List HdV
abbrev LBst := List BstV
abbrev OAdr := Option Addr
theorem cnt_one {pts : List Int} {v : Int} (h : SegP.IsRow (segC pts) 0 pts.length v) : CntOk pts 1 [((none : Option Addr), 0, 0, v)] := ⟨rfl, fun q hq => by
  obtain rfl : q = 0 := by omega
  exact ⟨_, rfl, h⟩⟩
set_option maxHeartbeats 6000000 in
set_option maxRecDepth 100000 in
theorem countsS {σ : World} {F : List Res} {a : Option Addr} {c : Nat} {pts : List Int} (lab : Nat) (g : Sl σ F SL.encZ 1 (.slice a pts.length c) pts) (hb : PtsB pts) (h1 : 1 ≤ pts.length) :
    FnT Try.prog σ F 21 [.slice a pts.length c, .int .i64 pts.length] [] (fun u ρ => ∃ (L : List SgV) (a' : Option Addr) (c' : Nat), CntOk pts pts.length L ∧ u = .tuple #[.slice a' L.length c', .int .i64 0] ∧ ρ = [(lab, slW 60 encSg 2 (.slice a' L.length c') L)]) := by
  refine fn_of 159 Try.func21 rfl Try.ntmps21 rfl ?_
  have hle := hb.len
  have hCb := segC_pos pts hb
  refine w_seq (w_region (za rfl (za rfl (wl_nil (st_tn (w_seq (w_seq (w_region (zm rfl (zd rfl (op_fn Try.func34 rfl rfl rfl (checkS 0 (g.app _) hb h1 (by omega))) ?_))))))))))
  refine za rfl (wl_nil (st_tn (w_seq (w_region (zm rfl (zd rfl (op_val (v' := .bool false) (by rfl) (op_neq rfl rfl)) ?_))))))
  refine wl_nil (st_tn (w_cond_f (rfl) ?_))
  refine w_skip (st_tn (w_seq (w_seq (w_region (zm rfl (zd rfl (op_val (v' := .bool false) (by rw [decide_eq_false (by omega)]) (op_lss rfl rfl)) ?_))))))
  refine wl_nil (st_tn (w_cond_f (rfl) ?_))
  refine w_skip (st_tn (w_seq (w_region (zm rfl (zd rfl (op_lenT rfl tS30uk (Sl.ent (g.app _))) (za rfl (wl_nil (st_tn (w_seq (w_region (zm rfl (zd rfl (op_add' rfl rfl (by omega)) ?_))))))))))))
  refine wl_op [] rfl rfl rfl rfl (op_makeSliceK (enc := encHd) (m := pts.length + 1) (a0 := ((none : Option Addr), 0, 0)) (lab := 29) rfl rfl tKh (fun _ => rfl) (by decide) rfl (by omega) (by unfold maxLen; omega)) ?_
  rintro _ _ ⟨a29, c29, rfl, rfl⟩
  refine za rfl (wl_nil (st_tn (w_seq (w_seq (w_emp 605 pool_start ?_)))))
  refine w_region (za rfl (wl_nil (st_tn (w_block ?_))))
  refine w_loopQ (X := LHd × Nat × PZ) (fun z => (1 ≤ z.2.1 ∧ z.2.1 ≤ pts.length + 1) ∧ z.1.length = pts.length + 1 ∧ TbOk pts z.2.1 z.2.2 z.1 ∧ InZ z.2.2 bst0) (fun z => [(9, .int .i64 (z.2.1))]) (fun z => [(29, slW 30 encHd 1 (.slice a29 (pts.length + 1) c29) (z.1)), (605, poolZ (z.2.2))]) (fun z => pts.length + 1 - z.2.1) ((List.replicate (pts.length + 1) ((none : Option Addr), 0, 0), 1, [((.slice none 0 0 : Value), ([] : List Int))])) [(0, _), (1, _), (7, _), (8, _)] [] [29, 605] rfl (rfl) (.cons rfl (.nil _)) (.cons rfl (.cons rfl (.cons rfl (.cons rfl (.nil _))))) (by
      try dsimp only
      exact ⟨⟨Nat.le_refl _, by omega⟩, List.length_replicate, fun t h1 h2 => by omega, List.mem_singleton.2 rfl⟩) ?_
  rintro ⟨tb, t, P⟩ ⟨ht, htl, htb, hin0⟩
  refine w_norm2 (by dsimp only [List.cons_append, List.nil_append]) (by dsimp only [List.cons_append, List.nil_append]) ?_
  try dsimp only at ht htl htb hin0 ⊢
  refine w_seq (w_seq (w_region (zm rfl (zm rfl (zd rfl (op_leq rfl rfl) (wl_nil (st_tn (w_cond_d rfl (fun hc32 => ?_) (fun hc32 => ?_)))))))))
  · -- c32.t
    have hcol := costs_len pts t
    refine Exists.elim (getE (l := tb) (i := t) (by omega)) (fun old hold => ?_)
    refine w_skip (st_tn (w_seq (w_block (w_region (zm rfl (zm rfl (zm rfl (zm rfl (wl_op [] rfl rfl rfl rfl (op_fn Try.func40 rfl rfl rfl (costsS (t := t) 39 (g.app _) hb (by omega))) ?_)))))))))
    rintro _ _ ⟨a39, c39, rfl, rfl⟩
    refine zd rfl (op_idx rfl rfl tS99uk (Sl.ent (Sl.lab 29 rfl (by first | (unfold maxLen; omega) | (simp only [List.length_replicate]; unfold maxLen; omega)))) (by omega)) ?_
    refine wl_op0 [29] rfl rfl rfl (op_storeX (lab := 29) (i := t) (j := 0) (b' := (a39, (costsL pts t).length, c39)) rfl rfl tO30uk rfl rfl rfl hold (by decide) rfl) ?_
    rintro _ _ ⟨rfl, rfl⟩
    refine wl_nil (st_bn (st_tn (w_star 39 605 605 rfl ?_)))
    refine w_wk 605 (poolZ ((.slice a39 (costsL pts t).length c39, costsL pts t) :: P)) rfl (fun _ h => h) ?_
    refine w_region (zm rfl (zd rfl (op_add' rfl rfl (by omega)) ?_))
    refine za rfl (wl_nil ?_)
    refine st_roundQ (x := (tb, t, P)) ((tb.set t (a39, (costsL pts t).length, c39), t + 1, (.slice a39 (costsL pts t).length c39, costsL pts t) :: P)) [29, 605] rfl (rfl) (.cons rfl (.nil _)) (.cons rfl (.cons rfl (.cons rfl (.cons rfl (.nil _))))) (by
        try dsimp only
        exact ⟨⟨by omega, by omega⟩, by rw [List.length_set]; exact htl, htb.add (by omega) (a39, (costsL pts t).length, c39), hin0.more _⟩) (by
        try dsimp only
        omega)
  · -- c32.f
    refine w_exit (st_te ?_)
    refine st_te ?_
    refine st_be (st_tn (w_seq ?_))
    have htn : t = pts.length + 1 := by omega
    subst htn
    refine w_region (zm rfl (zd rfl (op_add' rfl rfl (by omega)) ?_))
    refine wl_op [] rfl rfl rfl rfl (op_makeSliceK (enc := encBst) (m := pts.length + 1) (a0 := bst0) (lab := 43) rfl rfl tKb (fun _ => rfl) (by decide) rfl (by omega) (by unfold maxLen; omega)) ?_
    rintro _ _ ⟨a43, c43, rfl, rfl⟩
    refine za rfl (wl_nil (st_tn (w_seq (w_seq (w_region (za rfl (wl_nil (st_tn (w_block ?_)))))))))
    refine w_loopQ (X := LBst × Nat) (fun z => (1 ≤ z.2 ∧ z.2 ≤ pts.length + 1) ∧ z.1.length = pts.length + 1 ∧ RowOk (segC pts) 0 z.2 P z.1) (fun z => [(11, .int .i64 (z.2))]) (fun z => [(43, slW 97 encBst 2 (.slice a43 (pts.length + 1) c43) (z.1))]) (fun z => pts.length + 1 - z.2) ((List.replicate (pts.length + 1) bst0, 1)) [(1, _), (7, _), (8, _), (10, _)] [(29, _), (605, _)] [43, 29, 605] rfl (rfl) (.cons rfl (.nil _)) (.cons rfl (.cons rfl (.cons rfl (.cons rfl (.nil _))))) (by
        try dsimp only
        exact ⟨⟨Nat.le_refl _, by omega⟩, List.length_replicate, fun t h1 h2 => by omega⟩) ?_
    rintro ⟨row, t2⟩ ⟨ht2, hrl, hrow⟩
    refine w_norm2 (by dsimp only [List.cons_append, List.nil_append]) (by dsimp only [List.cons_append, List.nil_append]) ?_
    try dsimp only at ht2 hrl hrow ⊢
    refine w_seq (w_seq (w_region (zm rfl (zm rfl (zd rfl (op_leq rfl rfl) (wl_nil (st_tn (w_cond_d rfl (fun hc46 => ?_) (fun hc46 => ?_)))))))))
    · -- c46.t
      refine Exists.elim (htb t2 (by omega) (by omega)) (fun h hh => ?_)
      have hh1 := hh.1
      have hh2 := hh.2
      have hcol := costs_len pts t2
      have hc0 := costs_get pts (show 0 < t2 by omega)
      refine w_skip (st_tn (w_seq (w_block (w_region (zm rfl (zm rfl (zm rfl (zm rfl (zd rfl (op_idx rfl rfl tS99uk (Sl.ent (Sl.lab 29 rfl (by unfold maxLen; omega))) (by omega)) ?_)))))))))
      refine zd rfl (op_ldx rfl tO30uk (Sl.lab 29 rfl (by unfold maxLen; omega)) hh1 (by rfl)) ?_
      refine zd rfl (op_idx (i := 0) rfl rfl tS30uk (Sl.ent (Sl.pool 605 rfl hh2 (by unfold maxLen; omega))) (by omega)) ?_
      refine zd rfl (op_ldx rfl tO3uk (Sl.pool 605 rfl hh2 (by unfold maxLen; omega)) hc0 (by rfl)) ?_
      refine zd rfl (op_build tB97uk rfl rfl) (zd rfl (op_idx rfl rfl tS92uk (Sl.ent (Sl.lab 43 rfl (by unfold maxLen; omega))) (by omega)) ?_)
      refine wl_op0 [43] rfl rfl rfl (op_storeA (lab := 43) (i := t2) (b' := ⟨segC pts 0 t2, none, 0, []⟩) rfl rfl tZbst enc1Bst rfl (by omega)) ?_
      rintro _ _ ⟨rfl, rfl⟩
      refine wl_nil (st_bn (st_tn (w_region (zm rfl (zd rfl (op_add' rfl rfl (by omega)) ?_)))))
      refine za rfl (wl_nil ?_)
      refine st_roundQ (x := (row, t2)) ((row.set t2 ⟨segC pts 0 t2, none, 0, []⟩, t2 + 1)) [43, 29, 605] rfl (rfl) (.cons rfl (.nil _)) (.cons rfl (.cons rfl (.cons rfl (.cons rfl (.nil _))))) (by
          try dsimp only
          exact ⟨⟨by omega, by omega⟩, by rw [List.length_set]; exact hrl, (hrow.set _).succ (List.getElem?_set_self (by omega)) ⟨rfl, hin0, Nat.le_refl _⟩⟩) (by
          try dsimp only
          omega)
    · -- c46.f
      refine w_exit (st_te ?_)
      refine st_te ?_
      refine st_be (st_tn (w_seq ?_))
      have htn2 : t2 = pts.length + 1 := by omega
      subst htn2
      refine Exists.elim (hrow pts.length (by omega) (by omega)) (fun x0 hx0 => ?_)
      have hx01 := hx0.1
      have hx02 := hx0.2.1
      refine w_region (zm rfl (zm rfl (zd rfl (op_idx rfl rfl tS92uk (Sl.ent (Sl.lab 43 rfl (by unfold maxLen; omega))) (by omega)) ?_)))
      refine zd rfl (op_fieldAddr (off := 0) rfl tF97_0uk) (zd rfl (op_ldxf (j := 0) rfl tO3uk (Sl.lab 43 rfl (by unfold maxLen; omega)) hx01 (by rfl)) ?_)
      refine zd rfl (op_build tB60uk rfl rfl) (wl_op [] rfl rfl rfl rfl (op_buildSlice (enc := encSg) (l := [((none : Option Addr), 0, 0, x0.tot)]) (lab := 65) tL67_1uk rfl rfl (fun _ => rfl) rfl) ?_)
      rintro _ _ ⟨a65, c65, rfl, rfl⟩
      refine za rfl (wl_nil (st_tn (w_seq (w_seq (w_region (za rfl (wl_nil (st_tn (w_block ?_)))))))))
      refine w_loopQ (X := List SgV × Option Addr × Nat × Nat × LBst × OAdr × Nat × PZ) (fun z => (z.2.2.2.1 + 1 ≤ pts.length ∧ z.2.2.2.2.1.length = pts.length + 1) ∧ RowOk (segC pts) z.2.2.2.1 (pts.length + 1) z.2.2.2.2.2.2.2 z.2.2.2.2.1 ∧ CntOk pts (z.2.2.2.1 + 1) z.1 ∧ TbOk pts (pts.length + 1) z.2.2.2.2.2.2.2 tb ∧ InZ z.2.2.2.2.2.2.2 bst0) (fun z => [(12, .slice (z.2.1) (z.1).length (z.2.2.1)), (13, .int .i64 (((z.2.2.2.1) + 1 : Nat) : Int)), (10, .slice (z.2.2.2.2.2.1) (pts.length + 1) (z.2.2.2.2.2.2.1))]) (fun z => [(65, slW 60 encSg 2 (.slice (z.2.1) (z.1).length (z.2.2.1)) (z.1)), (43, slW 97 encBst 2 (.slice (z.2.2.2.2.2.1) (pts.length + 1) (z.2.2.2.2.2.2.1)) (z.2.2.2.2.1)), (605, poolZ (z.2.2.2.2.2.2.2))]) (fun z => pts.length - z.2.2.2.1) ((_, _, _, 0, row, a43, c43, P)) [(1, _), (7, _), (8, _)] [(29, _)] [65, 43, 605, 29] rfl (rfl) (.cons rfl (.cons rfl (.cons rfl (.nil _)))) (.cons rfl (.cons rfl (.cons rfl (.nil _)))) (by
          try dsimp only
          exact ⟨⟨h1, hrl⟩, hrow, cnt_one hx02, htb, hin0⟩) ?_
      rintro ⟨out, a_out, c_out, q, row, ar, cr, P⟩ ⟨⟨hq, hrl⟩, hrow, hcnt, htb, hin0⟩
      refine w_norm2 (by dsimp only [List.cons_append, List.nil_append]) (by dsimp only [List.cons_append, List.nil_append]) ?_
      try dsimp only at hq hrl hrow hcnt htb hin0 ⊢
      refine w_seq (w_seq (w_region (zm rfl (zm rfl (zm rfl (zd rfl (op_sub' rfl rfl (by omega)) ?_))))))
      refine zd rfl (op_min rfl rfl) (zd rfl (op_leq rfl rfl) (wl_nil (st_tn (w_cond_d rfl (fun hc71 => ?_) (fun hc71 => ?_)))))
      · -- c71.t
        have hq2 : q + 1 < pts.length := by omega
        refine w_skip (st_tn (w_seq (w_block (w_seq (w_region (zm rfl (zd rfl (op_add' rfl rfl (by omega)) ?_)))))))
        refine wl_op [] rfl rfl rfl rfl (op_makeSliceK (enc := encBst) (m := pts.length + 1) (a0 := bst0) (lab := 76) rfl rfl tKb (fun _ => rfl) (by decide) rfl (by omega) (by unfold maxLen; omega)) ?_
        rintro _ _ ⟨a76, c76, rfl, rfl⟩
        refine za rfl (wl_nil (st_tn (w_seq (w_seq (w_region (zm rfl (zd rfl (op_add' rfl rfl (by omega)) ?_)))))))
        refine za rfl (wl_nil (st_tn (w_block ?_)))
        refine w_loopQ (X := LBst × Nat × PZ) (fun z => (q + 1 + 1 ≤ z.2.1 ∧ z.2.1 ≤ pts.length + 1 ∧ z.1.length = pts.length + 1) ∧ RowOk (segC pts) (q + 1) z.2.1 z.2.2 z.1 ∧ RowOk (segC pts) q (pts.length + 1) z.2.2 row ∧ TbOk pts (pts.length + 1) z.2.2 tb ∧ InZ z.2.2 bst0) (fun z => [(15, .int .i64 (z.2.1))]) (fun z => [(76, slW 97 encBst 2 (.slice a76 (pts.length + 1) c76) (z.1)), (605, poolZ (z.2.2))]) (fun z => pts.length + 1 - z.2.1) ((List.replicate (pts.length + 1) bst0, q + 1 + 1, P)) [(1, _), (7, _), (8, _), (10, _), (12, _), (13, _), (14, _)] [(29, _), (43, _), (65, _)] [76, 605, 29, 43, 65] rfl (rfl) (.cons rfl (.nil _)) (.cons rfl (.cons rfl (.cons rfl (.cons rfl (.cons rfl (.cons rfl (.cons rfl (.nil _)))))))) (by
            try dsimp only
            exact ⟨⟨Nat.le_refl _, by omega, List.length_replicate⟩, fun t h1 h2 => by omega, hrow, htb, hin0⟩) ?_
        rintro ⟨nx, t, P2⟩ ⟨⟨ht1, ht2, hnl⟩, hnx, hrow2, htb2, hin0'⟩
        refine w_norm2 (by dsimp only [List.cons_append, List.nil_append]) (by dsimp only [List.cons_append, List.nil_append]) ?_
        try dsimp only at ht1 ht2 hnl hnx hrow2 htb2 hin0 ⊢
        refine w_seq (w_seq (w_region (zm rfl (zm rfl (zd rfl (op_leq rfl rfl) (wl_nil (st_tn (w_cond_d rfl (fun hc81 => ?_) (fun hc81 => ?_)))))))))
        · -- c81.t
          refine Exists.elim (htb2 t (by omega) (by omega)) (fun h hh0 => ?_)
          have hh1 := hh0.1
          have hcol := costs_len pts t
          refine w_skip (st_tn (w_seq (w_block (w_seq (w_region (zm rfl (za rfl (wl_nil (st_tn (w_block ?_))))))))))
          refine w_loopQ (X := LBst × Nat × PZ) (fun z => (q + 1 ≤ z.2.1 ∧ z.2.1 ≤ t ∧ z.1.length = pts.length + 1) ∧ RowOk (segC pts) (q + 1) t z.2.2 z.1 ∧ (z.2.1 = q + 1 ∨ ∃ y, z.1[t]? = some y ∧ CurOk (segC pts) q t z.2.1 y.tot ∧ InZ z.2.2 y ∧ y.cuts.length ≤ q + 1) ∧ RowOk (segC pts) q (pts.length + 1) z.2.2 row ∧ (TbOk pts (pts.length + 1) z.2.2 tb ∧ (Value.slice h.1 h.2.1 h.2.2, costsL pts t) ∈ z.2.2) ∧ InZ z.2.2 bst0) (fun z => [(16, .int .i64 (z.2.1))]) (fun z => [(76, slW 97 encBst 2 (.slice a76 (pts.length + 1) c76) (z.1)), (605, poolZ (z.2.2))]) (fun z => t - z.2.1) ((nx, q + 1, P2)) [(1, _), (7, _), (8, _), (10, _), (12, _), (13, _), (14, _), (15, _)] [(29, _), (43, _), (65, _)] [76, 605, 29, 43, 65] rfl (rfl) (.cons rfl (.nil _)) (.cons rfl (.cons rfl (.cons rfl (.cons rfl (.cons rfl (.cons rfl (.cons rfl (.cons rfl (.nil _))))))))) (by
              try dsimp only
              exact ⟨⟨Nat.le_refl _, by omega, hnl⟩, hnx, .inl rfl, hrow2, ⟨htb2, hh0.2⟩, hin0'⟩) ?_
          rintro ⟨nx3, s, P3⟩ ⟨⟨hs1, hs2, hnl3⟩, hnx3, hcu, hrow3, ⟨htb3, hh2⟩, hin0''⟩
          refine w_norm2 (by dsimp only [List.cons_append, List.nil_append]) (by dsimp only [List.cons_append, List.nil_append]) ?_
          try dsimp only at hs1 hs2 hnl3 hnx3 hcu hrow3 htb3 hh2 hin0 ⊢
          refine w_seq (w_seq (w_region (zm rfl (zm rfl (zd rfl (op_lss rfl rfl) (wl_nil (st_tn (w_cond_d rfl (fun hc87 => ?_) (fun hc87 => ?_)))))))))
          · -- c87.t
            refine Exists.elim (hrow3 s (by omega) (by omega)) (fun x hx0 => ?_)
            have hx := hx0.1
            have hxr := hx0.2.1
            have hxin := hx0.2.2.1
            have hxc := hx0.2.2.2
            have hxb := row_bd hCb hxr
            refine Exists.elim (getE (l := nx3) (i := t) (by omega)) (fun y hy => ?_)
            have hcs := costs_get pts (show s < t by omega)
            have hvb := hCb s t
            refine w_skip (st_tn (w_seq (w_block (w_seq (w_seq (w_cutL [(113, .bool (decide (q + 1 < s ∧ x.tot + segC pts s t > y.tot)))] [1, 7, 8, 10, 12, 13, 14, 15, 16] [76, 605, 29, 43, 65] rfl (fun K' hK => ?_) ?_))))))
            · -- cut r28
              by_cases hs0 : (s : Int) > ((q + 1 : Nat) : Int)
              · -- hs0 True
                refine w_drawW (fun β => [⟨90, [], [], [], noW (_), false, [], []⟩, ⟨91, [], [], [], noW (_), false, [], []⟩, ⟨92, [0, 1], [], [], noW (_), false, [], []⟩, ⟨93, [2], [], [], noW (_), false, [], []⟩, ⟨94, [], [], [], noW (_), false, [], []⟩, ⟨95, [], [], [], noW (_), false, [], []⟩, ⟨96, [4, 5], [], [], noW (_), false, [], []⟩, ⟨97, [6], [], [], noW (_), false, [], []⟩, ⟨98, [7], [], [], noW (_), false, [], []⟩, ⟨99, [], [], [], noW (_), false, [], []⟩, ⟨100, [], [], [], noW (_), false, [], []⟩, ⟨101, [9, 10], [], [], noW (_), false, [], []⟩, ⟨102, [11], [], [], noW (_), false, [], []⟩, ⟨103, [], [], [], noW (_), false, [], []⟩, ⟨104, [12, 13], [], [], noW (_), false, [], []⟩, ⟨105, [14], [], [], noW (_), false, [], []⟩, ⟨106, [8, 15], [], [], noW (_), false, [], []⟩, ⟨107, [], [], [], noW (_), false, [], []⟩, ⟨108, [], [], [], noW (_), false, [], []⟩, ⟨109, [17, 18], [], [], noW (_), false, [], []⟩, ⟨110, [19], [], [], noW (_), false, [], []⟩, ⟨111, [20], [], [], noW (_), false, [], []⟩, ⟨112, [16, 21], [], [], noW (_), false, [], []⟩, ⟨113, [3, 22], [], [], noW (_), false, [], []⟩]) [] [16, 13, 10, 8, 15, 14] [⟨90, [], [], false, [], []⟩, ⟨91, [], [], false, [], []⟩, ⟨92, [0, 1], [], false, [], []⟩, ⟨93, [2], [], false, [], []⟩, ⟨94, [], [], false, [], []⟩, ⟨95, [], [], false, [], []⟩, ⟨96, [4, 5], [], false, [], []⟩, ⟨97, [6], [], false, [], []⟩, ⟨98, [7], [], false, [], []⟩, ⟨99, [], [], false, [], []⟩, ⟨100, [], [], false, [], []⟩, ⟨101, [9, 10], [], false, [], []⟩, ⟨102, [11], [], false, [], []⟩, ⟨103, [], [], false, [], []⟩, ⟨104, [12, 13], [], false, [], []⟩, ⟨105, [14], [], false, [], []⟩, ⟨106, [8, 15], [], false, [], []⟩, ⟨107, [], [], false, [], []⟩, ⟨108, [], [], false, [], []⟩, ⟨109, [17, 18], [], false, [], []⟩, ⟨110, [19], [], false, [], []⟩, ⟨111, [20], [], false, [], []⟩, ⟨112, [16, 21], [], false, [], []⟩, ⟨113, [3, 22], [], false, [], []⟩] [[], [], [], [], [], [], [], [], [], [], [], [], [], [], [], [], [], [], [], [], [], [], [], []] [[], [], [], [], [], [], [], [], [], [], [], [], [], [], [], [], [], [], [], [], [], [], [], []] tMixuk (fun _ => by rfl) (fun _ => by rfl) (by kernel_rfl) (by kernel_rfl) (by rfl) (by rfl)
                    (fun β => ⟨.p rfl (by intro X; exact op_move rfl),
                    ⟨.p rfl (by intro X; exact op_move rfl),
                    ⟨.p rfl (by intro X; rintro _ _ ⟨rfl, rfl⟩ _ _ ⟨rfl, rfl⟩; exact op_gtr rfl rfl),
                    ⟨.p rfl (by intro X; rintro _ _ ⟨rfl, rfl⟩; exact op_move rfl),
                    ⟨.w rfl rfl rfl (by rintro _ _ ⟨rfl, rfl⟩; first | rfl | (exact congrArg Value.bool (decide_eq_true (by omega))) | (exact congrArg Value.bool (decide_eq_false (by omega))) | (simp; done) | (simp; omega) | (simp [*]; done)) (by intro X; exact op_move rfl),
                    ⟨.w rfl rfl rfl (by rintro _ _ ⟨rfl, rfl⟩; first | rfl | (exact congrArg Value.bool (decide_eq_true (by omega))) | (exact congrArg Value.bool (decide_eq_false (by omega))) | (simp; done) | (simp; omega) | (simp [*]; done)) (by intro X; exact op_move rfl),
                    ⟨.w rfl rfl rfl (by rintro _ _ ⟨rfl, rfl⟩; first | rfl | (exact congrArg Value.bool (decide_eq_true (by omega))) | (exact congrArg Value.bool (decide_eq_false (by omega))) | (simp; done) | (simp; omega) | (simp [*]; done)) (by intro X; rintro _ _ ⟨rfl, rfl⟩ _ _ ⟨rfl, rfl⟩; exact op_idx rfl rfl tS92uk (Sl.ent (Sl.lab 43 rfl (by unfold maxLen; omega))) (by omega)),
                    ⟨.w rfl rfl rfl (by rintro _ _ ⟨rfl, rfl⟩; first | rfl | (exact congrArg Value.bool (decide_eq_true (by omega))) | (exact congrArg Value.bool (decide_eq_false (by omega))) | (simp; done) | (simp; omega) | (simp [*]; done)) (by intro X; rintro _ _ ⟨rfl, rfl⟩; exact op_fieldAddr (off := 0) rfl tF97_0uk),
                    ⟨.w rfl rfl rfl (by rintro _ _ ⟨rfl, rfl⟩; first | rfl | (exact congrArg Value.bool (decide_eq_true (by omega))) | (exact congrArg Value.bool (decide_eq_false (by omega))) | (simp; done) | (simp; omega) | (simp [*]; done)) (by intro X; rintro _ _ ⟨rfl, rfl⟩; exact op_ldxf (j := 0) rfl tO3uk (Sl.lab 43 rfl (by unfold maxLen; omega)) hx (by rfl)),
                    ⟨.w rfl rfl rfl (by rintro _ _ ⟨rfl, rfl⟩; first | rfl | (exact congrArg Value.bool (decide_eq_true (by omega))) | (exact congrArg Value.bool (decide_eq_false (by omega))) | (simp; done) | (simp; omega) | (simp [*]; done)) (by intro X; exact op_move rfl),
                    ⟨.w rfl rfl rfl (by rintro _ _ ⟨rfl, rfl⟩; first | rfl | (exact congrArg Value.bool (decide_eq_true (by omega))) | (exact congrArg Value.bool (decide_eq_false (by omega))) | (simp; done) | (simp; omega) | (simp [*]; done)) (by intro X; exact op_move rfl),
                    ⟨.w rfl rfl rfl (by rintro _ _ ⟨rfl, rfl⟩; first | rfl | (exact congrArg Value.bool (decide_eq_true (by omega))) | (exact congrArg Value.bool (decide_eq_false (by omega))) | (simp; done) | (simp; omega) | (simp [*]; done)) (by intro X; rintro _ _ ⟨rfl, rfl⟩ _ _ ⟨rfl, rfl⟩; exact op_idx rfl rfl tS99uk (Sl.ent (Sl.lab 29 rfl (by unfold maxLen; omega))) (by omega)),
                    ⟨.w rfl rfl rfl (by rintro _ _ ⟨rfl, rfl⟩; first | rfl | (exact congrArg Value.bool (decide_eq_true (by omega))) | (exact congrArg Value.bool (decide_eq_false (by omega))) | (simp; done) | (simp; omega) | (simp [*]; done)) (by intro X; rintro _ _ ⟨rfl, rfl⟩; exact op_ldx rfl tO30uk (Sl.lab 29 rfl (by unfold maxLen; omega)) hh1 (by rfl)),
                    ⟨.w rfl rfl rfl (by rintro _ _ ⟨rfl, rfl⟩; first | rfl | (exact congrArg Value.bool (decide_eq_true (by omega))) | (exact congrArg Value.bool (decide_eq_false (by omega))) | (simp; done) | (simp; omega) | (simp [*]; done)) (by intro X; exact op_move rfl),
                    ⟨.w rfl rfl rfl (by rintro _ _ ⟨rfl, rfl⟩; first | rfl | (exact congrArg Value.bool (decide_eq_true (by omega))) | (exact congrArg Value.bool (decide_eq_false (by omega))) | (simp; done) | (simp; omega) | (simp [*]; done)) (by intro X; rintro _ _ ⟨rfl, rfl⟩ _ _ ⟨rfl, rfl⟩; exact op_idx rfl rfl tS30uk (Sl.ent (Sl.pool 605 rfl hh2 (by unfold maxLen; omega))) (by omega)),
                    ⟨.w rfl rfl rfl (by rintro _ _ ⟨rfl, rfl⟩; first | rfl | (exact congrArg Value.bool (decide_eq_true (by omega))) | (exact congrArg Value.bool (decide_eq_false (by omega))) | (simp; done) | (simp; omega) | (simp [*]; done)) (by intro X; rintro _ _ ⟨rfl, rfl⟩; exact op_ldx rfl tO3uk (Sl.pool 605 rfl hh2 (by unfold maxLen; omega)) hcs (by rfl)),
                    ⟨.w rfl rfl rfl (by rintro _ _ ⟨rfl, rfl⟩; first | rfl | (exact congrArg Value.bool (decide_eq_true (by omega))) | (exact congrArg Value.bool (decide_eq_false (by omega))) | (simp; done) | (simp; omega) | (simp [*]; done)) (by intro X; rintro _ _ ⟨rfl, rfl⟩ _ _ ⟨rfl, rfl⟩; exact op_add' rfl rfl (by omega)),
                    ⟨.w rfl rfl rfl (by rintro _ _ ⟨rfl, rfl⟩; first | rfl | (exact congrArg Value.bool (decide_eq_true (by omega))) | (exact congrArg Value.bool (decide_eq_false (by omega))) | (simp; done) | (simp; omega) | (simp [*]; done)) (by intro X; exact op_move rfl),
                    ⟨.w rfl rfl rfl (by rintro _ _ ⟨rfl, rfl⟩; first | rfl | (exact congrArg Value.bool (decide_eq_true (by omega))) | (exact congrArg Value.bool (decide_eq_false (by omega))) | (simp; done) | (simp; omega) | (simp [*]; done)) (by intro X; exact op_move rfl),
                    ⟨.w rfl rfl rfl (by rintro _ _ ⟨rfl, rfl⟩; first | rfl | (exact congrArg Value.bool (decide_eq_true (by omega))) | (exact congrArg Value.bool (decide_eq_false (by omega))) | (simp; done) | (simp; omega) | (simp [*]; done)) (by intro X; rintro _ _ ⟨rfl, rfl⟩ _ _ ⟨rfl, rfl⟩; exact op_idx rfl rfl tS92uk (Sl.ent (Sl.lab 76 rfl (by unfold maxLen; omega))) (by omega)),
                    ⟨.w rfl rfl rfl (by rintro _ _ ⟨rfl, rfl⟩; first | rfl | (exact congrArg Value.bool (decide_eq_true (by omega))) | (exact congrArg Value.bool (decide_eq_false (by omega))) | (simp; done) | (simp; omega) | (simp [*]; done)) (by intro X; rintro _ _ ⟨rfl, rfl⟩; exact op_fieldAddr (off := 0) rfl tF97_0uk),
                    ⟨.w rfl rfl rfl (by rintro _ _ ⟨rfl, rfl⟩; first | rfl | (exact congrArg Value.bool (decide_eq_true (by omega))) | (exact congrArg Value.bool (decide_eq_false (by omega))) | (simp; done) | (simp; omega) | (simp [*]; done)) (by intro X; rintro _ _ ⟨rfl, rfl⟩; exact op_ldxf (j := 0) rfl tO3uk (Sl.lab 76 rfl (by unfold maxLen; omega)) hy (by rfl)),
                    ⟨.w rfl rfl rfl (by rintro _ _ ⟨rfl, rfl⟩; first | rfl | (exact congrArg Value.bool (decide_eq_true (by omega))) | (exact congrArg Value.bool (decide_eq_false (by omega))) | (simp; done) | (simp; omega) | (simp [*]; done)) (by intro X; rintro _ _ ⟨rfl, rfl⟩ _ _ ⟨rfl, rfl⟩; exact op_gtr rfl rfl),
                    ⟨.p rfl (by intro X; rintro _ _ ⟨rfl, rfl⟩ _ _ ⟨rfl, rfl⟩; exact op_pick_t (by first | rfl | (show some (Value.bool (decide _)) = _; rw [decide_eq_true (by omega)]) | (show some (Value.bool (decide _)) = _; rw [decide_eq_false (by omega)]) | (simp [ev, lk]; done) | (simp [ev, lk]; omega) | (simp [ev, lk, *]; done)) rfl),
                    trivial⟩⟩⟩⟩⟩⟩⟩⟩⟩⟩⟩⟩⟩⟩⟩⟩⟩⟩⟩⟩⟩⟩⟩⟩)
                    (fun β β' => ⟨fun _ => by rfl, ⟨fun _ => by rfl, ⟨fun _ => by rfl, ⟨fun _ => by rfl, ⟨fun _ => by rfl, ⟨fun _ => by rfl, ⟨fun _ => by rfl, ⟨fun _ => by rfl, ⟨fun _ => by rfl, ⟨fun _ => by rfl, ⟨fun _ => by rfl, ⟨fun _ => by rfl, ⟨fun _ => by rfl, ⟨fun _ => by rfl, ⟨fun _ => by rfl, ⟨fun _ => by rfl, ⟨fun _ => by rfl, ⟨fun _ => by rfl, ⟨fun _ => by rfl, ⟨fun _ => by rfl, ⟨fun _ => by rfl, ⟨fun _ => by rfl, ⟨fun _ => by rfl, ⟨fun _ => by rfl, trivial⟩⟩⟩⟩⟩⟩⟩⟩⟩⟩⟩⟩⟩⟩⟩⟩⟩⟩⟩⟩⟩⟩⟩⟩) ?_
                intro β
                rintro _ _ ⟨rfl, rfl⟩ _ _ ⟨rfl, rfl⟩ _ _ ⟨rfl, rfl⟩ _ _ ⟨rfl, rfl⟩ _ _ ⟨rfl, rfl⟩ _ _ ⟨rfl, rfl⟩ _ _ ⟨rfl, rfl⟩ _ _ ⟨rfl, rfl⟩ _ _ ⟨rfl, rfl⟩ _ _ ⟨rfl, rfl⟩ _ _ ⟨rfl, rfl⟩ _ _ ⟨rfl, rfl⟩ _ _ ⟨rfl, rfl⟩ _ _ ⟨rfl, rfl⟩ _ _ ⟨rfl, rfl⟩ _ _ ⟨rfl, rfl⟩ _ _ ⟨rfl, rfl⟩ _ _ ⟨rfl, rfl⟩ _ _ ⟨rfl, rfl⟩ _ _ ⟨rfl, rfl⟩ _ _ ⟨rfl, rfl⟩ _ _ ⟨rfl, rfl⟩ _ _ ⟨rfl, rfl⟩ _ _ ⟨rfl, rfl⟩
                refine wl_norm (e' := [(1, _), (7, _), (8, _), (10, _), (12, _), (13, _), (14, _), (15, _), (16, _), (113, _)]) (.cons rfl (.cons rfl (.cons rfl (.cons rfl (.cons rfl (.cons rfl (.cons rfl (.cons rfl (.cons rfl (.cons rfl (.nil _))))))))))) (by dsimp only [cond_false, cond_true, List.nil_append, List.cons_append]) ?_
                refine wl_nil (st_tn ?_)
                exact cut_done1 [76, 605, 29, 43, 65] hK rfl (by first | (rw [decide_eq_decide]; omega) | (symm; rw [decide_eq_false_iff_not]; omega) | (symm; rw [decide_eq_true_iff]; omega) | (simp; done) | (simp; omega) | (simp [*]; done) | (simp [*]; omega)) (by rfl) rfl rfl
              · -- hs0 False
                refine w_drawW (fun β => [⟨90, [], [], [], noW (_), false, [], []⟩, ⟨91, [], [], [], noW (_), false, [], []⟩, ⟨92, [0, 1], [], [], noW (_), false, [], []⟩, ⟨93, [2], [], [], noW (_), false, [], []⟩, ⟨94, [], [], [], noW (Det undef), false, [], []⟩, ⟨95, [], [], [], noW (Det undef), false, [], []⟩, ⟨96, [], [], [], noW (Det undef), false, [], []⟩, ⟨97, [], [], [], noW (Det undef), false, [], []⟩, ⟨98, [], [], [], noW (Det undef), false, [], []⟩, ⟨99, [], [], [], noW (Det undef), false, [], []⟩, ⟨100, [], [], [], noW (Det undef), false, [], []⟩, ⟨101, [], [], [], noW (Det undef), false, [], []⟩, ⟨102, [], [], [], noW (Det undef), false, [], []⟩, ⟨103, [], [], [], noW (Det undef), false, [], []⟩, ⟨104, [], [], [], noW (Det undef), false, [], []⟩, ⟨105, [], [], [], noW (Det undef), false, [], []⟩, ⟨106, [], [], [], noW (Det undef), false, [], []⟩, ⟨107, [], [], [], noW (Det undef), false, [], []⟩, ⟨108, [], [], [], noW (Det undef), false, [], []⟩, ⟨109, [], [], [], noW (Det undef), false, [], []⟩, ⟨110, [], [], [], noW (Det undef), false, [], []⟩, ⟨111, [], [], [], noW (Det undef), false, [], []⟩, ⟨112, [], [], [], noW (Det undef), false, [], []⟩, ⟨113, [3, 22], [], [], noW (_), false, [], []⟩]) [] [16, 13, 10, 8, 15, 14] [⟨90, [], [], false, [], []⟩, ⟨91, [], [], false, [], []⟩, ⟨92, [0, 1], [], false, [], []⟩, ⟨93, [2], [], false, [], []⟩, ⟨94, [], [], false, [], []⟩, ⟨95, [], [], false, [], []⟩, ⟨96, [], [], false, [], []⟩, ⟨97, [], [], false, [], []⟩, ⟨98, [], [], false, [], []⟩, ⟨99, [], [], false, [], []⟩, ⟨100, [], [], false, [], []⟩, ⟨101, [], [], false, [], []⟩, ⟨102, [], [], false, [], []⟩, ⟨103, [], [], false, [], []⟩, ⟨104, [], [], false, [], []⟩, ⟨105, [], [], false, [], []⟩, ⟨106, [], [], false, [], []⟩, ⟨107, [], [], false, [], []⟩, ⟨108, [], [], false, [], []⟩, ⟨109, [], [], false, [], []⟩, ⟨110, [], [], false, [], []⟩, ⟨111, [], [], false, [], []⟩, ⟨112, [], [], false, [], []⟩, ⟨113, [3, 22], [], false, [], []⟩] [[], [], [], [], [], [], [], [], [], [], [], [], [], [], [], [], [], [], [], [], [], [], [], []] [[], [], [], [], [], [], [], [], [], [], [], [], [], [], [], [], [], [], [], [], [], [], [], []] tMixuk (fun _ => by rfl) (fun _ => by rfl) (by kernel_rfl) (by kernel_rfl) (by rfl) (by rfl)
                    (fun β => ⟨.p rfl (by intro X; exact op_move rfl),
                    ⟨.p rfl (by intro X; exact op_move rfl),
                    ⟨.p rfl (by intro X; rintro _ _ ⟨rfl, rfl⟩ _ _ ⟨rfl, rfl⟩; exact op_gtr rfl rfl),
                    ⟨.p rfl (by intro X; rintro _ _ ⟨rfl, rfl⟩; exact op_move rfl),
                    ⟨.u rfl rfl rfl (by rintro _ _ ⟨rfl, rfl⟩; exact congrArg (offB true) (by first | rfl | (exact congrArg Value.bool (decide_eq_true (by omega))) | (exact congrArg Value.bool (decide_eq_false (by omega))) | (simp; done) | (simp; omega) | (simp [*]; done) : _ = Value.bool false)) ⟨rfl, rfl⟩ rfl rfl,
                    ⟨.u rfl rfl rfl (by rintro _ _ ⟨rfl, rfl⟩; exact congrArg (offB true) (by first | rfl | (exact congrArg Value.bool (decide_eq_true (by omega))) | (exact congrArg Value.bool (decide_eq_false (by omega))) | (simp; done) | (simp; omega) | (simp [*]; done) : _ = Value.bool false)) ⟨rfl, rfl⟩ rfl rfl,
                    ⟨.u rfl rfl rfl (by rintro _ _ ⟨rfl, rfl⟩; exact congrArg (offB true) (by first | rfl | (exact congrArg Value.bool (decide_eq_true (by omega))) | (exact congrArg Value.bool (decide_eq_false (by omega))) | (simp; done) | (simp; omega) | (simp [*]; done) : _ = Value.bool false)) ⟨rfl, rfl⟩ rfl rfl,
                    ⟨.u rfl rfl rfl (by rintro _ _ ⟨rfl, rfl⟩; exact congrArg (offB true) (by first | rfl | (exact congrArg Value.bool (decide_eq_true (by omega))) | (exact congrArg Value.bool (decide_eq_false (by omega))) | (simp; done) | (simp; omega) | (simp [*]; done) : _ = Value.bool false)) ⟨rfl, rfl⟩ rfl rfl,
                    ⟨.u rfl rfl rfl (by rintro _ _ ⟨rfl, rfl⟩; exact congrArg (offB true) (by first | rfl | (exact congrArg Value.bool (decide_eq_true (by omega))) | (exact congrArg Value.bool (decide_eq_false (by omega))) | (simp; done) | (simp; omega) | (simp [*]; done) : _ = Value.bool false)) ⟨rfl, rfl⟩ rfl rfl,
                    ⟨.u rfl rfl rfl (by rintro _ _ ⟨rfl, rfl⟩; exact congrArg (offB true) (by first | rfl | (exact congrArg Value.bool (decide_eq_true (by omega))) | (exact congrArg Value.bool (decide_eq_false (by omega))) | (simp; done) | (simp; omega) | (simp [*]; done) : _ = Value.bool false)) ⟨rfl, rfl⟩ rfl rfl,
                    ⟨.u rfl rfl rfl (by rintro _ _ ⟨rfl, rfl⟩; exact congrArg (offB true) (by first | rfl | (exact congrArg Value.bool (decide_eq_true (by omega))) | (exact congrArg Value.bool (decide_eq_false (by omega))) | (simp; done) | (simp; omega) | (simp [*]; done) : _ = Value.bool false)) ⟨rfl, rfl⟩ rfl rfl,
                    ⟨.u rfl rfl rfl (by rintro _ _ ⟨rfl, rfl⟩; exact congrArg (offB true) (by first | rfl | (exact congrArg Value.bool (decide_eq_true (by omega))) | (exact congrArg Value.bool (decide_eq_false (by omega))) | (simp; done) | (simp; omega) | (simp [*]; done) : _ = Value.bool false)) ⟨rfl, rfl⟩ rfl rfl,
                    ⟨.u rfl rfl rfl (by rintro _ _ ⟨rfl, rfl⟩; exact congrArg (offB true) (by first | rfl | (exact congrArg Value.bool (decide_eq_true (by omega))) | (exact congrArg Value.bool (decide_eq_false (by omega))) | (simp; done) | (simp; omega) | (simp [*]; done) : _ = Value.bool false)) ⟨rfl, rfl⟩ rfl rfl,
                    ⟨.u rfl rfl rfl (by rintro _ _ ⟨rfl, rfl⟩; exact congrArg (offB true) (by first | rfl | (exact congrArg Value.bool (decide_eq_true (by omega))) | (exact congrArg Value.bool (decide_eq_false (by omega))) | (simp; done) | (simp; omega) | (simp [*]; done) : _ = Value.bool false)) ⟨rfl, rfl⟩ rfl rfl,
                    ⟨.u rfl rfl rfl (by rintro _ _ ⟨rfl, rfl⟩; exact congrArg (offB true) (by first | rfl | (exact congrArg Value.bool (decide_eq_true (by omega))) | (exact congrArg Value.bool (decide_eq_false (by omega))) | (simp; done) | (simp; omega) | (simp [*]; done) : _ = Value.bool false)) ⟨rfl, rfl⟩ rfl rfl,
                    ⟨.u rfl rfl rfl (by rintro _ _ ⟨rfl, rfl⟩; exact congrArg (offB true) (by first | rfl | (exact congrArg Value.bool (decide_eq_true (by omega))) | (exact congrArg Value.bool (decide_eq_false (by omega))) | (simp; done) | (simp; omega) | (simp [*]; done) : _ = Value.bool false)) ⟨rfl, rfl⟩ rfl rfl,
                    ⟨.u rfl rfl rfl (by rintro _ _ ⟨rfl, rfl⟩; exact congrArg (offB true) (by first | rfl | (exact congrArg Value.bool (decide_eq_true (by omega))) | (exact congrArg Value.bool (decide_eq_false (by omega))) | (simp; done) | (simp; omega) | (simp [*]; done) : _ = Value.bool false)) ⟨rfl, rfl⟩ rfl rfl,
                    ⟨.u rfl rfl rfl (by rintro _ _ ⟨rfl, rfl⟩; exact congrArg (offB true) (by first | rfl | (exact congrArg Value.bool (decide_eq_true (by omega))) | (exact congrArg Value.bool (decide_eq_false (by omega))) | (simp; done) | (simp; omega) | (simp [*]; done) : _ = Value.bool false)) ⟨rfl, rfl⟩ rfl rfl,
                    ⟨.u rfl rfl rfl (by rintro _ _ ⟨rfl, rfl⟩; exact congrArg (offB true) (by first | rfl | (exact congrArg Value.bool (decide_eq_true (by omega))) | (exact congrArg Value.bool (decide_eq_false (by omega))) | (simp; done) | (simp; omega) | (simp [*]; done) : _ = Value.bool false)) ⟨rfl, rfl⟩ rfl rfl,
                    ⟨.u rfl rfl rfl (by rintro _ _ ⟨rfl, rfl⟩; exact congrArg (offB true) (by first | rfl | (exact congrArg Value.bool (decide_eq_true (by omega))) | (exact congrArg Value.bool (decide_eq_false (by omega))) | (simp; done) | (simp; omega) | (simp [*]; done) : _ = Value.bool false)) ⟨rfl, rfl⟩ rfl rfl,
                    ⟨.u rfl rfl rfl (by rintro _ _ ⟨rfl, rfl⟩; exact congrArg (offB true) (by first | rfl | (exact congrArg Value.bool (decide_eq_true (by omega))) | (exact congrArg Value.bool (decide_eq_false (by omega))) | (simp; done) | (simp; omega) | (simp [*]; done) : _ = Value.bool false)) ⟨rfl, rfl⟩ rfl rfl,
                    ⟨.u rfl rfl rfl (by rintro _ _ ⟨rfl, rfl⟩; exact congrArg (offB true) (by first | rfl | (exact congrArg Value.bool (decide_eq_true (by omega))) | (exact congrArg Value.bool (decide_eq_false (by omega))) | (simp; done) | (simp; omega) | (simp [*]; done) : _ = Value.bool false)) ⟨rfl, rfl⟩ rfl rfl,
                    ⟨.u rfl rfl rfl (by rintro _ _ ⟨rfl, rfl⟩; exact congrArg (offB true) (by first | rfl | (exact congrArg Value.bool (decide_eq_true (by omega))) | (exact congrArg Value.bool (decide_eq_false (by omega))) | (simp; done) | (simp; omega) | (simp [*]; done) : _ = Value.bool false)) ⟨rfl, rfl⟩ rfl rfl,
                    ⟨.p rfl (by intro X; rintro _ _ ⟨rfl, rfl⟩ _ _ ⟨rfl, rfl⟩; exact op_pick_f (by first | rfl | (show some (Value.bool (decide _)) = _; rw [decide_eq_true (by omega)]) | (show some (Value.bool (decide _)) = _; rw [decide_eq_false (by omega)]) | (simp [ev, lk]; done) | (simp [ev, lk]; omega) | (simp [ev, lk, *]; done)) rfl),
                    trivial⟩⟩⟩⟩⟩⟩⟩⟩⟩⟩⟩⟩⟩⟩⟩⟩⟩⟩⟩⟩⟩⟩⟩⟩)
                    (fun β β' => ⟨fun _ => by rfl, ⟨fun _ => by rfl, ⟨fun _ => by rfl, ⟨fun _ => by rfl, ⟨fun _ => by rfl, ⟨fun _ => by rfl, ⟨fun _ => by rfl, ⟨fun _ => by rfl, ⟨fun _ => by rfl, ⟨fun _ => by rfl, ⟨fun _ => by rfl, ⟨fun _ => by rfl, ⟨fun _ => by rfl, ⟨fun _ => by rfl, ⟨fun _ => by rfl, ⟨fun _ => by rfl, ⟨fun _ => by rfl, ⟨fun _ => by rfl, ⟨fun _ => by rfl, ⟨fun _ => by rfl, ⟨fun _ => by rfl, ⟨fun _ => by rfl, ⟨fun _ => by rfl, ⟨fun _ => by rfl, trivial⟩⟩⟩⟩⟩⟩⟩⟩⟩⟩⟩⟩⟩⟩⟩⟩⟩⟩⟩⟩⟩⟩⟩⟩) ?_
                intro β
                rintro _ _ ⟨rfl, rfl⟩ _ _ ⟨rfl, rfl⟩ _ _ ⟨rfl, rfl⟩ _ _ ⟨rfl, rfl⟩ _ _ ⟨rfl, rfl⟩ _ _ ⟨rfl, rfl⟩ _ _ ⟨rfl, rfl⟩ _ _ ⟨rfl, rfl⟩ _ _ ⟨rfl, rfl⟩ _ _ ⟨rfl, rfl⟩ _ _ ⟨rfl, rfl⟩ _ _ ⟨rfl, rfl⟩ _ _ ⟨rfl, rfl⟩ _ _ ⟨rfl, rfl⟩ _ _ ⟨rfl, rfl⟩ _ _ ⟨rfl, rfl⟩ _ _ ⟨rfl, rfl⟩ _ _ ⟨rfl, rfl⟩ _ _ ⟨rfl, rfl⟩ _ _ ⟨rfl, rfl⟩ _ _ ⟨rfl, rfl⟩ _ _ ⟨rfl, rfl⟩ _ _ ⟨rfl, rfl⟩ _ _ ⟨rfl, rfl⟩
                refine wl_norm (e' := [(1, _), (7, _), (8, _), (10, _), (12, _), (13, _), (14, _), (15, _), (16, _), (113, _)]) (.cons rfl (.cons rfl (.cons rfl (.cons rfl (.cons rfl (.cons rfl (.cons rfl (.cons rfl (.cons rfl (.cons rfl (.nil _))))))))))) (by dsimp only [cond_false, cond_true, List.nil_append, List.cons_append]) ?_
                refine wl_nil (st_tn ?_)
                exact cut_done1 [76, 605, 29, 43, 65] hK rfl (by first | (rw [decide_eq_decide]; omega) | (symm; rw [decide_eq_false_iff_not]; omega) | (symm; rw [decide_eq_true_iff]; omega) | (simp; done) | (simp; omega) | (simp [*]; done) | (simp [*]; omega)) (by rfl) rfl rfl
            · -- behind r28
              show W _ _ _ _ _ [(113, _), (1, _), (7, _), (8, _), (10, _), (12, _), (13, _), (14, _), (15, _), (16, _)] [(76, _), (605, _), (29, _), (43, _), (65, _)] _
              refine w_cond_d rfl (fun hc113 => ?_) (fun hc113 => ?_)
              · -- c113.t
                refine w_exit (st_te ?_)
                refine st_be (st_tn (w_region (zm rfl (zd rfl (op_add' rfl rfl (by omega)) ?_))))
                refine za rfl (wl_nil ?_)
                refine st_roundQ (x := (nx3, s, P3)) ((nx3, s + 1, P3)) [76, 605, 29, 43, 65] rfl (rfl) (.cons rfl (.nil _)) (.cons rfl (.cons rfl (.cons rfl (.cons rfl (.cons rfl (.cons rfl (.cons rfl (.cons rfl (.nil _))))))))) (by
                    try dsimp only
                    refine ⟨⟨by omega, by omega, hnl3⟩, hnx3, .inr ?_, hrow3, ⟨htb3, hh2⟩, hin0''⟩
                    obtain ⟨y', e1, e2, e3, e4⟩ := hcu.resolve_left (by omega)
                    have e5 : y' = y := by rw [hy] at e1; simpa using e1.symm
                    subst e5
                    exact ⟨y', hy, cur_keep (by omega) e2 hxr (by have := hc113.2; omega), e3, e4⟩) (by
                    try dsimp only
                    omega)
              · -- c113.f
                refine w_skip (st_tn (w_seq ?_))
                refine w_drawW (fun β => [⟨114, [], [], [], noW (_), false, [], []⟩, ⟨115, [], [], [], noW (_), false, [], []⟩, ⟨116, [0, 1], [], [], noW (_), false, [], []⟩, ⟨117, [2], [], [], noW (_), false, [], []⟩, ⟨118, [], [], [], noW (_), false, [], []⟩, ⟨119, [], [], [], noW (_), false, [], []⟩, ⟨120, [], [], [], noW (_), false, [], []⟩, ⟨121, [5, 6], [], [], noW (_), false, [], []⟩, ⟨122, [7], [], [], noW (_), false, [], []⟩, ⟨123, [], [], [], noW (_), false, [], []⟩, ⟨124, [8, 9], [], [], noW (_), false, [], []⟩, ⟨125, [10], [], [], noW (_), false, [], []⟩, ⟨126, [3, 4, 11], [], [], fun w => AndW _ (DetW _ _), false, [], []⟩, ⟨17, [], [], [], fun w => DetW _ _, false, [], []⟩]) [] [10, 16, 8, 15] [⟨114, [], [], false, [], []⟩, ⟨115, [], [], false, [], []⟩, ⟨116, [0, 1], [], false, [], []⟩, ⟨117, [2], [], false, [], []⟩, ⟨118, [], [], false, [], []⟩, ⟨119, [], [], false, [], []⟩, ⟨120, [], [], false, [], []⟩, ⟨121, [5, 6], [], false, [], []⟩, ⟨122, [7], [], false, [], []⟩, ⟨123, [], [], false, [], []⟩, ⟨124, [8, 9], [], false, [], []⟩, ⟨125, [10], [], false, [], []⟩, ⟨126, [3, 4, 11], [], false, [], []⟩, ⟨17, [], [], false, [], []⟩] [[], [], [], [], [], [], [], [], [], [], [], [], [], []] [[], [], [], [], [], [], [], [], [], [], [], [], [], []] tMixuk (fun _ => by rfl) (fun _ => by rfl) (by kernel_rfl) (by kernel_rfl) (by rfl) (by rfl)
                    (fun β => ⟨.p rfl (by intro X; exact op_move rfl),
                    ⟨.p rfl (by intro X; exact op_move rfl),
                    ⟨.p rfl (by intro X; rintro _ _ ⟨rfl, rfl⟩ _ _ ⟨rfl, rfl⟩; exact op_idx rfl rfl tS92uk (Sl.ent (Sl.lab 43 rfl (by unfold maxLen; omega))) (by omega)),
                    ⟨.p rfl (by intro X; rintro _ _ ⟨rfl, rfl⟩; exact op_ldxA rfl tA97uk (Sl.lab 43 rfl (by unfold maxLen; omega)) hx (by rfl) (by rfl)),
                    ⟨.p rfl (by intro X; exact op_move rfl),
                    ⟨.p rfl (by intro X; exact op_move rfl),
                    ⟨.p rfl (by intro X; exact op_move rfl),
                    ⟨.p rfl (by intro X; rintro _ _ ⟨rfl, rfl⟩ _ _ ⟨rfl, rfl⟩; exact op_idx rfl rfl tS99uk (Sl.ent (Sl.lab 29 rfl (by unfold maxLen; omega))) (by omega)),
                    ⟨.p rfl (by intro X; rintro _ _ ⟨rfl, rfl⟩; exact op_ldx rfl tO30uk (Sl.lab 29 rfl (by unfold maxLen; omega)) hh1 (by rfl)),
                    ⟨.p rfl (by intro X; exact op_move rfl),
                    ⟨.p rfl (by intro X; rintro _ _ ⟨rfl, rfl⟩ _ _ ⟨rfl, rfl⟩; exact op_idx rfl rfl tS30uk (Sl.ent (Sl.pool 605 rfl hh2 (by unfold maxLen; omega))) (by omega)),
                    ⟨.p rfl (by intro X; rintro _ _ ⟨rfl, rfl⟩; exact op_ldx rfl tO3uk (Sl.pool 605 rfl hh2 (by unfold maxLen; omega)) hcs (by rfl)),
                    ⟨.px rfl (by intro X; rintro _ _ ⟨rfl, rfl⟩ _ _ ⟨rfl, rfl⟩ _ _ ⟨rfl, rfl⟩; refine OpT.mono (op_fn Try.func41 rfl rfl rfl (afterS (x := x) (s := s) (segC pts s t) 126 (hxin.sl 605 rfl (by omega)) (by omega) (by omega) (by omega))) ?_; rintro _ _ ⟨a126, c126, h126, rfl, rfl⟩; obtain ⟨w, rfl, rfl⟩ : ∃ w : Wt, w.a = a126 ∧ w.c = c126 := ⟨{ a := a126, c := c126 }, rfl, rfl⟩; exact ⟨w, h126, rfl, rfl⟩),
                    ⟨.px rfl (by intro X; refine OpT.mono (op_alloc (l := 17) tN97uk) ?_; rintro _ _ ⟨b17, rfl, rfl⟩; obtain ⟨w, rfl⟩ : ∃ w : Wt, w.b = b17 := ⟨{ b := b17 }, rfl⟩; exact ⟨w, rfl, rfl⟩),
                    trivial⟩⟩⟩⟩⟩⟩⟩⟩⟩⟩⟩⟩⟩⟩)
                    (fun β β' => ⟨fun _ => by rfl, ⟨fun _ => by rfl, ⟨fun _ => by rfl, ⟨fun _ => by rfl, ⟨fun _ => by rfl, ⟨fun _ => by rfl, ⟨fun _ => by rfl, ⟨fun _ => by rfl, ⟨fun _ => by rfl, ⟨fun _ => by rfl, ⟨fun _ => by rfl, ⟨fun _ => by rfl, ⟨fun _ => by rfl, ⟨fun _ => by rfl, trivial⟩⟩⟩⟩⟩⟩⟩⟩⟩⟩⟩⟩⟩⟩) ?_
                intro β
                rintro _ _ ⟨rfl, rfl⟩ _ _ ⟨rfl, rfl⟩ _ _ ⟨rfl, rfl⟩ _ _ ⟨rfl, rfl⟩ _ _ ⟨rfl, rfl⟩ _ _ ⟨rfl, rfl⟩ _ _ ⟨rfl, rfl⟩ _ _ ⟨rfl, rfl⟩ _ _ ⟨rfl, rfl⟩ _ _ ⟨rfl, rfl⟩ _ _ ⟨rfl, rfl⟩ _ _ ⟨rfl, rfl⟩ _ _ ⟨h126, rfl, rfl⟩ _ _ ⟨rfl, rfl⟩
                generalize (β 12).a = a126 at h126 ⊢
                generalize (β 12).c = c126 at h126 ⊢
                generalize (β 13).b = b17 at h126 ⊢
                refine wl_norm (e' := [(1, _), (7, _), (8, _), (10, _), (12, _), (13, _), (14, _), (15, _), (16, _), (17, _), (126, _)]) (.cons rfl (.cons rfl (.cons rfl (.cons rfl (.cons rfl (.cons rfl (.cons rfl (.cons rfl (.cons rfl (.cons rfl (.cons rfl (.nil _)))))))))))) (by dsimp only [cond_false, cond_true, List.nil_append, List.cons_append]) ?_
                refine wl_op0 [17] rfl rfl rfl (op_store rfl rfl tZ97uk (by rfl) (by rfl) (by exact Nat.le_of_ble_eq_true rfl)) ?_
                rintro _ _ ⟨rfl, rfl⟩
                refine wl_nil (st_tn (w_seq (w_star 126 605 605 rfl ?_)))
                refine w_wk 605 (poolZ (((if s > 0 then Value.slice a126 (x.cuts.length + 1) c126 else .slice none 0 0), (if s > 0 then x.cuts ++ [(s : Int)] else [])) :: P3)) rfl (fun _ h => h) ?_
                refine w_wk 17 (cel b17 (encBst (aftV x s (segC pts s t) a126 c126)) 97) rfl (fun _ h => h) ?_
                have hY := hxin.aft (cost := segC pts s t) h126
                have hYc : (aftV x s (segC pts s t) a126 c126).cuts.length ≤ q + 1 := by
                  unfold aftV; dsimp only
                  by_cases h0 : s > 0
                  · rw [if_pos h0, List.length_append, List.length_singleton]; omega
                  · rw [if_neg h0]; omega
                refine w_cutL [(137, .bool (decide (s = q + 1 ∨ btr (keyB (aftV x s (segC pts s t) a126 c126)) (keyB y) = true)))] [1, 7, 8, 10, 12, 13, 14, 15, 16, 17] [29, 43, 65, 76, 605, 17] rfl (fun K' hK => ?_) ?_
                · -- cut r30
                  by_cases hs3 : (s : Int) = ((q + 1 : Nat) : Int)
                  · -- hs3 True
                    refine w_drawW (fun β => [⟨127, [], [], [], noW (_), false, [], []⟩, ⟨128, [], [], [], noW (_), false, [], []⟩, ⟨129, [0, 1], [], [], noW (_), false, [], []⟩, ⟨130, [2], [], [], noW (_), false, [], []⟩, ⟨131, [], [], [], noW (Det undef), false, [], []⟩, ⟨132, [], [], [], noW (Det undef), false, [], []⟩, ⟨133, [], [], [], noW (Det undef), false, [], []⟩, ⟨134, [], [], [], noW (Det undef), false, [], []⟩, ⟨135, [], [], [], noW (Det undef), false, [], []⟩, ⟨136, [], [], [], noW (Det undef), false, [], []⟩, ⟨137, [3, 9], [], [], noW (_), false, [], []⟩]) [] [16, 13, 17, 14, 15] [⟨127, [], [], false, [], []⟩, ⟨128, [], [], false, [], []⟩, ⟨129, [0, 1], [], false, [], []⟩, ⟨130, [2], [], false, [], []⟩, ⟨131, [], [], false, [], []⟩, ⟨132, [], [], false, [], []⟩, ⟨133, [], [], false, [], []⟩, ⟨134, [], [], false, [], []⟩, ⟨135, [], [], false, [], []⟩, ⟨136, [], [], false, [], []⟩, ⟨137, [3, 9], [], false, [], []⟩] [[], [], [], [], [], [], [], [], [], [], []] [[], [], [], [], [], [], [], [], [], [], []] tMixuk (fun _ => by rfl) (fun _ => by rfl) (by kernel_rfl) (by kernel_rfl) (by rfl) (by rfl)
                        (fun β => ⟨.p rfl (by intro X; exact op_move rfl),
                        ⟨.p rfl (by intro X; exact op_move rfl),
                        ⟨.p rfl (by intro X; rintro _ _ ⟨rfl, rfl⟩ _ _ ⟨rfl, rfl⟩; exact op_eql rfl rfl),
                        ⟨.p rfl (by intro X; rintro _ _ ⟨rfl, rfl⟩; exact op_move rfl),
                        ⟨.u rfl rfl rfl (by rintro _ _ ⟨rfl, rfl⟩; exact congrArg (offB false) (by first | rfl | (exact congrArg Value.bool (decide_eq_true (by omega))) | (exact congrArg Value.bool (decide_eq_false (by omega))) | (simp; done) | (simp; omega) | (simp [*]; done) : _ = Value.bool true)) ⟨rfl, rfl⟩ rfl rfl,
                        ⟨.u rfl rfl rfl (by rintro _ _ ⟨rfl, rfl⟩; exact congrArg (offB false) (by first | rfl | (exact congrArg Value.bool (decide_eq_true (by omega))) | (exact congrArg Value.bool (decide_eq_false (by omega))) | (simp; done) | (simp; omega) | (simp [*]; done) : _ = Value.bool true)) ⟨rfl, rfl⟩ rfl rfl,
                        ⟨.u rfl rfl rfl (by rintro _ _ ⟨rfl, rfl⟩; exact congrArg (offB false) (by first | rfl | (exact congrArg Value.bool (decide_eq_true (by omega))) | (exact congrArg Value.bool (decide_eq_false (by omega))) | (simp; done) | (simp; omega) | (simp [*]; done) : _ = Value.bool true)) ⟨rfl, rfl⟩ rfl rfl,
                        ⟨.u rfl rfl rfl (by rintro _ _ ⟨rfl, rfl⟩; exact congrArg (offB false) (by first | rfl | (exact congrArg Value.bool (decide_eq_true (by omega))) | (exact congrArg Value.bool (decide_eq_false (by omega))) | (simp; done) | (simp; omega) | (simp [*]; done) : _ = Value.bool true)) ⟨rfl, rfl⟩ rfl rfl,
                        ⟨.u rfl rfl rfl (by rintro _ _ ⟨rfl, rfl⟩; exact congrArg (offB false) (by first | rfl | (exact congrArg Value.bool (decide_eq_true (by omega))) | (exact congrArg Value.bool (decide_eq_false (by omega))) | (simp; done) | (simp; omega) | (simp [*]; done) : _ = Value.bool true)) ⟨rfl, rfl⟩ rfl rfl,
                        ⟨.u rfl rfl rfl (by rintro _ _ ⟨rfl, rfl⟩; exact congrArg (offB false) (by first | rfl | (exact congrArg Value.bool (decide_eq_true (by omega))) | (exact congrArg Value.bool (decide_eq_false (by omega))) | (simp; done) | (simp; omega) | (simp [*]; done) : _ = Value.bool true)) ⟨rfl, rfl⟩ rfl rfl,
                        ⟨.p rfl (by intro X; rintro _ _ ⟨rfl, rfl⟩ _ _ ⟨rfl, rfl⟩; exact op_pick_t (by first | rfl | (show some (Value.bool (decide _)) = _; rw [decide_eq_true (by omega)]) | (show some (Value.bool (decide _)) = _; rw [decide_eq_false (by omega)]) | (simp [ev, lk]; done) | (simp [ev, lk]; omega) | (simp [ev, lk, *]; done)) rfl),
                        trivial⟩⟩⟩⟩⟩⟩⟩⟩⟩⟩⟩)
                        (fun β β' => ⟨fun _ => by rfl, ⟨fun _ => by rfl, ⟨fun _ => by rfl, ⟨fun _ => by rfl, ⟨fun _ => by rfl, ⟨fun _ => by rfl, ⟨fun _ => by rfl, ⟨fun _ => by rfl, ⟨fun _ => by rfl, ⟨fun _ => by rfl, ⟨fun _ => by rfl, trivial⟩⟩⟩⟩⟩⟩⟩⟩⟩⟩⟩) ?_
                    intro β
                    rintro _ _ ⟨rfl, rfl⟩ _ _ ⟨rfl, rfl⟩ _ _ ⟨rfl, rfl⟩ _ _ ⟨rfl, rfl⟩ _ _ ⟨rfl, rfl⟩ _ _ ⟨rfl, rfl⟩ _ _ ⟨rfl, rfl⟩ _ _ ⟨rfl, rfl⟩ _ _ ⟨rfl, rfl⟩ _ _ ⟨rfl, rfl⟩ _ _ ⟨rfl, rfl⟩
                    refine wl_norm (e' := [(1, _), (7, _), (8, _), (10, _), (12, _), (13, _), (14, _), (15, _), (16, _), (17, _), (137, _)]) (.cons rfl (.cons rfl (.cons rfl (.cons rfl (.cons rfl (.cons rfl (.cons rfl (.cons rfl (.cons rfl (.cons rfl (.cons rfl (.nil _)))))))))))) (by dsimp only [cond_false, cond_true, List.nil_append, List.cons_append]) ?_
                    refine wl_nil (st_tn ?_)
                    exact cut_done1 [29, 43, 65, 76, 605, 17] hK rfl (by first | (symm; rw [decide_eq_true_iff]; exact .inl (by omega)) | (simp [show ¬ s = q + 1 by omega]; done)) (by rfl) rfl rfl
                  · -- hs3 False
                    obtain ⟨y', e1, e2, e3, e4⟩ := hcu.resolve_left (by omega)
                    have e5 : y' = y := by rw [hy] at e1; simpa using e1.symm
                    subst e5
                    refine w_drawW (fun β => [⟨127, [], [], [], noW (_), false, [], []⟩, ⟨128, [], [], [], noW (_), false, [], []⟩, ⟨129, [0, 1], [], [], noW (_), false, [], []⟩, ⟨130, [2], [], [], noW (_), false, [], []⟩, ⟨131, [], [], [], noW (_), false, [], []⟩, ⟨132, [], [], [], noW (_), false, [], []⟩, ⟨133, [], [], [], noW (_), false, [], []⟩, ⟨134, [5, 6], [], [], noW (_), false, [], []⟩, ⟨135, [7], [], [], noW (_), false, [], []⟩, ⟨136, [4, 8], [], [], noW (_), false, [], []⟩, ⟨137, [3, 9], [], [], noW (_), false, [], []⟩]) [] [16, 13, 17, 14, 15] [⟨127, [], [], false, [], []⟩, ⟨128, [], [], false, [], []⟩, ⟨129, [0, 1], [], false, [], []⟩, ⟨130, [2], [], false, [], []⟩, ⟨131, [], [], false, [], []⟩, ⟨132, [], [], false, [], []⟩, ⟨133, [], [], false, [], []⟩, ⟨134, [5, 6], [], false, [], []⟩, ⟨135, [7], [], false, [], []⟩, ⟨136, [4, 8], [], false, [], []⟩, ⟨137, [3, 9], [], false, [], []⟩] [[], [], [], [], [], [], [], [], [], [], []] [[], [], [], [], [], [], [], [], [], [], []] tMixuk (fun _ => by rfl) (fun _ => by rfl) (by kernel_rfl) (by kernel_rfl) (by rfl) (by rfl)
                        (fun β => ⟨.p rfl (by intro X; exact op_move rfl),
                        ⟨.p rfl (by intro X; exact op_move rfl),
                        ⟨.p rfl (by intro X; rintro _ _ ⟨rfl, rfl⟩ _ _ ⟨rfl, rfl⟩; exact op_eql rfl rfl),
                        ⟨.p rfl (by intro X; rintro _ _ ⟨rfl, rfl⟩; exact op_move rfl),
                        ⟨.w rfl rfl rfl (by rintro _ _ ⟨rfl, rfl⟩; first | rfl | (exact congrArg Value.bool (decide_eq_true (by omega))) | (exact congrArg Value.bool (decide_eq_false (by omega))) | (simp; done) | (simp; omega) | (simp [*]; done)) (by intro X; exact op_loadA rfl tA97uk (Ent.lab (l := 17) rfl (says_cel 0)) (Nat.le_of_ble_eq_true rfl)),
                        ⟨.w rfl rfl rfl (by rintro _ _ ⟨rfl, rfl⟩; first | rfl | (exact congrArg Value.bool (decide_eq_true (by omega))) | (exact congrArg Value.bool (decide_eq_false (by omega))) | (simp; done) | (simp; omega) | (simp [*]; done)) (by intro X; exact op_move rfl),
                        ⟨.w rfl rfl rfl (by rintro _ _ ⟨rfl, rfl⟩; first | rfl | (exact congrArg Value.bool (decide_eq_true (by omega))) | (exact congrArg Value.bool (decide_eq_false (by omega))) | (simp; done) | (simp; omega) | (simp [*]; done)) (by intro X; exact op_move rfl),
                        ⟨.w rfl rfl rfl (by rintro _ _ ⟨rfl, rfl⟩; first | rfl | (exact congrArg Value.bool (decide_eq_true (by omega))) | (exact congrArg Value.bool (decide_eq_false (by omega))) | (simp; done) | (simp; omega) | (simp [*]; done)) (by intro X; rintro _ _ ⟨rfl, rfl⟩ _ _ ⟨rfl, rfl⟩; exact op_idx rfl rfl tS92uk (Sl.ent (Sl.lab 76 rfl (by unfold maxLen; omega))) (by omega)),
                        ⟨.w rfl rfl rfl (by rintro _ _ ⟨rfl, rfl⟩; first | rfl | (exact congrArg Value.bool (decide_eq_true (by omega))) | (exact congrArg Value.bool (decide_eq_false (by omega))) | (simp; done) | (simp; omega) | (simp [*]; done)) (by intro X; rintro _ _ ⟨rfl, rfl⟩; exact op_ldxA rfl tA97uk (Sl.lab 76 rfl (by unfold maxLen; omega)) hy (by rfl) (by rfl)),
                        ⟨.w rfl rfl rfl (by rintro _ _ ⟨rfl, rfl⟩; first | rfl | (exact congrArg Value.bool (decide_eq_true (by omega))) | (exact congrArg Value.bool (decide_eq_false (by omega))) | (simp; done) | (simp; omega) | (simp [*]; done)) (by intro X; rintro _ _ ⟨rfl, rfl⟩ _ _ ⟨rfl, rfl⟩; exact op_fn Try.func42 rfl rfl rfl (betterS (hY.sl 605 rfl (by omega)) ((e3.more _).sl 605 rfl (by omega)))),
                        ⟨.p rfl (by intro X; rintro _ _ ⟨rfl, rfl⟩ _ _ ⟨rfl, rfl⟩; exact op_pick_f (by first | rfl | (show some (Value.bool (decide _)) = _; rw [decide_eq_true (by omega)]) | (show some (Value.bool (decide _)) = _; rw [decide_eq_false (by omega)]) | (simp [ev, lk]; done) | (simp [ev, lk]; omega) | (simp [ev, lk, *]; done)) rfl),
                        trivial⟩⟩⟩⟩⟩⟩⟩⟩⟩⟩⟩)
                        (fun β β' => ⟨fun _ => by rfl, ⟨fun _ => by rfl, ⟨fun _ => by rfl, ⟨fun _ => by rfl, ⟨fun _ => by rfl, ⟨fun _ => by rfl, ⟨fun _ => by rfl, ⟨fun _ => by rfl, ⟨fun _ => by rfl, ⟨fun _ => by rfl, ⟨fun _ => by rfl, trivial⟩⟩⟩⟩⟩⟩⟩⟩⟩⟩⟩) ?_
                    intro β
                    rintro _ _ ⟨rfl, rfl⟩ _ _ ⟨rfl, rfl⟩ _ _ ⟨rfl, rfl⟩ _ _ ⟨rfl, rfl⟩ _ _ ⟨rfl, rfl⟩ _ _ ⟨rfl, rfl⟩ _ _ ⟨rfl, rfl⟩ _ _ ⟨rfl, rfl⟩ _ _ ⟨rfl, rfl⟩ _ _ ⟨rfl, rfl⟩ _ _ ⟨rfl, rfl⟩
                    refine wl_norm (e' := [(1, _), (7, _), (8, _), (10, _), (12, _), (13, _), (14, _), (15, _), (16, _), (17, _), (137, _)]) (.cons rfl (.cons rfl (.cons rfl (.cons rfl (.cons rfl (.cons rfl (.cons rfl (.cons rfl (.cons rfl (.cons rfl (.cons rfl (.nil _)))))))))))) (by dsimp only [cond_false, cond_true, List.nil_append, List.cons_append]) ?_
                    refine wl_nil (st_tn ?_)
                    exact cut_done1 [29, 43, 65, 76, 605, 17] hK rfl (by first | (symm; rw [decide_eq_true_iff]; exact .inl (by omega)) | (simp [show ¬ s = q + 1 by omega]; done)) (by rfl) rfl rfl
                · -- behind r30
                  show W _ _ _ _ _ [(137, _), (1, _), (7, _), (8, _), (10, _), (12, _), (13, _), (14, _), (15, _), (16, _), (17, _)] [(29, _), (43, _), (65, _), (76, _), (605, _), (17, _)] _
                  refine w_cond_d rfl (fun hc137 => ?_) (fun hc137 => ?_)
                  · -- c137.t
                    refine w_region (zm rfl (zm rfl (zd rfl (op_loadA rfl tA97uk (Ent.lab (l := 17) rfl (says_cel 0)) (Nat.le_of_ble_eq_true rfl)) (zd rfl (op_idx rfl rfl tS92uk (Sl.ent (Sl.lab 76 rfl (by unfold maxLen; omega))) (by omega)) ?_))))
                    refine wl_op0 [76] rfl rfl rfl (op_storeA (lab := 76) (i := t) (b' := aftV x s (segC pts s t) a126 c126) rfl rfl tZbst enc1Bst rfl (by omega)) ?_
                    rintro _ _ ⟨rfl, rfl⟩
                    refine wl_nil (st_bn (st_tn (w_region (zm rfl (zd rfl (op_add' rfl rfl (by omega)) ?_)))))
                    refine za rfl (wl_nil ?_)
                    refine st_roundQ (x := (nx3, s, P3)) ((nx3.set t (aftV x s (segC pts s t) a126 c126), s + 1, ((if s > 0 then Value.slice a126 (x.cuts.length + 1) c126 else .slice none 0 0), (if s > 0 then x.cuts ++ [(s : Int)] else [])) :: P3)) [76, 605, 29, 43, 65] rfl (rfl) (.cons rfl (.nil _)) (.cons rfl (.cons rfl (.cons rfl (.cons rfl (.cons rfl (.cons rfl (.cons rfl (.cons rfl (.nil _))))))))) (by
                        try dsimp only
                        refine ⟨⟨by omega, by omega, by rw [List.length_set]; exact hnl3⟩, (hnx3.more _).set _, .inr ⟨_, List.getElem?_set_self (by omega), ?_, hY, hYc⟩, hrow3.more _, ⟨htb3.more _, List.mem_cons_of_mem _ hh2⟩, hin0''.more _⟩
                        by_cases hsq : s = q + 1
                        · subst hsq; exact cur_first hxr
                        · obtain ⟨y', e1, e2, e3, e4⟩ := hcu.resolve_left hsq
                          have e5 : y' = y := by rw [hy] at e1; simpa using e1.symm
                          subst e5
                          refine cur_new (by omega) e2 hxr ?_
                          exact btr_le (hc137.resolve_left hsq)) (by
                        try dsimp only
                        omega)
                  · -- c137.f
                    refine w_skip (st_bn (st_tn (w_region (zm rfl (zd rfl (op_add' rfl rfl (by omega)) ?_)))))
                    refine za rfl (wl_nil ?_)
                    refine st_roundQ (x := (nx3, s, P3)) ((nx3, s + 1, ((if s > 0 then Value.slice a126 (x.cuts.length + 1) c126 else .slice none 0 0), (if s > 0 then x.cuts ++ [(s : Int)] else [])) :: P3)) [76, 605, 29, 43, 65] rfl (rfl) (.cons rfl (.nil _)) (.cons rfl (.cons rfl (.cons rfl (.cons rfl (.cons rfl (.cons rfl (.cons rfl (.cons rfl (.nil _))))))))) (by
                        try dsimp only
                        refine ⟨⟨by omega, by omega, hnl3⟩, hnx3.more _, .inr ?_, hrow3.more _, ⟨htb3.more _, List.mem_cons_of_mem _ hh2⟩, hin0''.more _⟩
                        have hsq : ¬ s = q + 1 := fun e => hc137 (.inl e)
                        obtain ⟨y', e1, e2, e3, e4⟩ := hcu.resolve_left hsq
                        have e5 : y' = y := by rw [hy] at e1; simpa using e1.symm
                        subst e5
                        have e6 : btr (keyB (aftV x s (segC pts s t) a126 c126)) (keyB y') = false := by
                          cases e7 : btr (keyB (aftV x s (segC pts s t) a126 c126)) (keyB y') with
                          | false => rfl
                          | true => exact absurd (.inr e7) hc137
                        exact ⟨y', hy, cur_keep (by omega) e2 hxr (btr_nle e6), e3.more _, e4⟩) (by
                        try dsimp only
                        omega)
          · -- c87.f
            refine w_exit (st_te ?_)
            refine st_te ?_
            refine st_be (st_bn (st_tn ?_))
            have hnx4 : RowOk (segC pts) (q + 1) (t + 1) P3 nx3 := by
              obtain ⟨y', e1, e2, e3, e4⟩ := hcu.resolve_left (by omega)
              have hst : s = t := by omega
              rw [hst] at e2
              exact hnx3.succ e1 ⟨cur_row e2, e3, e4⟩
            refine w_region (zm rfl (zd rfl (op_add' rfl rfl (by omega)) ?_))
            refine za rfl (wl_nil ?_)
            refine st_roundQ (x := (nx, t, P2)) ((nx3, t + 1, P3)) [76, 605, 29, 43, 65] rfl (rfl) (.cons rfl (.nil _)) (.cons rfl (.cons rfl (.cons rfl (.cons rfl (.cons rfl (.cons rfl (.cons rfl (.nil _)))))))) (by
                try dsimp only
                exact ⟨⟨by omega, by omega, hnl3⟩, hnx4, hrow3, htb3, hin0''⟩) (by
                try dsimp only
                omega)
        · -- c81.f
          refine w_exit (st_te ?_)
          refine st_te ?_
          refine st_be (st_tn (w_seq (w_cls [43, 76] (A := [(43, slW 97 encBst 2 (.slice ar (pts.length + 1) cr) row), (76, slW 97 encBst 2 (.slice a76 (pts.length + 1) c76) nx)]) (C := [(43, slW 97 encBst 2 (.slice a76 (pts.length + 1) c76) nx)]) (fun F w h => h.tail) rfl ?_)))
          have htn3 : t = pts.length + 1 := by omega
          subst htn3
          refine Exists.elim (hnx pts.length (by omega) (by omega)) (fun xn hxn => ?_)
          have hxn1 := hxn.1
          have hxn2 := hxn.2.1
          have hxn3 := hxn.2.2.1
          have hxn4 := hxn.2.2.2
          have hol := hcnt.1
          refine w_region (zm rfl (za rfl (wl_nil (st_tn ?_))))
          refine w_drawW (fun β => [⟨143, [], [], [], noW (_), false, [], []⟩, ⟨144, [], [], [], noW (_), false, [], []⟩, ⟨145, [], [], [], noW (_), false, [], []⟩, ⟨146, [1, 2], [], [], noW (_), false, [], []⟩, ⟨147, [3], [], [], noW (_), false, [], []⟩, ⟨148, [4], [], [], noW (_), false, [], []⟩, ⟨149, [5], [], [], fun w => DetW _ _, false, [], []⟩, ⟨150, [], [], [], noW (_), false, [], []⟩, ⟨151, [], [], [], noW (_), false, [], []⟩, ⟨152, [7, 8], [], [], noW (_), false, [], []⟩, ⟨153, [9], [], [], noW (_), false, [], []⟩, ⟨154, [10], [], [], noW (_), false, [], []⟩, ⟨155, [6, 11], [], [], noW (_), false, [], []⟩, ⟨156, [12], [], [], fun w => DetW _ _, false, [], []⟩]) [] [12, 10, 7] [⟨143, [], [], false, [], []⟩, ⟨144, [], [], false, [], []⟩, ⟨145, [], [], false, [], []⟩, ⟨146, [1, 2], [], false, [], []⟩, ⟨147, [3], [], false, [], []⟩, ⟨148, [4], [], false, [], []⟩, ⟨149, [5], [], false, [], []⟩, ⟨150, [], [], false, [], []⟩, ⟨151, [], [], false, [], []⟩, ⟨152, [7, 8], [], false, [], []⟩, ⟨153, [9], [], false, [], []⟩, ⟨154, [10], [], false, [], []⟩, ⟨155, [6, 11], [], false, [], []⟩, ⟨156, [12], [], false, [], []⟩] [[], [], [], [], [], [], [], [], [], [], [], [], [6], [6]] [[], [], [], [], [], [], [], [], [], [], [], [], [], []] tMixuk (fun _ => by rfl) (fun _ => by rfl) (by kernel_rfl) (by kernel_rfl) (by rfl) (by rfl)
              (fun β => ⟨.p rfl (by intro X; exact op_move rfl),
              ⟨.p rfl (by intro X; exact op_move rfl),
              ⟨.p rfl (by intro X; exact op_move rfl),
              ⟨.p rfl (by intro X; rintro _ _ ⟨rfl, rfl⟩ _ _ ⟨rfl, rfl⟩; exact op_idx rfl rfl tS92uk (Sl.ent (Sl.lab 43 rfl (by unfold maxLen; omega))) (by omega)),
              ⟨.p rfl (by intro X; rintro _ _ ⟨rfl, rfl⟩; exact op_fieldAddr (off := 1) rfl tF97_1uk),
              ⟨.p rfl (by intro X; rintro _ _ ⟨rfl, rfl⟩; exact op_ldxf (j := 1) rfl tO30uk (Sl.lab 43 rfl (by unfold maxLen; omega)) hxn1 (by rfl)),
              ⟨.px rfl (by intro X; rintro _ _ ⟨rfl, rfl⟩; refine OpT.mono (op_fn Try.func43 rfl rfl rfl (cloneI (rl := xn.cuts) 149 (hxn3.sl 605 rfl (by omega)) (by omega))) ?_; rintro _ _ ⟨a149, c149, rfl, rfl⟩; obtain ⟨w, rfl, rfl⟩ : ∃ w : Wt, w.a = a149 ∧ w.c = c149 := ⟨{ a := a149, c := c149 }, rfl, rfl⟩; exact ⟨w, rfl, rfl⟩),
              ⟨.p rfl (by intro X; exact op_move rfl),
              ⟨.p rfl (by intro X; exact op_move rfl),
              ⟨.p rfl (by intro X; rintro _ _ ⟨rfl, rfl⟩ _ _ ⟨rfl, rfl⟩; exact op_idx rfl rfl tS92uk (Sl.ent (Sl.lab 43 rfl (by unfold maxLen; omega))) (by omega)),
              ⟨.p rfl (by intro X; rintro _ _ ⟨rfl, rfl⟩; exact op_fieldAddr (off := 0) rfl tF97_0uk),
              ⟨.p rfl (by intro X; rintro _ _ ⟨rfl, rfl⟩; exact op_ldxf (j := 0) rfl tO3uk (Sl.lab 43 rfl (by unfold maxLen; omega)) hxn1 (by rfl)),
              ⟨.p rfl (by intro X; rintro _ _ ⟨rfl, rfl⟩ _ _ ⟨rfl, rfl⟩; exact op_build tB60uk rfl rfl),
              ⟨.px rfl (by intro X; rintro _ _ ⟨rfl, rfl⟩; refine OpT.mono (op_buildSlice (enc := encSg) (l := [((β 6).a, xn.cuts.length, (β 6).c, xn.tot)]) (lab := 156) tL67_1uk rfl rfl (fun _ => rfl) rfl) ?_; rintro _ _ ⟨a156, c156, rfl, rfl⟩; obtain ⟨w, rfl, rfl⟩ : ∃ w : Wt, w.a = a156 ∧ w.c = c156 := ⟨{ a := a156, c := c156 }, rfl, rfl⟩; exact ⟨w, rfl, rfl⟩),
              trivial⟩⟩⟩⟩⟩⟩⟩⟩⟩⟩⟩⟩⟩⟩)
              (fun β β' => ⟨fun _ => by rfl, ⟨fun _ => by rfl, ⟨fun _ => by rfl, ⟨fun _ => by rfl, ⟨fun _ => by rfl, ⟨fun _ => by rfl, ⟨fun _ => by rfl, ⟨fun _ => by rfl, ⟨fun _ => by rfl, ⟨fun _ => by rfl, ⟨fun _ => by rfl, ⟨fun _ => by rfl, ⟨fun h => by first | rfl | (simp only [h 6 (by decide)]), ⟨fun h => by first | rfl | (simp only [h 6 (by decide)]), trivial⟩⟩⟩⟩⟩⟩⟩⟩⟩⟩⟩⟩⟩⟩) ?_
          intro β
          rintro _ _ ⟨rfl, rfl⟩ _ _ ⟨rfl, rfl⟩ _ _ ⟨rfl, rfl⟩ _ _ ⟨rfl, rfl⟩ _ _ ⟨rfl, rfl⟩ _ _ ⟨rfl, rfl⟩ _ _ ⟨rfl, rfl⟩ _ _ ⟨rfl, rfl⟩ _ _ ⟨rfl, rfl⟩ _ _ ⟨rfl, rfl⟩ _ _ ⟨rfl, rfl⟩ _ _ ⟨rfl, rfl⟩ _ _ ⟨rfl, rfl⟩ _ _ ⟨rfl, rfl⟩
          generalize (β 6).a = a149
          generalize (β 6).c = c149
          generalize (β 13).a = a156
          generalize (β 13).c = c156
          refine wl_norm (e' := [(1, _), (7, _), (8, _), (10, _), (13, _), (143, _), (156, _)]) (.cons rfl (.cons rfl (.cons rfl (.cons rfl (.cons rfl (.cons rfl (.cons rfl (.nil _)))))))) (by dsimp only [cond_false, cond_true, List.nil_append, List.cons_append]) ?_
          refine wl_op [65] rfl rfl rfl rfl (op_append (lab := 65) (lab' := 157) rfl rfl tP67uk enc1Sg (Sl.lab 156 rfl (by simp [maxLen])) (by first | omega | (simp; done) | (simp; omega) | (simp [*]; omega)) (by first | omega | (simp; done) | (simp; omega) | (simp [*]; omega))) ?_
          rintro _ _ ⟨a157, c157, rfl, rfl⟩
          refine za rfl (wl_nil (st_bn (st_tn (w_region (zm rfl (zd rfl (op_add' rfl rfl (by omega)) ?_))))))
          refine za rfl (wl_nil ?_)
          refine st_roundQ (x := (out, a_out, c_out, q, row, ar, cr, P)) ((_, _, _, q + 1, nx, a76, c76, P2)) [157, 43, 605, 29] rfl (rfl) (.cons rfl (.cons rfl (.cons rfl (.nil _)))) (.cons rfl (.cons rfl (.cons rfl (.nil _)))) (by
              try dsimp only
              exact ⟨⟨by omega, hnl⟩, hnx, hcnt.add _ hxn2, htb2, hin0'⟩) (by
              try dsimp only
              omega)
      · -- c71.f
        refine w_exit (st_te ?_)
        refine st_te ?_
        refine st_be (st_tn (w_seq (w_region (zm rfl (za rfl (za rfl (wl_nil (st_tn (w_ret (st_ret (vs := [_, _]) [65] Try.results21 ⟨rfl, ⟨rfl, trivial⟩⟩ rfl ?_))))))))))
        refine ⟨[(lab, _)], rfl, ?_⟩
        have hqn : q + 1 = pts.length := by omega
        rw [hqn] at hcnt
        exact ⟨out, _, _, hcnt, rfl, rfl⟩
end Go.Proofs.Ytecmigildpkigaa
namespace Go.Proofs.Ytecmigildpkigaa
open Go Go.SL Go.RowKit Go.SegP
set_option linter.unusedVariables false
set_option linter.unusedSimpArgs false
theorem tA60ul : aggB Try.prog 60 2 = true := by kernel_rfl
theorem tF60_0ul : fieldB Try.prog 60 0 0 = true := by kernel_rfl
theorem tF60_1ul : fieldB Try.prog 60 1 1 = true := by kernel_rfl
theorem tL30_1ul : zerosB Try.prog 30 3 1 1 = some [Value.int .i64 0] := by kernel_rfl
theorem tL30_5ul : zerosB Try.prog 30 3 1 5 = some [Value.int .i64 0, Value.int .i64 0, Value.int .i64 0, Value.int .i64 0, Value.int .i64 0] := by kernel_rfl
theorem tL30_6ul : zerosB Try.prog 30 3 1 6 = some [Value.int .i64 0, Value.int .i64 0, Value.int .i64 0, Value.int .i64 0, Value.int .i64 0, Value.int .i64 0] := by kernel_rfl
theorem tMixul : Try.prog.follows .mixedOrders = true := by kernel_rfl
theorem tN60ul : (Try.prog.info? 60).bind (·.zero) = some (Value.agg #[Value.slice none 0 0, Value.int .i64 0]) := by kernel_rfl
theorem tO3ul : oneB Try.prog 3 = true := by kernel_rfl
theorem tO30ul : oneB Try.prog 30 = true := by kernel_rfl
theorem tS30ul : sliceB Try.prog 30 3 1 = true := by kernel_rfl
theorem tZ60ul : (Try.prog.info? 60).map (·.size) = some 2 := by kernel_rfl
def insI (x : Int) : List Int → List Int
  | [] => [x]
  | y :: l => if x ≤ y then x :: y :: l else y :: insI x l
def isrt : List Int → List Int
  | [] => []
  | x :: l => insI x (isrt l)
theorem insI_perm (x : Int) : ∀ l, (insI x l).Perm (x :: l)
  | [] => List.Perm.refl _
  | y :: l => by
    unfold insI
    split
    · exact List.Perm.refl _
    · exact ((insI_perm x l).cons y).trans (List.Perm.swap x y l)
theorem insI_sorted {x : Int} : ∀ {l : List Int}, l.Pairwise (· ≤ ·) → (insI x l).Pairwise (· ≤ ·)
  | [], _ => by simp [insI]
  | y :: l, h => by
    obtain ⟨h1, h2⟩ := List.pairwise_cons.1 h
    unfold insI
    split
    · rename_i hxy
      refine List.pairwise_cons.2 ⟨fun z hz => ?_, h⟩
      rcases List.mem_cons.1 hz with rfl | hz
      · exact hxy
      · have := h1 z hz; omega
    · rename_i hxy
      refine List.pairwise_cons.2 ⟨fun z hz => ?_, insI_sorted h2⟩
      rcases List.mem_cons.1 ((insI_perm x l).mem_iff.1 hz) with rfl | hz
      · omega
      · exact h1 z hz
theorem isrt_perm : ∀ l, (isrt l).Perm l
  | [] => List.Perm.refl _
  | x :: l => (insI_perm x _).trans ((isrt_perm l).cons x)
theorem isrt_sorted : ∀ l, (isrt l).Pairwise (· ≤ ·)
  | [] => List.Pairwise.nil
  | x :: l => insI_sorted (isrt_sorted l)
theorem srt_isrt (l : List Int) : srt l = isrt l := srt_eq (isrt_sorted l) (isrt_perm l)
def costI (l : List Int) : Int := devZ l ((isrt l).getD ((l.length - 1) / 2) 0)
theorem cost_eq (l : List Int) : costZ l = costI l := by unfold costZ medZ costI; rw [srt_isrt]
def segI (pts : List Int) (s t : Nat) : Int := costI ((pts.take t).drop s)
theorem seg_eq (pts : List Int) : segC pts = segI pts := by funext s t; exact cost_eq _
set_option maxHeartbeats 400000 in
set_option maxRecDepth 100000 in
theorem sameS {σ : World} {F : List Res} {a b : Option Addr} {c d : Nat} {l m : List Int} (h : Sl σ F SL.encZ 1 (.slice a l.length c) l) (g : Sl σ F SL.encZ 1 (.slice b m.length d) m) :
    FnT Try.prog σ F 49 [.slice a l.length c, .slice b m.length d] [] (fun u ρ => u = .bool (decide (l = m)) ∧ ρ = []) := by
  refine fn_of 26 Try.func49 rfl Try.ntmps49 rfl ?_
  have hle := h.i64
  have gle := g.i64
  refine w_seq (w_region (za rfl (wl_nil (st_tn (w_seq (w_seq (w_region (zm rfl (zd rfl (op_lenT rfl tS30ul (Sl.ent (h.app _))) (zm rfl (zd rfl (op_lenT rfl tS30ul (Sl.ent (g.app _))) (zd rfl (op_neq rfl rfl) (wl_nil ?_)))))))))))))
  refine st_tn (w_cond_d rfl (fun hc10 => ?_) (fun hc10 => ?_))
  · -- c10.t
    refine w_seq (w_region (za rfl (wl_nil (st_tn (w_ret (st_tr (st_ret (vs := [_]) [] Try.results49 ⟨rfl, trivial⟩ rfl ?_)))))))
    refine ⟨_, rfl, ?_⟩
    refine ⟨?_, rfl⟩; have : l ≠ m := fun e => by subst e; exact hc10 rfl
    simp [retv, this]
  · -- c10.f
    refine w_skip (st_tn (w_seq (w_seq (w_region (za rfl (wl_nil (st_tn (w_block ?_))))))))
    refine w_loopQ (X := Nat) (fun z => z ≤ l.length ∧ l.take z = m.take z) (fun z => [(5, .int .i64 (z))]) (fun _ => []) (fun z => l.length - z) (0) [(0, _), (1, _)] [] [] rfl (rfl) (.cons rfl (.nil _)) (.cons rfl (.cons rfl (.nil _))) (by
        try dsimp only
        exact ⟨Nat.zero_le _, by simp⟩) ?_
    rintro i ⟨hi, hn⟩
    refine w_norm2 (by dsimp only [List.cons_append, List.nil_append]) (by dsimp only [List.cons_append, List.nil_append]) ?_
    try dsimp only at hi hn ⊢
    refine w_seq (w_seq (w_region (zm rfl (zm rfl (zd rfl (op_lenT rfl tS30ul (Sl.ent (h.app _))) (zd rfl (op_lss rfl rfl) (wl_nil (st_tn (w_cond_d rfl (fun hc14 => ?_) (fun hc14 => ?_))))))))))
    · -- c14.t
      obtain ⟨y, hy⟩ := getE (l := l) (i := i) (by omega)
      obtain ⟨z, hz⟩ := getE (l := m) (i := i) (by omega)
      refine w_skip (st_tn (w_seq (w_block (w_seq ?_))))
      refine w_drawW (fun β => [⟨17, [], [], [], noW (_), false, [], []⟩, ⟨18, [], [], [], noW (_), false, [], []⟩, ⟨19, [0, 1], [], [], noW (_), false, [], []⟩, ⟨20, [2], [], [], noW (_), false, [], []⟩, ⟨21, [], [], [], noW (_), false, [], []⟩, ⟨22, [], [], [], noW (_), false, [], []⟩, ⟨23, [4, 5], [], [], noW (_), false, [], []⟩, ⟨24, [6], [], [], noW (_), false, [], []⟩]) [] [0, 5, 1] [⟨17, [], [], false, [], []⟩, ⟨18, [], [], false, [], []⟩, ⟨19, [0, 1], [], false, [], []⟩, ⟨20, [2], [], false, [], []⟩, ⟨21, [], [], false, [], []⟩, ⟨22, [], [], false, [], []⟩, ⟨23, [4, 5], [], false, [], []⟩, ⟨24, [6], [], false, [], []⟩] [[], [], [], [], [], [], [], []] [[], [], [], [], [], [], [], []] tMixul (fun _ => by rfl) (fun _ => by rfl) (by kernel_rfl) (by kernel_rfl) (by rfl) (by rfl)
          (fun β => ⟨.p rfl (by intro X; exact op_move rfl),
          ⟨.p rfl (by intro X; exact op_move rfl),
          ⟨.p rfl (by intro X; rintro _ _ ⟨rfl, rfl⟩ _ _ ⟨rfl, rfl⟩; exact op_idx rfl rfl tS30ul (Sl.ent (Sl.app (Sl.app h X) _)) (by omega)),
          ⟨.p rfl (by intro X; rintro _ _ ⟨rfl, rfl⟩; exact op_ldx rfl tO3ul (Sl.app (Sl.app h X) _) hy (by rfl)),
          ⟨.p rfl (by intro X; exact op_move rfl),
          ⟨.p rfl (by intro X; exact op_move rfl),
          ⟨.p rfl (by intro X; rintro _ _ ⟨rfl, rfl⟩ _ _ ⟨rfl, rfl⟩; exact op_idx rfl rfl tS30ul (Sl.ent (Sl.app (Sl.app g X) _)) (by omega)),
          ⟨.p rfl (by intro X; rintro _ _ ⟨rfl, rfl⟩; exact op_ldx rfl tO3ul (Sl.app (Sl.app g X) _) hz (by rfl)),
          trivial⟩⟩⟩⟩⟩⟩⟩⟩)
          (fun β β' => ⟨fun _ => by rfl, ⟨fun _ => by rfl, ⟨fun _ => by rfl, ⟨fun _ => by rfl, ⟨fun _ => by rfl, ⟨fun _ => by rfl, ⟨fun _ => by rfl, ⟨fun _ => by rfl, trivial⟩⟩⟩⟩⟩⟩⟩⟩) ?_
      intro β
      rintro _ _ ⟨rfl, rfl⟩ _ _ ⟨rfl, rfl⟩ _ _ ⟨rfl, rfl⟩ _ _ ⟨rfl, rfl⟩ _ _ ⟨rfl, rfl⟩ _ _ ⟨rfl, rfl⟩ _ _ ⟨rfl, rfl⟩ _ _ ⟨rfl, rfl⟩
      refine wl_norm (e' := [(0, _), (1, _), (5, _), (20, _), (24, _)]) (.cons rfl (.cons rfl (.cons rfl (.cons rfl (.cons rfl (.nil _)))))) (by dsimp only [cond_false, cond_true, List.nil_append, List.cons_append]) ?_
      refine zd rfl (op_neq rfl rfl) (wl_nil (st_tn (w_cond_d rfl (fun hc25 => ?_) (fun hc25 => ?_))))
      · -- c25.t
        refine w_seq (w_region (za rfl (wl_nil (st_tn (w_ret (st_br (st_tr (st_tr (st_br (st_tr (st_ret (vs := [_]) [] Try.results49 ⟨rfl, trivial⟩ rfl ?_)))))))))))
        refine ⟨_, rfl, ?_⟩
        refine ⟨?_, rfl⟩; have : l ≠ m := fun e => by subst e; rw [hy] at hz; simp at hz; exact hc25 hz
        simp [retv, this]
      · -- c25.f
        refine w_skip (st_bn (st_tn (w_region (zm rfl (zd rfl (op_add' rfl rfl (by omega)) ?_)))))
        refine za rfl (wl_nil ?_)
        refine st_roundQ (x := i) (i + 1) [] rfl (rfl) (.cons rfl (.nil _)) (.cons rfl (.cons rfl (.nil _))) (by
            try dsimp only
            exact ⟨by omega, by rw [take_snocS hy, take_snocS hz, hn, show y = z by omega]⟩) (by
            try dsimp only
            omega)
    · -- c14.f
      refine w_exit (st_te ?_)
      refine st_te ?_
      refine st_be (st_tn (w_seq (w_region (za rfl (wl_nil (st_tn (w_ret (st_ret (vs := [_]) [] Try.results49 ⟨rfl, trivial⟩ rfl ?_))))))))
      refine ⟨_, rfl, ?_⟩
      refine ⟨?_, rfl⟩; rw [take_allS (by omega), take_allS (by omega)] at hn; simp [retv, hn]
def kPts : List Int := [1, 1, 5, 5, 5]
theorem kPtsB : PtsB kPts := ⟨by decide, by decide⟩
theorem kBst : bstN (segC kPts) 2 false 5 = (2, [2]) := by rw [seg_eq]; decide +kernel
theorem kPot : potL kPts 2 = [-2, 0, 0, 2, 2, 2] := by unfold potL; rw [seg_eq]; decide +kernel
theorem kTot : totZ kPts 2 [2] = 2 := by unfold totZ; rw [seg_eq]; decide +kernel
set_option maxHeartbeats 2000000 in
set_option maxRecDepth 100000 in
theorem known44 {σ : World} {F : List Res} : FnT Try.prog σ F 32 [] [] (fun u ρ => u = .bool true ∧ ρ = []) := by
  refine fn_of 46 Try.func32 rfl Try.ntmps32 rfl ?_
  refine w_seq (w_region (za rfl (wl_nil (st_tn (w_seq (w_region (wl_op [] rfl rfl rfl rfl (op_buildSlice (enc := SL.encZ) (l := kPts) (lab := 6) tL30_5ul rfl rfl (fun _ => rfl) rfl) ?_)))))))
  rintro _ _ ⟨a6, c6, rfl, rfl⟩
  refine za rfl (wl_nil (st_tn (w_seq (w_region (zm rfl (wl_op [] rfl rfl rfl rfl (op_fn Try.func17 rfl rfl rfl (fn_imp (bestS (pts := kPts) 2 9 (Sl.lab 6 rfl (by simp [maxLen, kPts])) kPtsB (by decide) (by decide)) (fun u ρ hu => (by rw [show kPts.length = 5 from rfl, kBst] at hu; exact hu : ∃ (a' : Option Addr) (c' : Nat), u = .tuple #[.agg #[.slice a' ([2] : List Int).length c', .int .i64 2], .int .i64 0] ∧ ρ = [(9, slW 3 SL.encZ 1 (.slice a' ([2] : List Int).length c') [2])])))) ?_))))))
  rintro _ _ ⟨a9, c9, rfl, rfl⟩
  refine zm rfl (zd rfl (op_extract rfl rfl) (zd rfl (op_extract rfl rfl) (wl_op [] rfl rfl rfl rfl (op_alloc (l := 2) tN60ul) ?_)))
  rintro _ _ ⟨b2, rfl, rfl⟩
  refine wl_op0 [2] rfl rfl rfl (op_store rfl rfl tZ60ul (by rfl) (by rfl) (by exact Nat.le_of_ble_eq_true rfl)) ?_
  rintro _ _ ⟨rfl, rfl⟩
  refine za rfl (wl_nil (st_tn (w_seq (w_wk 2 (cel b2 [.slice a9 ([2] : List Int).length c9, .int .i64 2] 60) rfl (fun _ h => h) ?_))))
  refine w_region (zm rfl (wl_op [] rfl rfl rfl rfl (op_fn Try.func19 rfl rfl rfl (potS (pts := kPts) 2 14 (Sl.lab 6 rfl (by simp [maxLen, kPts])) kPtsB (by decide) (by decide))) ?_))
  rintro _ _ ⟨a14, c14, rfl, rfl⟩
  refine zm rfl (zd rfl (op_extract rfl rfl) (zd rfl (op_extract rfl rfl) (za rfl (za rfl (wl_nil (st_tn (w_seq (w_region (zm rfl (zd rfl (op_val (v' := .bool true) (by rfl) (op_eql rfl rfl)) ?_))))))))))
  refine zm rfl (wl_wanted_det rfl rfl rfl rfl rfl rfl rfl (op_fieldAddr (off := 0) rfl tF60_0ul) (wl_wanted_det rfl rfl rfl rfl rfl rfl rfl (op_load1 rfl tO30ul (Ent.lab (l := 2) rfl (says_cel 0))) (wl_wanted [] rfl rfl rfl rfl rfl rfl rfl rfl (op_buildSlice (enc := SL.encZ) (l := [(2 : Int)]) (lab := 22) tL30_1ul rfl rfl (fun _ => rfl) rfl) ?_)))
  rintro _ _ ⟨a22, c22, rfl, rfl⟩
  refine wl_wanted_det rfl rfl rfl rfl rfl rfl rfl (op_fn Try.func49 rfl rfl rfl (fn_imp (sameS (l := [2]) (m := [2]) (Sl.lab 9 rfl (by simp [maxLen])) (Sl.lab 22 rfl (by simp [maxLen]))) (fun u ρ hu => (by simpa using hu : u = .bool true ∧ ρ = [])))) ?_
  refine zd rfl (op_pick_t rfl rfl) (zm rfl (wl_wanted_det rfl rfl rfl rfl rfl rfl rfl (op_fieldAddr (off := 1) rfl tF60_1ul) (wl_wanted_det rfl rfl rfl rfl rfl rfl rfl (op_load1 rfl tO3ul (Ent.lab (l := 2) rfl (says_cel 1))) (wl_wanted_det rfl rfl rfl rfl rfl rfl rfl (op_val (v' := .bool true) (by rfl) (op_eql rfl rfl)) ?_))))
  refine zd rfl (op_pick_t rfl rfl) (zm rfl (wl_wanted_det rfl rfl rfl rfl rfl rfl rfl (op_move rfl) (wl_wanted_det rfl rfl rfl rfl rfl rfl rfl (op_val (v' := .bool true) (by rfl) (op_eql rfl rfl)) ?_)))
  refine zd rfl (op_pick_t rfl rfl) (zm rfl (wl_wanted_det rfl rfl rfl rfl rfl rfl rfl (op_move rfl) (wl_wanted [] rfl rfl rfl rfl rfl rfl rfl rfl (op_buildSlice (enc := SL.encZ) (l := [(-2 : Int), 0, 0, 2, 2, 2]) (lab := 36) tL30_6ul rfl rfl (fun _ => rfl) rfl) ?_)))
  rintro _ _ ⟨a36, c36, rfl, rfl⟩
  refine wl_wanted_det rfl rfl rfl rfl rfl rfl rfl (op_fn Try.func49 rfl rfl rfl (fn_imp (sameS (l := potL kPts 2) (m := [-2, 0, 0, 2, 2, 2]) (Sl.lab 14 rfl (by rw [kPot]; simp [maxLen])) (Sl.lab 36 rfl (by simp [maxLen]))) (fun u ρ hu => (by rw [kPot] at hu; simpa using hu : u = .bool true ∧ ρ = [])))) ?_
  refine zd rfl (op_pick_t rfl rfl) (zm rfl (wl_wanted_det rfl rfl rfl rfl rfl rfl rfl (op_move rfl) (wl_wanted_det rfl rfl rfl rfl rfl rfl rfl (op_move rfl) (wl_wanted_det rfl rfl rfl rfl rfl rfl rfl (op_loadA rfl tA60ul (Ent.lab (l := 2) rfl (says_cel 0)) (Nat.le_of_ble_eq_true rfl)) (wl_wanted_det rfl rfl rfl rfl rfl rfl rfl (op_fn Try.func22 rfl rfl rfl (fn_imp (show FnT Try.prog _ _ 22 [.slice _ kPts.length _, .int .i64 2, .slice a14 (potL kPts 2).length c14, .agg #[.slice a9 ([2] : List Int).length c9, .int .i64 2]] [] _ from kTot ▸ verifyS (pts := kPts) (cuts := [2]) 2 (Sl.lab 6 rfl (by simp [maxLen, kPts])) (Sl.lab 14 rfl (by rw [kPot]; simp [maxLen])) (Sl.lab 9 rfl (by simp [maxLen])) kPtsB (by decide) (by decide) (by decide)) (fun u ρ hu => (by rw [show kPts.length = 5 from rfl, kBst] at hu; exact hu : u = .int .i64 0 ∧ ρ = [])))) ?_)))))
  refine wl_wanted_det rfl rfl rfl rfl rfl rfl rfl (op_val (v' := .bool true) (by rfl) (op_eql rfl rfl)) ?_
  refine zd rfl (op_pick_t rfl rfl) (za rfl (wl_nil (st_tn (w_ret (st_ret (vs := [_]) [] Try.results32 ⟨rfl, trivial⟩ rfl ?_)))))
  refine ⟨_, rfl, ?_⟩
  exact ⟨rfl, rfl⟩
set_option maxHeartbeats 400000 in
set_option maxRecDepth 100000 in
theorem Known44 {σ : World} {F : List Res} : FnT Try.prog σ F 14 [] [] (fun u ρ => u = .bool true ∧ ρ = []) := by
  refine fn_of 2 Try.func14 rfl Try.ntmps14 rfl ?_
  refine w_seq (w_region (za rfl (wl_nil (st_tn (w_seq (w_region (zd rfl (op_fn Try.func32 rfl rfl rfl known44) (za rfl (wl_nil (st_tn (w_ret (st_ret (vs := [_]) [] Try.results14 ⟨rfl, trivial⟩ rfl ?_))))))))))))
  refine ⟨_, rfl, ?_⟩
  exact ⟨rfl, rfl⟩
end Go.Proofs.Ytecmigildpkigaa
namespace Go.Proofs.Ytecmigildpkigaa
open Go Go.SL Go.RowKit Go.SegP
set_option linter.unusedVariables false
set_option linter.unusedSimpArgs false
theorem tA60um : aggB Try.prog 60 2 = true := by kernel_rfl
theorem tB60um : placesB Try.prog 60 = some ([(0, 1), (1, 1)], [Value.slice none 0 0, Value.int .i64 0]) := by kernel_rfl
theorem tF60_0um : fieldB Try.prog 60 0 0 = true := by kernel_rfl
theorem tF60_1um : fieldB Try.prog 60 1 1 = true := by kernel_rfl
theorem tL30_1um : zerosB Try.prog 30 3 1 1 = some [Value.int .i64 0] := by kernel_rfl
theorem tMixum : Try.prog.follows .mixedOrders = true := by kernel_rfl
theorem tN60um : (Try.prog.info? 60).bind (·.zero) = some (Value.agg #[Value.slice none 0 0, Value.int .i64 0]) := by kernel_rfl
theorem tO3um : oneB Try.prog 3 = true := by kernel_rfl
theorem tO30um : oneB Try.prog 30 = true := by kernel_rfl
theorem tP30um : appB Try.prog 30 3 1 8 = true := by kernel_rfl
theorem tS30um : sliceB Try.prog 30 3 1 = true := by kernel_rfl
theorem tS55um : sliceB Try.prog 55 5 1 = true := by kernel_rfl
theorem tS67um : sliceB Try.prog 67 60 2 = true := by kernel_rfl
theorem tZ60um : (Try.prog.info? 60).map (·.size) = some 2 := by kernel_rfl
section
variable {P : Program} {σ : World} {n : Nat} {F : List Res} {e : Env} {dst : Option Tmp} {ty : TypeId} {pos : String} {after : Array Edge} {guard : Option (Nat × Bool)}
theorem op_andZ {t t2 : TypeId} {x y : Operand} {k : IntKind} {a b : Int} (hx : ev e x = some (.int k a)) (hy : ev e y = some (.int k b)) : OpT P σ n F ⟨dst, .binOp .and t x y t2, ty, pos, after, guard⟩ e [] (fun v ρ => ∃ z : Int, v = .int k z ∧ ρ = []) := by
  have h : OpT P σ n F ⟨dst, .binOp .and t x y t2, ty, pos, after, guard⟩ e [] (Det (.int k (k.wrap ((BitVec.ofInt k.bits a &&& BitVec.ofInt k.bits b).toNat : Int)))) := op_int hx hy fun w => by simp [binOp, Op.intBits]
  exact fun Q K A w hr ho kk => h Q K A w hr ho fun v ρ w' hS => kk v ρ w' (by obtain ⟨rfl, rfl⟩ := hS; exact ⟨_, rfl, rfl⟩)
end
theorem cuts_mono : ∀ {n s : Nat} {l : List Int}, Cuts n s l → Cuts (n + 1) s l
  | n, s, [], h => by have : s < n := h; show s < n + 1; omega
  | n, s, c :: cs, h => ⟨h.1, cuts_mono h.2⟩
theorem mul_bd2 {m : Int} {k : Nat} (hm : 0 ≤ m ∧ m ≤ 1000) (hk : k ≤ 200) : 0 ≤ (k : Int) * m ∧ (k : Int) * m ≤ 200000 := by
  have h1 := mul_bd (m := m) (k := k) (by omega) hk
  rw [Int.mul_comm]
  exact ⟨Int.mul_nonneg hm.1 (by omega), h1.2⟩
set_option maxHeartbeats 400000 in
set_option maxRecDepth 100000 in
theorem Known43 {σ : World} {F : List Res} : FnT Try.prog σ F 15 [] [] (fun u ρ => u = .bool true ∧ ρ = []) := by
  refine fn_of 2 Try.func15 rfl Try.ntmps15 rfl ?_
  refine w_seq (w_region (za rfl (wl_nil (st_tn (w_seq (w_region (zd rfl (op_fn Try.func33 rfl rfl rfl Ser.known_any) (za rfl (wl_nil (st_tn (w_ret (st_ret (vs := [_]) [] Try.results15 ⟨rfl, trivial⟩ rfl ?_))))))))))))
  refine ⟨_, rfl, ?_⟩
  exact ⟨rfl, rfl⟩
set_option maxHeartbeats 6000000 in
set_option maxRecDepth 100000 in
theorem lawSeg_any {σ : World} {F : List Res} {a : Option Addr} {c : Nat} {l : List Int} (pen which : Int) (g : Sl σ F Ser.encY 1 (.slice a l.length c) l) (hl8 : ∀ x ∈ l, 0 ≤ x ∧ x ≤ 255) (hp8 : 0 ≤ pen ∧ pen ≤ 255) (hw : 0 ≤ which ∧ which ≤ 65535) :
    FnT Try.prog σ F 4 [.slice a l.length c, .int .u8 pen, .int .u16 which] [] (fun u ρ => u = .bool true ∧ ρ = []) := by
  refine fn_of 254 Try.func4 rfl Try.ntmps4 rfl ?_
  have hle := g.i64
  refine w_seq (w_region (za rfl (wl_nil (st_tn (w_seq (w_seq (w_cutL [(42, .bool (decide (l.length = 0 ∨ l.length > 16)))] [0, 1, 2] [] rfl (fun K' hK => ?_) ?_)))))))
  · -- cut r1
    refine w_region (zd rfl (op_fn Try.func14 rfl rfl rfl Known44) (zd rfl (op_not_t rfl) (zm rfl (wl_wanted_det rfl rfl rfl rfl rfl rfl rfl (op_fn Try.func15 rfl rfl rfl Known43) (wl_wanted_det rfl rfl rfl rfl rfl rfl rfl (op_not_t rfl) (zd rfl (op_pick_f rfl rfl) (zm rfl (wl_wanted_det rfl rfl rfl rfl rfl rfl rfl (op_move rfl) (wl_wanted_det rfl rfl rfl rfl rfl rfl rfl (op_lenT rfl tS55um (Sl.ent (g.app _))) (wl_wanted_det rfl rfl rfl rfl rfl rfl rfl (op_eql rfl rfl) (zd rfl (op_pick_f rfl rfl) (zm rfl (wl_gsplit (t := 38) rfl (fun hg38 => ?_) (fun hg38 => ?_))))))))))))))
    · -- 38 is True
      refine wl_unwanted rfl rfl rfl rfl rfl rfl rfl rfl (wl_unwanted rfl rfl rfl rfl rfl rfl rfl rfl (wl_unwanted rfl rfl rfl rfl rfl rfl rfl rfl (zd rfl (op_pick_t rfl rfl) (wl_nil (st_tn ?_)))))
      exact cut_done1 [] hK rfl (by first | (rw [decide_eq_decide]; omega) | (symm; rw [decide_eq_false_iff_not]; omega) | (symm; rw [decide_eq_true_iff]; omega) | (simp; done) | (simp; omega) | (simp [*]; done) | (simp [*]; omega)) (by rfl) rfl rfl
    · -- 38 is False
      refine wl_wanted_det rfl rfl rfl rfl rfl rfl rfl (op_move rfl) (wl_wanted_det rfl rfl rfl rfl rfl rfl rfl (op_lenT rfl tS55um (Sl.ent (g.app _))) (wl_wanted_det rfl rfl rfl rfl rfl rfl rfl (op_gtr rfl rfl) (zd rfl (op_pick_f rfl rfl) (wl_nil (st_tn ?_)))))
      exact cut_done1 [] hK rfl (by first | (rw [decide_eq_decide]; omega) | (symm; rw [decide_eq_false_iff_not]; omega) | (symm; rw [decide_eq_true_iff]; omega) | (simp; done) | (simp; omega) | (simp [*]; done) | (simp [*]; omega)) (by rfl) rfl rfl
  · -- behind r1
    show W _ _ _ _ _ [(42, _), (0, _), (1, _), (2, _)] [] _
    refine w_cond_d rfl (fun hc42 => ?_) (fun hc42 => ?_)
    · -- c42.t
      refine w_seq (w_region (zd rfl (op_fn Try.func14 rfl rfl rfl Known44) (zm rfl (wl_wanted_det rfl rfl rfl rfl rfl rfl rfl (op_fn Try.func15 rfl rfl rfl Known43) (zd rfl (op_pick_t rfl rfl) (za rfl (wl_nil (st_tn (w_ret (st_tr (st_ret (vs := [_]) [] Try.results4 ⟨rfl, trivial⟩ rfl ?_)))))))))))
      refine ⟨_, rfl, ?_⟩
      exact ⟨rfl, rfl⟩
    · -- c42.f
      have h1 : 1 ≤ l.length := by omega
      have h16 : l.length ≤ 16 := by omega
      have hb : PtsB l := ⟨by omega, fun x hx => by have := hl8 x hx; omega⟩
      have hp : 0 ≤ pen ∧ pen ≤ 1000 := by omega
      refine Exists.elim (⟨_, rfl⟩ : ∃ b, b = bstN (segC l) pen false l.length) (fun bt hbt => ?_)
      have hCb := segC_pos l hb
      have hbc := bst_cuts (segC l) pen false l.length h1
      rw [← hbt] at hbc
      have hbd := bst_bd hp hCb false l.length
      rw [← hbt] at hbd
      have hsame : bstN (segC l) pen true l.length = bt := (bst_same (C := segC l) hp.1 (fun s t u h1 h2 => segC_add l h1 h2) l.length).trans hbt.symm
      have htb : totZ l pen bt.2 = bt.1 := hbc.2.symm
      have hbcl := cuts_len hbc.1
      have hpl := pot_len l pen
      refine w_skip (st_tn (w_seq (w_region (zm rfl (wl_op [] rfl rfl rfl rfl (op_fn Try.func16 rfl rfl rfl (fn_imp (Ser.points_any 48 (g.app _) hl8) (fun u ρ hu => (by rw [List.take_of_length_le (by omega)] at hu; exact hu : ∃ a c, u = .slice a l.length c ∧ ρ = [(48, slW 3 SL.encZ 1 (.slice a l.length c) l)])))) ?_)))))
      rintro _ _ ⟨a48, c48, rfl, rfl⟩
      refine za rfl (wl_nil (st_tn (w_seq (w_region (za rfl (wl_nil (st_tn (w_seq (w_seq (w_region (za rfl (wl_nil (st_tn ?_)))))))))))))
      refine w_block (w_emp 8 (slO_nil 3 1) ?_)
      refine w_loopQ (X := List Int × Option Addr × Nat × Nat) (fun z => (1 ≤ z.2.2.2 ∧ z.2.2.2 ≤ l.length) ∧ Cuts z.2.2.2 0 z.1) (fun z => [(8, .slice (z.2.1) (z.1).length (z.2.2.1)), (9, .int .i64 (z.2.2.2))]) (fun z => [(8, slW 3 SL.encZ 1 (.slice (z.2.1) (z.1).length (z.2.2.1)) (z.1))]) (fun z => l.length - z.2.2.2) (([], none, 0, 1)) [(1, _), (2, _), (7, _)] [(48, _)] [8, 48] rfl (rfl) (.cons rfl (.cons rfl (.nil _))) (.cons rfl (.cons rfl (.cons rfl (.nil _)))) (by
          try dsimp only
          exact ⟨⟨Nat.le_refl _, h1⟩, Nat.zero_lt_one⟩) ?_
      rintro ⟨cuts, a_cuts, c_cuts, i⟩ ⟨hi, hc⟩
      refine w_norm2 (by dsimp only [List.cons_append, List.nil_append]) (by dsimp only [List.cons_append, List.nil_append]) ?_
      try dsimp only at hi hc ⊢
      refine w_seq (w_seq (w_region (zm rfl (zm rfl (zd rfl (op_lenT rfl tS30um (Sl.ent (Sl.lab 48 rfl (by unfold maxLen; omega)))) ?_)))))
      refine zd rfl (op_lss rfl rfl) (wl_nil (st_tn (w_cond_d rfl (fun hc52 => ?_) (fun hc52 => ?_))))
      · -- c52.t
        have hcl := cuts_len hc
        refine w_skip (st_tn (w_seq (w_block (w_seq (w_region (zm rfl (zm rfl (zd rfl (op_convU64 rfl (by rw [Try.underlying3]; rfl) Try.underlying58 (by omega)) ?_))))))))
        refine zd rfl (op_shr rfl rfl (by omega)) ?_
        refine wl_op [] rfl rfl rfl rfl (op_andZ rfl rfl) ?_
        rintro _ _ ⟨z59, rfl, rfl⟩
        refine zd rfl (op_eql rfl rfl) (wl_nil (st_tn (w_cond_d rfl (fun hc60 => ?_) (fun hc60 => ?_))))
        · -- c60.t
          refine w_region (zm rfl (zm rfl (wl_op [] rfl rfl rfl rfl (op_buildSlice (enc := SL.encZ) (l := [((i : Nat) : Int)]) (lab := 63) tL30_1um rfl rfl (fun _ => rfl) rfl) ?_)))
          rintro _ _ ⟨a63, c63, rfl, rfl⟩
          refine wl_op [8] rfl rfl rfl rfl (op_append (lab := 8) (lab' := 64) rfl rfl tP30um SL.enc1Z (Sl.lab 63 rfl (by simp [maxLen])) (by first | omega | (simp; done) | (simp; omega) | (simp [*]; omega)) (by first | omega | (simp; done) | (simp; omega) | (simp [*]; omega))) ?_
          rintro _ _ ⟨a64, c64, rfl, rfl⟩
          refine za rfl (wl_nil (st_bn (st_tn (w_region (zm rfl (zd rfl (op_add' rfl rfl (by omega)) ?_))))))
          refine za rfl (wl_nil ?_)
          refine st_roundQ (x := (cuts, a_cuts, c_cuts, i)) ((_, _, _, i + 1)) [64, 48] rfl (rfl) (.cons rfl (.cons rfl (.nil _))) (.cons rfl (.cons rfl (.cons rfl (.nil _)))) (by
              try dsimp only
              exact ⟨⟨by omega, by omega⟩, cuts_snoc hc (by omega)⟩) (by
              try dsimp only
              omega)
        · -- c60.f
          refine w_skip (st_bn (st_tn (w_region (zm rfl (zd rfl (op_add' rfl rfl (by omega)) ?_)))))
          refine za rfl (wl_nil ?_)
          refine st_roundQ (x := (cuts, a_cuts, c_cuts, i)) ((_, _, _, i + 1)) [8, 48] rfl (rfl) (.cons rfl (.cons rfl (.nil _))) (.cons rfl (.cons rfl (.cons rfl (.nil _)))) (by
              try dsimp only
              exact ⟨⟨by omega, by omega⟩, cuts_mono hc⟩) (by
              try dsimp only
              omega)
      · -- c52.f
        refine w_exit (st_te ?_)
        refine st_te ?_
        refine st_be (st_tn (w_seq ?_))
        have hin : i = l.length := by omega
        subst hin
        have hcl := cuts_len hc
        have htm := bst_best (segC l) pen hc
        rw [← hbt] at htm
        refine Exists.elim (⟨_, rfl⟩ : ∃ z, z = totZ l pen cuts) (fun tz htz => ?_)
        have htm2 : bt.1 ≤ tz := by rw [htz]; exact htm
        refine w_region (zm rfl (zm rfl (zd rfl (op_convI64 rfl (by rw [Try.underlying5]; rfl) Try.underlying3 (by omega)) ?_)))
        refine wl_op [] rfl rfl rfl rfl (op_fn Try.func17 rfl rfl rfl (fn_imp (bestS pen 69 (Sl.lab 48 rfl (by unfold maxLen; omega)) hb h1 hp) (fun u ρ hu => (by rw [← hbt] at hu; exact hu : ∃ (a' : Option Addr) (c' : Nat), u = .tuple #[.agg #[.slice a' bt.2.length c', .int .i64 bt.1], .int .i64 0] ∧ ρ = [(69, slW 3 SL.encZ 1 (.slice a' bt.2.length c') bt.2)])))) ?_
        rintro _ _ ⟨a69, c69, rfl, rfl⟩
        refine zm rfl (zd rfl (op_extract rfl rfl) (zd rfl (op_extract rfl rfl) (wl_op [] rfl rfl rfl rfl (op_alloc (l := 10) tN60um) ?_)))
        rintro _ _ ⟨b10, rfl, rfl⟩
        refine wl_op0 [10] rfl rfl rfl (op_store rfl rfl tZ60um (by rfl) (by rfl) (by exact Nat.le_of_ble_eq_true rfl)) ?_
        rintro _ _ ⟨rfl, rfl⟩
        refine za rfl (wl_nil (st_tn (w_seq (w_wk 10 (cel b10 [.slice a69 bt.2.length c69, .int .i64 bt.1] 60) rfl (fun _ h => h) ?_))))
        refine w_region (zm rfl (zm rfl (zd rfl (op_convI64 rfl (by rw [Try.underlying5]; rfl) Try.underlying3 (by omega)) ?_)))
        refine wl_op [] rfl rfl rfl rfl (op_fn Try.func18 rfl rfl rfl (fn_imp (prunedS pen 76 (Sl.lab 48 rfl (by unfold maxLen; omega)) hb h1 hp) (fun u ρ hu => (by rw [hsame] at hu; exact hu : ∃ (a' : Option Addr) (c' : Nat) (z : Int), u = .tuple #[.agg #[.slice a' bt.2.length c', .int .i64 bt.1], .int .i64 z, .int .i64 0] ∧ ρ = [(76, slW 3 SL.encZ 1 (.slice a' bt.2.length c') bt.2)])))) ?_
        rintro _ _ ⟨a76, c76, z76, rfl, rfl⟩
        refine zm rfl (zd rfl (op_extract rfl rfl) (zd rfl (op_extract rfl rfl) (zd rfl (op_extract rfl rfl) (wl_op [] rfl rfl rfl rfl (op_alloc (l := 12) tN60um) ?_))))
        rintro _ _ ⟨b12, rfl, rfl⟩
        refine wl_op0 [12] rfl rfl rfl (op_store rfl rfl tZ60um (by rfl) (by rfl) (by exact Nat.le_of_ble_eq_true rfl)) ?_
        rintro _ _ ⟨rfl, rfl⟩
        refine za rfl (za rfl (wl_nil (st_tn (w_seq (w_wk 12 (cel b12 [.slice a76 bt.2.length c76, .int .i64 bt.1] 60) rfl (fun _ h => h) ?_)))))
        refine w_region (zm rfl (zm rfl (zd rfl (op_convI64 rfl (by rw [Try.underlying5]; rfl) Try.underlying3 (by omega)) ?_)))
        refine wl_op [] rfl rfl rfl rfl (op_fn Try.func19 rfl rfl rfl (potS pen 84 (Sl.lab 48 rfl (by unfold maxLen; omega)) hb h1 hp)) ?_
        rintro _ _ ⟨a84, c84, rfl, rfl⟩
        refine zm rfl (zd rfl (op_extract rfl rfl) (zd rfl (op_extract rfl rfl) (za rfl (za rfl (wl_nil (st_tn (w_seq (w_region (zm rfl (zm rfl (zd rfl (op_convI64 rfl (by rw [Try.underlying5]; rfl) Try.underlying3 (by omega)) ?_)))))))))))
        refine zm rfl (zd rfl (op_fn Try.func20 rfl rfl rfl (fn_imp (totalS pen (Sl.lab 48 rfl (by unfold maxLen; omega)) (Sl.lab 8 rfl (by unfold maxLen; omega)) hb h1 hp hc) (fun u ρ hu => (by rw [show pen * (cuts.length : Int) + sgs (segC l) l.length 0 cuts = tz from htz.symm] at hu; exact hu : u = .tuple #[.int .i64 tz, .int .i64 0] ∧ ρ = [])))) ?_)
        refine zm rfl (zd rfl (op_extract rfl rfl) (zd rfl (op_extract rfl rfl) (za rfl (za rfl (wl_nil (st_tn (w_seq (w_region (zm rfl (zm rfl (zd rfl (op_convI64 rfl (by rw [Try.underlying5]; rfl) Try.underlying3 (by omega)) ?_)))))))))))
        refine zd rfl (op_fieldAddr (off := 0) rfl tF60_0um) (zd rfl (op_load1 rfl tO30um (Ent.lab (l := 10) rfl (says_cel 0))) (zd rfl (op_fn Try.func20 rfl rfl rfl (fn_imp (totalS pen (Sl.lab 48 rfl (by unfold maxLen; omega)) (Sl.lab 69 rfl (by unfold maxLen; omega)) hb h1 hp hbc.1) (fun u ρ hu => (by rw [show pen * (bt.2.length : Int) + sgs (segC l) l.length 0 bt.2 = bt.1 from htb] at hu; exact hu : u = .tuple #[.int .i64 bt.1, .int .i64 0] ∧ ρ = [])))) ?_))
        refine zm rfl (zd rfl (op_extract rfl rfl) (zd rfl (op_extract rfl rfl) (za rfl (za rfl (wl_nil (st_tn (w_seq (w_region (zm rfl (zm rfl (zd rfl (op_lenT rfl tS30um (Sl.ent (Sl.lab 48 rfl (by unfold maxLen; omega)))) ?_)))))))))))
        refine wl_op [] rfl rfl rfl rfl (op_fn Try.func21 rfl rfl rfl (countsS 108 (Sl.lab 48 rfl (by unfold maxLen; omega)) hb h1)) ?_
        rintro _ _ ⟨L, a108, c108, hL, rfl, rfl⟩
        refine zm rfl (zd rfl (op_extract rfl rfl) (zd rfl (op_extract rfl rfl) (za rfl (za rfl (wl_nil (st_tn (w_seq (w_seq ?_))))))))
        have hLl := hL.1
        refine w_region (zm rfl (zd rfl (op_val (v' := .bool false) (by rfl) (op_neq rfl rfl)) ?_))
        refine zm rfl (wl_wanted_det rfl rfl rfl rfl rfl rfl rfl (op_move rfl) (wl_wanted_det rfl rfl rfl rfl rfl rfl rfl (op_val (v' := .bool false) (by rfl) (op_neq rfl rfl)) ?_))
        refine zd rfl (op_pick_f rfl rfl) (zm rfl (wl_wanted_det rfl rfl rfl rfl rfl rfl rfl (op_move rfl) (wl_wanted_det rfl rfl rfl rfl rfl rfl rfl (op_val (v' := .bool false) (by rfl) (op_neq rfl rfl)) ?_)))
        refine zd rfl (op_pick_f rfl rfl) (zm rfl (wl_wanted_det rfl rfl rfl rfl rfl rfl rfl (op_move rfl) (wl_wanted_det rfl rfl rfl rfl rfl rfl rfl (op_val (v' := .bool false) (by rfl) (op_neq rfl rfl)) ?_)))
        refine zd rfl (op_pick_f rfl rfl) (zm rfl (wl_wanted_det rfl rfl rfl rfl rfl rfl rfl (op_move rfl) (wl_wanted_det rfl rfl rfl rfl rfl rfl rfl (op_val (v' := .bool false) (by rfl) (op_neq rfl rfl)) ?_)))
        refine zd rfl (op_pick_f rfl rfl) (zm rfl (wl_wanted_det rfl rfl rfl rfl rfl rfl rfl (op_move rfl) (wl_wanted_det rfl rfl rfl rfl rfl rfl rfl (op_val (v' := .bool false) (by rfl) (op_neq rfl rfl)) ?_)))
        refine zd rfl (op_pick_f rfl rfl) (zm rfl (wl_wanted_det rfl rfl rfl rfl rfl rfl rfl (op_move rfl) (wl_wanted_det rfl rfl rfl rfl rfl rfl rfl (op_lenT rfl tS30um (Sl.ent (Sl.lab 84 rfl (by unfold maxLen; omega)))) ?_)))
        refine wl_wanted_det rfl rfl rfl rfl rfl rfl rfl (op_move rfl) (wl_wanted_det rfl rfl rfl rfl rfl rfl rfl (op_lenT rfl tS30um (Sl.ent (Sl.lab 48 rfl (by unfold maxLen; omega)))) ?_)
        refine wl_wanted_det rfl rfl rfl rfl rfl rfl rfl (op_add' rfl rfl (by omega)) ?_
        refine wl_wanted_det rfl rfl rfl rfl rfl rfl rfl (op_val (v' := .bool false) (by rw [decide_eq_false (by omega)]) (op_neq rfl rfl)) ?_
        refine zd rfl (op_pick_f rfl rfl) (zm rfl (wl_wanted_det rfl rfl rfl rfl rfl rfl rfl (op_move rfl) (wl_wanted_det rfl rfl rfl rfl rfl rfl rfl (op_lenT rfl tS67um (Sl.ent (Sl.lab 108 rfl (by unfold maxLen; omega)))) ?_)))
        refine wl_wanted_det rfl rfl rfl rfl rfl rfl rfl (op_move rfl) (wl_wanted_det rfl rfl rfl rfl rfl rfl rfl (op_lenT rfl tS30um (Sl.ent (Sl.lab 48 rfl (by unfold maxLen; omega)))) ?_)
        refine wl_wanted_det rfl rfl rfl rfl rfl rfl rfl (op_val (v' := .bool false) (by rw [decide_eq_false (by omega)]) (op_neq rfl rfl)) ?_
        refine zd rfl (op_pick_f rfl rfl) (wl_nil (st_tn (w_cond_f (rfl) ?_)))
        refine w_skip (st_tn (w_seq (w_seq ?_)))
        have hpn : (potL l pen)[l.length]? = some bt.1 := by rw [pot_get (Nat.le_refl _), hbt]
        refine w_drawW (fun β => (⟨148, [], [], [], noW (_), false, [], []⟩ :: ⟨149, [], [], [], noW (_), false, [], []⟩ :: ⟨150, [1], [], [], noW (_), false, [], []⟩ :: ⟨151, [0, 2], [], [], noW (_), false, [], []⟩ :: ⟨152, [3], [], [], noW (_), false, [], []⟩ :: ⟨153, [], [], [], noW (_), false, [], []⟩ :: ⟨154, [], [], [], noW (_), false, [], []⟩ :: ⟨155, [6], [], [], noW (_), false, [], []⟩ :: ⟨156, [5, 7], [], [], noW (_), false, [], []⟩ :: ⟨157, [4, 8], [], [], noW (_), false, [], []⟩ :: ⟨158, [9], [], [], noW (_), false, [], []⟩ :: ⟨159, [], [], [], noW (_), false, [], []⟩ :: ⟨160, [11], [], [], noW (_), false, [], []⟩ :: ⟨161, [], [], [], noW (_), false, [], []⟩ :: ⟨162, [13], [], [], noW (_), false, [], []⟩ :: ⟨163, [12, 14], [], [], noW (_), false, [], []⟩ :: ⟨164, [10, 15], [], [], noW (_), false, [], []⟩ :: ⟨165, [16], [], [], noW (_), false, [], []⟩ :: ⟨166, [], [], [], noW (_), false, [], []⟩ :: ⟨167, [18], [], [], noW (_), false, [], []⟩ :: ⟨168, [19], [], [], noW (_), false, [], []⟩ :: ⟨169, [], [], [], noW (_), false, [], []⟩ :: ⟨170, [21], [], [], noW (_), false, [], []⟩ :: ⟨171, [22], [], [], noW (_), false, [], []⟩ :: ⟨172, [20, 23], [], [], noW (_), false, [], []⟩ :: ⟨173, [17, 24], [], [], noW (_), false, [], []⟩ :: ⟨174, [25], [], [], noW (_), false, [], []⟩ :: ⟨175, [], [], [], noW (_), false, [], []⟩ :: ⟨176, [], [], [], noW (_), false, [], []⟩ :: ⟨177, [28], [], [], noW (_), false, [], []⟩ :: ⟨178, [27, 29], [], [], noW (_), false, [], []⟩ :: ⟨179, [30], [], [], noW (_), false, [], []⟩ :: ⟨180, [], [], [], noW (_), false, [], []⟩ :: ⟨181, [32], [], [], noW (_), false, [], []⟩ :: ⟨182, [31, 33], [], [], noW (_), false, [], []⟩ :: ⟨183, [26, 34], [], [], noW (_), false, [], []⟩ :: [])) [] [19, 10, 17, 12, 15, 7] (⟨148, [], [], false, [], []⟩ :: ⟨149, [], [], false, [], []⟩ :: ⟨150, [1], [], false, [], []⟩ :: ⟨151, [0, 2], [], false, [], []⟩ :: ⟨152, [3], [], false, [], []⟩ :: ⟨153, [], [], false, [], []⟩ :: ⟨154, [], [], false, [], []⟩ :: ⟨155, [6], [], false, [], []⟩ :: ⟨156, [5, 7], [], false, [], []⟩ :: ⟨157, [4, 8], [], false, [], []⟩ :: ⟨158, [9], [], false, [], []⟩ :: ⟨159, [], [], false, [], []⟩ :: ⟨160, [11], [], false, [], []⟩ :: ⟨161, [], [], false, [], []⟩ :: ⟨162, [13], [], false, [], []⟩ :: ⟨163, [12, 14], [], false, [], []⟩ :: ⟨164, [10, 15], [], false, [], []⟩ :: ⟨165, [16], [], false, [], []⟩ :: ⟨166, [], [], false, [], []⟩ :: ⟨167, [18], [], false, [], []⟩ :: ⟨168, [19], [], false, [], []⟩ :: ⟨169, [], [], false, [], []⟩ :: ⟨170, [21], [], false, [], []⟩ :: ⟨171, [22], [], false, [], []⟩ :: ⟨172, [20, 23], [], false, [], []⟩ :: ⟨173, [17, 24], [], false, [], []⟩ :: ⟨174, [25], [], false, [], []⟩ :: ⟨175, [], [], false, [], []⟩ :: ⟨176, [], [], false, [], []⟩ :: ⟨177, [28], [], false, [], []⟩ :: ⟨178, [27, 29], [], false, [], []⟩ :: ⟨179, [30], [], false, [], []⟩ :: ⟨180, [], [], false, [], []⟩ :: ⟨181, [32], [], false, [], []⟩ :: ⟨182, [31, 33], [], false, [], []⟩ :: ⟨183, [26, 34], [], false, [], []⟩ :: []) ([] :: [] :: [] :: [] :: [] :: [] :: [] :: [] :: [] :: [] :: [] :: [] :: [] :: [] :: [] :: [] :: [] :: [] :: [] :: [] :: [] :: [] :: [] :: [] :: [] :: [] :: [] :: [] :: [] :: [] :: [] :: [] :: [] :: [] :: [] :: [] :: []) ([] :: [] :: [] :: [] :: [] :: [] :: [] :: [] :: [] :: [] :: [] :: [] :: [] :: [] :: [] :: [] :: [] :: [] :: [] :: [] :: [] :: [] :: [] :: [] :: [] :: [] :: [] :: [] :: [] :: [] :: [] :: [] :: [] :: [] :: [] :: [] :: []) tMixum (fun _ => by rfl) (fun _ => by rfl) (by kernel_rfl) (by kernel_rfl) (by rfl) (by rfl)
            (fun β => ⟨.p rfl (by intro X; exact op_move rfl),
            ⟨.p rfl (by intro X; exact op_fieldAddr (off := 1) rfl tF60_1um),
            ⟨.p rfl (by intro X; rintro _ _ ⟨rfl, rfl⟩; exact op_load1 rfl tO3um (Ent.lab (l := 10) rfl (says_cel 1))),
            ⟨.p rfl (by intro X; rintro _ _ ⟨rfl, rfl⟩ _ _ ⟨rfl, rfl⟩; exact op_val (v' := .bool false) (by rw [decide_eq_false (fun h => h rfl)]) (op_neq rfl rfl)),
            ⟨.p rfl (by intro X; rintro _ _ ⟨rfl, rfl⟩; exact op_move rfl),
            ⟨.w rfl rfl rfl (by rintro _ _ ⟨rfl, rfl⟩; first | rfl | (exact congrArg Value.bool (decide_eq_true (by omega))) | (exact congrArg Value.bool (decide_eq_false (by omega))) | (simp; done) | (simp; omega) | (simp [*]; done)) (by intro X; exact op_move rfl),
            ⟨.w rfl rfl rfl (by rintro _ _ ⟨rfl, rfl⟩; first | rfl | (exact congrArg Value.bool (decide_eq_true (by omega))) | (exact congrArg Value.bool (decide_eq_false (by omega))) | (simp; done) | (simp; omega) | (simp [*]; done)) (by intro X; exact op_fieldAddr (off := 1) rfl tF60_1um),
            ⟨.w rfl rfl rfl (by rintro _ _ ⟨rfl, rfl⟩; first | rfl | (exact congrArg Value.bool (decide_eq_true (by omega))) | (exact congrArg Value.bool (decide_eq_false (by omega))) | (simp; done) | (simp; omega) | (simp [*]; done)) (by intro X; rintro _ _ ⟨rfl, rfl⟩; exact op_load1 rfl tO3um (Ent.lab (l := 10) rfl (says_cel 1))),
            ⟨.w rfl rfl rfl (by rintro _ _ ⟨rfl, rfl⟩; first | rfl | (exact congrArg Value.bool (decide_eq_true (by omega))) | (exact congrArg Value.bool (decide_eq_false (by omega))) | (simp; done) | (simp; omega) | (simp [*]; done)) (by intro X; rintro _ _ ⟨rfl, rfl⟩ _ _ ⟨rfl, rfl⟩; exact op_val (v' := .bool false) (by rw [decide_eq_false (by omega)]) (op_lss rfl rfl)),
            ⟨.p rfl (by intro X; rintro _ _ ⟨rfl, rfl⟩ _ _ ⟨rfl, rfl⟩; exact op_pick_f rfl rfl),
            ⟨.p rfl (by intro X; rintro _ _ ⟨rfl, rfl⟩; exact op_move rfl),
            ⟨.w rfl rfl rfl (by rintro _ _ ⟨rfl, rfl⟩; first | rfl | (exact congrArg Value.bool (decide_eq_true (by omega))) | (exact congrArg Value.bool (decide_eq_false (by omega))) | (simp; done) | (simp; omega) | (simp [*]; done)) (by intro X; exact op_fieldAddr (off := 1) rfl tF60_1um),
            ⟨.w rfl rfl rfl (by rintro _ _ ⟨rfl, rfl⟩; first | rfl | (exact congrArg Value.bool (decide_eq_true (by omega))) | (exact congrArg Value.bool (decide_eq_false (by omega))) | (simp; done) | (simp; omega) | (simp [*]; done)) (by intro X; rintro _ _ ⟨rfl, rfl⟩; exact op_load1 rfl tO3um (Ent.lab (l := 12) rfl (says_cel 1))),
            ⟨.w rfl rfl rfl (by rintro _ _ ⟨rfl, rfl⟩; first | rfl | (exact congrArg Value.bool (decide_eq_true (by omega))) | (exact congrArg Value.bool (decide_eq_false (by omega))) | (simp; done) | (simp; omega) | (simp [*]; done)) (by intro X; exact op_fieldAddr (off := 1) rfl tF60_1um),
            ⟨.w rfl rfl rfl (by rintro _ _ ⟨rfl, rfl⟩; first | rfl | (exact congrArg Value.bool (decide_eq_true (by omega))) | (exact congrArg Value.bool (decide_eq_false (by omega))) | (simp; done) | (simp; omega) | (simp [*]; done)) (by intro X; rintro _ _ ⟨rfl, rfl⟩; exact op_load1 rfl tO3um (Ent.lab (l := 10) rfl (says_cel 1))),
            ⟨.w rfl rfl rfl (by rintro _ _ ⟨rfl, rfl⟩; first | rfl | (exact congrArg Value.bool (decide_eq_true (by omega))) | (exact congrArg Value.bool (decide_eq_false (by omega))) | (simp; done) | (simp; omega) | (simp [*]; done)) (by intro X; rintro _ _ ⟨rfl, rfl⟩ _ _ ⟨rfl, rfl⟩; exact op_val (v' := .bool false) (by rw [decide_eq_false (fun h => h rfl)]) (op_neq rfl rfl)),
            ⟨.p rfl (by intro X; rintro _ _ ⟨rfl, rfl⟩ _ _ ⟨rfl, rfl⟩; exact op_pick_f rfl rfl),
            ⟨.p rfl (by intro X; rintro _ _ ⟨rfl, rfl⟩; exact op_move rfl),
            ⟨.w rfl rfl rfl (by rintro _ _ ⟨rfl, rfl⟩; first | rfl | (exact congrArg Value.bool (decide_eq_true (by omega))) | (exact congrArg Value.bool (decide_eq_false (by omega))) | (simp; done) | (simp; omega) | (simp [*]; done)) (by intro X; exact op_fieldAddr (off := 0) rfl tF60_0um),
            ⟨.w rfl rfl rfl (by rintro _ _ ⟨rfl, rfl⟩; first | rfl | (exact congrArg Value.bool (decide_eq_true (by omega))) | (exact congrArg Value.bool (decide_eq_false (by omega))) | (simp; done) | (simp; omega) | (simp [*]; done)) (by intro X; rintro _ _ ⟨rfl, rfl⟩; exact op_load1 rfl tO30um (Ent.lab (l := 12) rfl (says_cel 0))),
            ⟨.w rfl rfl rfl (by rintro _ _ ⟨rfl, rfl⟩; first | rfl | (exact congrArg Value.bool (decide_eq_true (by omega))) | (exact congrArg Value.bool (decide_eq_false (by omega))) | (simp; done) | (simp; omega) | (simp [*]; done)) (by intro X; rintro _ _ ⟨rfl, rfl⟩; exact op_lenT rfl tS30um (Sl.ent (Sl.lab 76 rfl (by unfold maxLen; omega)))),
            ⟨.w rfl rfl rfl (by rintro _ _ ⟨rfl, rfl⟩; first | rfl | (exact congrArg Value.bool (decide_eq_true (by omega))) | (exact congrArg Value.bool (decide_eq_false (by omega))) | (simp; done) | (simp; omega) | (simp [*]; done)) (by intro X; exact op_fieldAddr (off := 0) rfl tF60_0um),
            ⟨.w rfl rfl rfl (by rintro _ _ ⟨rfl, rfl⟩; first | rfl | (exact congrArg Value.bool (decide_eq_true (by omega))) | (exact congrArg Value.bool (decide_eq_false (by omega))) | (simp; done) | (simp; omega) | (simp [*]; done)) (by intro X; rintro _ _ ⟨rfl, rfl⟩; exact op_load1 rfl tO30um (Ent.lab (l := 10) rfl (says_cel 0))),
            ⟨.w rfl rfl rfl (by rintro _ _ ⟨rfl, rfl⟩; first | rfl | (exact congrArg Value.bool (decide_eq_true (by omega))) | (exact congrArg Value.bool (decide_eq_false (by omega))) | (simp; done) | (simp; omega) | (simp [*]; done)) (by intro X; rintro _ _ ⟨rfl, rfl⟩; exact op_lenT rfl tS30um (Sl.ent (Sl.lab 69 rfl (by unfold maxLen; omega)))),
            ⟨.w rfl rfl rfl (by rintro _ _ ⟨rfl, rfl⟩; first | rfl | (exact congrArg Value.bool (decide_eq_true (by omega))) | (exact congrArg Value.bool (decide_eq_false (by omega))) | (simp; done) | (simp; omega) | (simp [*]; done)) (by intro X; rintro _ _ ⟨rfl, rfl⟩ _ _ ⟨rfl, rfl⟩; exact op_val (v' := .bool false) (by rw [decide_eq_false (fun h => h rfl)]) (op_neq rfl rfl)),
            ⟨.p rfl (by intro X; rintro _ _ ⟨rfl, rfl⟩ _ _ ⟨rfl, rfl⟩; exact op_pick_f rfl rfl),
            ⟨.p rfl (by intro X; rintro _ _ ⟨rfl, rfl⟩; exact op_move rfl),
            ⟨.w rfl rfl rfl (by rintro _ _ ⟨rfl, rfl⟩; first | rfl | (exact congrArg Value.bool (decide_eq_true (by omega))) | (exact congrArg Value.bool (decide_eq_false (by omega))) | (simp; done) | (simp; omega) | (simp [*]; done)) (by intro X; exact op_move rfl),
            ⟨.w rfl rfl rfl (by rintro _ _ ⟨rfl, rfl⟩; first | rfl | (exact congrArg Value.bool (decide_eq_true (by omega))) | (exact congrArg Value.bool (decide_eq_false (by omega))) | (simp; done) | (simp; omega) | (simp [*]; done)) (by intro X; exact op_move rfl),
            ⟨.w rfl rfl rfl (by rintro _ _ ⟨rfl, rfl⟩; first | rfl | (exact congrArg Value.bool (decide_eq_true (by omega))) | (exact congrArg Value.bool (decide_eq_false (by omega))) | (simp; done) | (simp; omega) | (simp [*]; done)) (by intro X; rintro _ _ ⟨rfl, rfl⟩; exact op_lenT rfl tS30um (Sl.ent (Sl.lab 48 rfl (by unfold maxLen; omega)))),
            ⟨.w rfl rfl rfl (by rintro _ _ ⟨rfl, rfl⟩; first | rfl | (exact congrArg Value.bool (decide_eq_true (by omega))) | (exact congrArg Value.bool (decide_eq_false (by omega))) | (simp; done) | (simp; omega) | (simp [*]; done)) (by intro X; rintro _ _ ⟨rfl, rfl⟩ _ _ ⟨rfl, rfl⟩; exact op_idx rfl rfl tS30um (Sl.ent (Sl.lab 84 rfl (by unfold maxLen; omega))) (by omega)),
            ⟨.w rfl rfl rfl (by rintro _ _ ⟨rfl, rfl⟩; first | rfl | (exact congrArg Value.bool (decide_eq_true (by omega))) | (exact congrArg Value.bool (decide_eq_false (by omega))) | (simp; done) | (simp; omega) | (simp [*]; done)) (by intro X; rintro _ _ ⟨rfl, rfl⟩; exact op_ldx rfl tO3um (Sl.lab 84 rfl (by unfold maxLen; omega)) hpn (by rfl)),
            ⟨.w rfl rfl rfl (by rintro _ _ ⟨rfl, rfl⟩; first | rfl | (exact congrArg Value.bool (decide_eq_true (by omega))) | (exact congrArg Value.bool (decide_eq_false (by omega))) | (simp; done) | (simp; omega) | (simp [*]; done)) (by intro X; exact op_fieldAddr (off := 1) rfl tF60_1um),
            ⟨.w rfl rfl rfl (by rintro _ _ ⟨rfl, rfl⟩; first | rfl | (exact congrArg Value.bool (decide_eq_true (by omega))) | (exact congrArg Value.bool (decide_eq_false (by omega))) | (simp; done) | (simp; omega) | (simp [*]; done)) (by intro X; rintro _ _ ⟨rfl, rfl⟩; exact op_load1 rfl tO3um (Ent.lab (l := 10) rfl (says_cel 1))),
            ⟨.w rfl rfl rfl (by rintro _ _ ⟨rfl, rfl⟩; first | rfl | (exact congrArg Value.bool (decide_eq_true (by omega))) | (exact congrArg Value.bool (decide_eq_false (by omega))) | (simp; done) | (simp; omega) | (simp [*]; done)) (by intro X; rintro _ _ ⟨rfl, rfl⟩ _ _ ⟨rfl, rfl⟩; exact op_val (v' := .bool false) (by rw [decide_eq_false (fun h => h rfl)]) (op_neq rfl rfl)),
            ⟨.p rfl (by intro X; rintro _ _ ⟨rfl, rfl⟩ _ _ ⟨rfl, rfl⟩; exact op_pick_f rfl rfl),
            trivial⟩⟩⟩⟩⟩⟩⟩⟩⟩⟩⟩⟩⟩⟩⟩⟩⟩⟩⟩⟩⟩⟩⟩⟩⟩⟩⟩⟩⟩⟩⟩⟩⟩⟩⟩⟩)
            (fun β β' => ⟨fun _ => by rfl, ⟨fun _ => by rfl, ⟨fun _ => by rfl, ⟨fun _ => by rfl, ⟨fun _ => by rfl, ⟨fun _ => by rfl, ⟨fun _ => by rfl, ⟨fun _ => by rfl, ⟨fun _ => by rfl, ⟨fun _ => by rfl, ⟨fun _ => by rfl, ⟨fun _ => by rfl, ⟨fun _ => by rfl, ⟨fun _ => by rfl, ⟨fun _ => by rfl, ⟨fun _ => by rfl, ⟨fun _ => by rfl, ⟨fun _ => by rfl, ⟨fun _ => by rfl, ⟨fun _ => by rfl, ⟨fun _ => by rfl, ⟨fun _ => by rfl, ⟨fun _ => by rfl, ⟨fun _ => by rfl, ⟨fun _ => by rfl, ⟨fun _ => by rfl, ⟨fun _ => by rfl, ⟨fun _ => by rfl, ⟨fun _ => by rfl, ⟨fun _ => by rfl, ⟨fun _ => by rfl, ⟨fun _ => by rfl, ⟨fun _ => by rfl, ⟨fun _ => by rfl, ⟨fun _ => by rfl, ⟨fun _ => by rfl, trivial⟩⟩⟩⟩⟩⟩⟩⟩⟩⟩⟩⟩⟩⟩⟩⟩⟩⟩⟩⟩⟩⟩⟩⟩⟩⟩⟩⟩⟩⟩⟩⟩⟩⟩⟩⟩) ?_
        intro β
        rintro _ _ ⟨rfl, rfl⟩ _ _ ⟨rfl, rfl⟩ _ _ ⟨rfl, rfl⟩ _ _ ⟨rfl, rfl⟩ _ _ ⟨rfl, rfl⟩ _ _ ⟨rfl, rfl⟩ _ _ ⟨rfl, rfl⟩ _ _ ⟨rfl, rfl⟩ _ _ ⟨rfl, rfl⟩ _ _ ⟨rfl, rfl⟩ _ _ ⟨rfl, rfl⟩ _ _ ⟨rfl, rfl⟩ _ _ ⟨rfl, rfl⟩ _ _ ⟨rfl, rfl⟩ _ _ ⟨rfl, rfl⟩ _ _ ⟨rfl, rfl⟩ _ _ ⟨rfl, rfl⟩ _ _ ⟨rfl, rfl⟩ _ _ ⟨rfl, rfl⟩ _ _ ⟨rfl, rfl⟩ _ _ ⟨rfl, rfl⟩ _ _ ⟨rfl, rfl⟩ _ _ ⟨rfl, rfl⟩ _ _ ⟨rfl, rfl⟩ _ _ ⟨rfl, rfl⟩ _ _ ⟨rfl, rfl⟩ _ _ ⟨rfl, rfl⟩ _ _ ⟨rfl, rfl⟩ _ _ ⟨rfl, rfl⟩ _ _ ⟨rfl, rfl⟩ _ _ ⟨rfl, rfl⟩ _ _ ⟨rfl, rfl⟩ _ _ ⟨rfl, rfl⟩ _ _ ⟨rfl, rfl⟩ _ _ ⟨rfl, rfl⟩ _ _ ⟨rfl, rfl⟩
        refine wl_norm (e' := [(1, _), (7, _), (8, _), (10, _), (12, _), (15, _), (17, _), (21, _), (183, _)]) (.cons rfl (.cons rfl (.cons rfl (.cons rfl (.cons rfl (.cons rfl (.cons rfl (.cons rfl (.cons rfl (.nil _)))))))))) (by dsimp only [cond_false, cond_true, List.nil_append, List.cons_append]) ?_
        refine wl_nil (st_tn (w_cond_f (rfl) ?_))
        refine w_skip (st_tn (w_seq (w_seq (w_region (za rfl (wl_nil (st_tn (w_block ?_))))))))
        refine w_loopQ (X := Nat) (fun z => z ≤ bt.2.length) (fun z => [(23, .int .i64 (z))]) (fun _ => []) (fun z => bt.2.length - z) (0) [(1, _), (7, _), (8, _), (10, _), (12, _), (15, _), (17, _), (21, _)] [(48, _), (8, _), (10, _), (12, _), (69, _), (76, _), (84, _), (108, _)] [48, 8, 10, 12, 69, 76, 84, 108] rfl (rfl) (.cons rfl (.nil _)) (.cons rfl (.cons rfl (.cons rfl (.cons rfl (.cons rfl (.cons rfl (.cons rfl (.cons rfl (.nil _))))))))) (by
            try dsimp only
            exact Nat.zero_le _) ?_
        rintro k hk
        refine w_norm2 (by dsimp only [List.cons_append, List.nil_append]) (by dsimp only [List.cons_append, List.nil_append]) ?_
        try dsimp only at hk ⊢
        refine w_seq (w_seq (w_region (zm rfl (zd rfl (op_fieldAddr (off := 0) rfl tF60_0um) (zd rfl (op_load1 rfl tO30um (Ent.lab (l := 10) rfl (says_cel 0))) (zd rfl (op_lenT rfl tS30um (Sl.ent (Sl.lab 69 rfl (by unfold maxLen; omega)))) ?_))))))
        refine zd rfl (op_lss rfl rfl) (wl_nil (st_tn (w_cond_d rfl (fun hc188 => ?_) (fun hc188 => ?_))))
        · -- c188.t
          obtain ⟨x, hx⟩ := getE (l := bt.2) (i := k) (by omega)
          refine w_skip (st_tn (w_seq (w_block (w_seq ?_))))
          refine w_drawW (fun β => [⟨191, [], [], [], noW (_), false, [], []⟩, ⟨192, [0], [], [], noW (_), false, [], []⟩, ⟨193, [], [], [], noW (_), false, [], []⟩, ⟨194, [1, 2], [], [], noW (_), false, [], []⟩, ⟨195, [3], [], [], noW (_), false, [], []⟩, ⟨196, [], [], [], noW (_), false, [], []⟩, ⟨197, [5], [], [], noW (_), false, [], []⟩, ⟨198, [], [], [], noW (_), false, [], []⟩, ⟨199, [6, 7], [], [], noW (_), false, [], []⟩, ⟨200, [8], [], [], noW (_), false, [], []⟩]) [] [12, 23, 10] [⟨191, [], [], false, [], []⟩, ⟨192, [0], [], false, [], []⟩, ⟨193, [], [], false, [], []⟩, ⟨194, [1, 2], [], false, [], []⟩, ⟨195, [3], [], false, [], []⟩, ⟨196, [], [], false, [], []⟩, ⟨197, [5], [], false, [], []⟩, ⟨198, [], [], false, [], []⟩, ⟨199, [6, 7], [], false, [], []⟩, ⟨200, [8], [], false, [], []⟩] [[], [], [], [], [], [], [], [], [], []] [[], [], [], [], [], [], [], [], [], []] tMixum (fun _ => by rfl) (fun _ => by rfl) (by kernel_rfl) (by kernel_rfl) (by rfl) (by rfl)
              (fun β => ⟨.p rfl (by intro X; exact op_fieldAddr (off := 0) rfl tF60_0um),
              ⟨.p rfl (by intro X; rintro _ _ ⟨rfl, rfl⟩; exact op_load1 rfl tO30um (Ent.lab (l := 12) rfl (says_cel 0))),
              ⟨.p rfl (by intro X; exact op_move rfl),
              ⟨.p rfl (by intro X; rintro _ _ ⟨rfl, rfl⟩ _ _ ⟨rfl, rfl⟩; exact op_idx rfl rfl tS30um (Sl.ent (Sl.lab 76 rfl (by unfold maxLen; omega))) (by omega)),
              ⟨.p rfl (by intro X; rintro _ _ ⟨rfl, rfl⟩; exact op_ldx rfl tO3um (Sl.lab 76 rfl (by unfold maxLen; omega)) hx (by rfl)),
              ⟨.p rfl (by intro X; exact op_fieldAddr (off := 0) rfl tF60_0um),
              ⟨.p rfl (by intro X; rintro _ _ ⟨rfl, rfl⟩; exact op_load1 rfl tO30um (Ent.lab (l := 10) rfl (says_cel 0))),
              ⟨.p rfl (by intro X; exact op_move rfl),
              ⟨.p rfl (by intro X; rintro _ _ ⟨rfl, rfl⟩ _ _ ⟨rfl, rfl⟩; exact op_idx rfl rfl tS30um (Sl.ent (Sl.lab 69 rfl (by unfold maxLen; omega))) (by omega)),
              ⟨.p rfl (by intro X; rintro _ _ ⟨rfl, rfl⟩; exact op_ldx rfl tO3um (Sl.lab 69 rfl (by unfold maxLen; omega)) hx (by rfl)),
              trivial⟩⟩⟩⟩⟩⟩⟩⟩⟩⟩)
              (fun β β' => ⟨fun _ => by rfl, ⟨fun _ => by rfl, ⟨fun _ => by rfl, ⟨fun _ => by rfl, ⟨fun _ => by rfl, ⟨fun _ => by rfl, ⟨fun _ => by rfl, ⟨fun _ => by rfl, ⟨fun _ => by rfl, ⟨fun _ => by rfl, trivial⟩⟩⟩⟩⟩⟩⟩⟩⟩⟩) ?_
          intro β
          rintro _ _ ⟨rfl, rfl⟩ _ _ ⟨rfl, rfl⟩ _ _ ⟨rfl, rfl⟩ _ _ ⟨rfl, rfl⟩ _ _ ⟨rfl, rfl⟩ _ _ ⟨rfl, rfl⟩ _ _ ⟨rfl, rfl⟩ _ _ ⟨rfl, rfl⟩ _ _ ⟨rfl, rfl⟩ _ _ ⟨rfl, rfl⟩
          refine wl_norm (e' := [(1, _), (7, _), (8, _), (10, _), (12, _), (15, _), (17, _), (21, _), (23, _), (195, _), (200, _)]) (.cons rfl (.cons rfl (.cons rfl (.cons rfl (.cons rfl (.cons rfl (.cons rfl (.cons rfl (.cons rfl (.cons rfl (.cons rfl (.nil _)))))))))))) (by dsimp only [cond_false, cond_true, List.nil_append, List.cons_append]) ?_
          refine zd rfl (op_neq rfl rfl) (wl_nil (st_tn (w_cond_d rfl (fun hc201 => ?_) (fun hc201 => ?_))))
          · -- c201.t
            exact absurd rfl hc201
          · -- c201.f
            refine w_skip (st_bn (st_tn (w_region (zm rfl (zd rfl (op_add' rfl rfl (by omega)) ?_)))))
            refine za rfl (wl_nil ?_)
            refine st_roundQ (x := k) (k + 1) [48, 8, 10, 12, 69, 76, 84, 108] rfl (rfl) (.cons rfl (.nil _)) (.cons rfl (.cons rfl (.cons rfl (.cons rfl (.cons rfl (.cons rfl (.cons rfl (.cons rfl (.nil _))))))))) (by
                try dsimp only
                omega) (by
                try dsimp only
                omega)
        · -- c188.f
          refine w_exit (st_te ?_)
          refine st_te ?_
          refine st_be (st_tn (w_seq ?_))
          obtain ⟨s0, hs0, hr0⟩ := hL.2 0 (by omega)
          have hb0 := row_bd hCb hr0
          have hg0 := row_ge (segC l) pen (show 0 < l.length by omega) hr0
          rw [← hbt] at hg0
          refine w_region (zm rfl (zd rfl (op_idx (i := 0) rfl rfl tS67um (Sl.ent (Sl.lab 108 rfl (by unfold maxLen; omega))) (by omega)) ?_))
          refine zd rfl (op_fieldAddr (off := 1) rfl tF60_1um) (zd rfl (op_ldxf (j := 1) rfl tO3um (Sl.lab 108 rfl (by unfold maxLen; omega)) hs0 (by rfl)) ?_)
          refine za rfl (wl_nil (st_tn (w_seq (w_seq (w_region (za rfl (wl_nil (st_tn (w_block ?_)))))))))
          refine w_loopQ (X := Int × Nat) (fun z => (z.2 ≤ l.length ∧ bt.1 ≤ z.1 ∧ z.1 ≤ 1000000000) ∧ ∀ (q : Nat) (s : SgV), q < z.2 → L[q]? = some s → z.1 ≤ s.2.2.2 + q * pen) (fun z => [(24, .int .i64 (z.1)), (25, .int .i64 (z.2))]) (fun _ => []) (fun z => l.length - z.2) ((s0.2.2.2, 0)) [(1, _), (7, _), (8, _), (10, _), (15, _), (17, _), (21, _)] [(48, _), (8, _), (10, _), (69, _), (84, _), (108, _)] [48, 8, 10, 69, 84, 108] rfl (rfl) (.cons rfl (.cons rfl (.nil _))) (.cons rfl (.cons rfl (.cons rfl (.cons rfl (.cons rfl (.cons rfl (.cons rfl (.nil _)))))))) (by
              try dsimp only
              exact ⟨⟨Nat.zero_le _, by omega, by omega⟩, fun q s hq => by omega⟩) ?_
          rintro ⟨least, k⟩ ⟨⟨hk, hl1, hl2⟩, hall⟩
          refine w_norm2 (by dsimp only [List.cons_append, List.nil_append]) (by dsimp only [List.cons_append, List.nil_append]) ?_
          try dsimp only at hk hl1 hl2 hall ⊢
          refine w_seq (w_seq (w_region (zm rfl (zm rfl (zd rfl (op_val (v' := .int .i64 ((l.length : Nat) : Int)) (by rw [hLl]) (op_lenT rfl tS67um (Sl.ent (Sl.lab 108 rfl (by unfold maxLen; omega))))) ?_)))))
          refine zd rfl (op_lss rfl rfl) (wl_nil (st_tn (w_cond_d rfl (fun hc209 => ?_) (fun hc209 => ?_))))
          · -- c209.t
            obtain ⟨s, hs, hrs⟩ := hL.2 k (by omega)
            have hbs := row_bd hCb hrs
            have hgs := row_ge (segC l) pen (show k < l.length by omega) hrs
            rw [← hbt] at hgs
            have hmk := mul_bd2 hp (show k ≤ 200 by omega)
            refine w_skip (st_tn (w_seq (w_block (w_region (zm rfl (zm rfl (zm rfl (zd rfl (op_idx rfl rfl tS67um (Sl.ent (Sl.lab 108 rfl (by unfold maxLen; omega))) (by omega)) ?_))))))))
            refine zd rfl (op_fieldAddr (off := 1) rfl tF60_1um) (zd rfl (op_ldxf (j := 1) rfl tO3um (Sl.lab 108 rfl (by unfold maxLen; omega)) hs (by rfl)) ?_)
            refine zm rfl (zm rfl (zd rfl (op_convI64 rfl (by rw [Try.underlying5]; rfl) Try.underlying3 (by omega)) ?_))
            refine zd rfl (op_mul' rfl rfl (by omega)) ?_
            refine zd rfl (op_add' rfl rfl (by omega)) ?_
            refine zd rfl (op_min rfl rfl) (za rfl (wl_nil (st_bn (st_tn (w_region (zm rfl (zd rfl (op_add' rfl rfl (by omega)) ?_)))))))
            refine za rfl (wl_nil ?_)
            refine st_roundQ (x := (least, k)) ((min least (s.2.2.2 + k * pen), k + 1)) [48, 8, 10, 69, 84, 108] rfl (rfl) (.cons rfl (.cons rfl (.nil _))) (.cons rfl (.cons rfl (.cons rfl (.cons rfl (.cons rfl (.cons rfl (.cons rfl (.nil _)))))))) (by
                try dsimp only
                refine ⟨⟨by omega, by omega, by omega⟩, fun q s' hq hs' => ?_⟩
                by_cases e : q = k
                · subst e; rw [hs] at hs'; simp only [Option.some.injEq] at hs'; subst hs'; omega
                · have := hall q s' (by omega) hs'; omega) (by
                try dsimp only
                omega)
          · -- c209.f
            refine w_exit (st_te ?_)
            refine st_te ?_
            refine st_be (st_tn (w_seq ?_))
            obtain ⟨sb, hsb, hrb⟩ := hL.2 bt.2.length (by omega)
            have hgb := row_le (segC l) pen l.length h1 sb.2.2.2 (by rw [← hbt]; exact hrb)
            rw [← hbt] at hgb
            have hga := hall bt.2.length sb (by omega) hsb
            have hleast : least = bt.1 := by omega
            refine w_region (zm rfl (zm rfl (zd rfl (op_convI64 rfl (by rw [Try.underlying5]; rfl) Try.underlying3 (by omega)) ?_)))
            refine zm rfl (zm rfl (zm rfl (zd rfl (op_build tB60um rfl rfl) (zd rfl (op_fn Try.func22 rfl rfl rfl (fn_imp (show FnT Try.prog _ _ 22 [.slice _ l.length _, .int .i64 pen, .slice a84 (potL l pen).length c84, .agg #[.slice _ cuts.length _, .int .i64 tz]] [] _ from htz ▸ verifyS (cuts := cuts) pen (Sl.lab 48 rfl (by unfold maxLen; omega)) (Sl.lab 84 rfl (by unfold maxLen; omega)) (Sl.lab 8 rfl (by unfold maxLen; omega)) hb h1 hp hc) (fun u ρ hu => (by rw [← hbt] at hu; exact hu : u = .int .i64 (if tz = bt.1 then 0 else 24) ∧ ρ = [])))) ?_))))
            refine za rfl (wl_nil (st_tn (w_seq (w_region (zm rfl (zd rfl (op_fieldAddr (off := 1) rfl tF60_1um) (zd rfl (op_load1 rfl tO3um (Ent.lab (l := 10) rfl (says_cel 1))) (zd rfl (op_val (v' := .bool true) (by rw [decide_eq_true hleast]) (op_eql rfl rfl)) ?_))))))))
            refine zm rfl (wl_wanted_det rfl rfl rfl rfl rfl rfl rfl (op_move rfl) (wl_wanted_det rfl rfl rfl rfl rfl rfl rfl (op_eql rfl rfl) (wl_wanted_det rfl rfl rfl rfl rfl rfl rfl (op_move rfl) (wl_wanted_det rfl rfl rfl rfl rfl rfl rfl (op_fieldAddr (off := 1) rfl tF60_1um) (wl_wanted_det rfl rfl rfl rfl rfl rfl rfl (op_load1 rfl tO3um (Ent.lab (l := 10) rfl (says_cel 1))) (wl_wanted_det rfl rfl rfl rfl rfl rfl rfl (op_eql rfl rfl) ?_))))))
            refine wl_wanted_det rfl rfl rfl rfl rfl rfl rfl (op_val (v' := .bool true) (by
                  by_cases hq : tz = bt.1
                  · rw [if_pos hq]; simp [hq]
                  · rw [if_neg hq]; simp [hq]) (op_eqB rfl rfl Try.underlying4)) ?_
            refine zd rfl (op_pick_t rfl rfl) (zm rfl (wl_wanted_det rfl rfl rfl rfl rfl rfl rfl (op_move rfl) (wl_wanted_det rfl rfl rfl rfl rfl rfl rfl (op_move rfl) (wl_wanted_det rfl rfl rfl rfl rfl rfl rfl (op_convI64 rfl (by rw [Try.underlying5]; rfl) Try.underlying3 (by omega)) ?_))))
            refine wl_wanted_det rfl rfl rfl rfl rfl rfl rfl (op_move rfl) (wl_wanted_det rfl rfl rfl rfl rfl rfl rfl (op_loadA rfl tA60um (Ent.lab (l := 10) rfl (says_cel 0)) (Nat.le_of_ble_eq_true rfl)) (wl_wanted_det rfl rfl rfl rfl rfl rfl rfl (op_fn Try.func22 rfl rfl rfl (fn_imp (show FnT Try.prog _ _ 22 [.slice _ l.length _, .int .i64 pen, .slice a84 (potL l pen).length c84, .agg #[.slice a69 bt.2.length c69, .int .i64 bt.1]] [] _ from htb ▸ verifyS (cuts := bt.2) pen (Sl.lab 48 rfl (by unfold maxLen; omega)) (Sl.lab 84 rfl (by unfold maxLen; omega)) (Sl.lab 69 rfl (by unfold maxLen; omega)) hb h1 hp hbc.1) (fun u ρ hu => (by rw [← hbt, if_pos rfl] at hu; exact hu : u = .int .i64 0 ∧ ρ = [])))) ?_))
            refine wl_wanted_det rfl rfl rfl rfl rfl rfl rfl (op_val (v' := .bool true) (by rfl) (op_eql rfl rfl)) ?_
            refine zd rfl (op_pick_t rfl rfl) (za rfl (wl_nil (st_tn (w_ret (st_ret (vs := [_]) [] Try.results4 ⟨rfl, trivial⟩ rfl ?_)))))
            refine ⟨_, rfl, ?_⟩
            exact ⟨rfl, rfl⟩
end Go.Proofs.Ytecmigildpkigaa
