/- Contracts of Go's functions on lists of numbers: comparing, searching, sorting, inserting. Segmentations: checks, medians, costs, totals. Segmentations: all costs of parts that end at an index. Segmentations: totals; going on, comparing; slices.DeleteFunc. slices.DeleteFunc; what is pruned. The best segmentations of all beginnings. The best segmentations of all beginnings: the walk. Best, Pruned, Potentials. Levels, and the changes of a series. Small contracts of layer 45: abs, Direction, Relative, points, ranks; Grow, Concat, cmp.Or. The rank test of layer 45. The rank test of layer 45: the walk. Comparing two matchings (layer 45), where the pairs or the sums decide, or the two are the same. Conditions: none. -/
import Derived.Test.YtecmigildpkigaaGreatSlZ
import Derived.Test.YtecmigildpkigaaGreatProg
import Derived.Test.YtecmigildpkigaaGreatShelf
import Derived.Test.YtecmigildpkigaaGreatSlQ
import Derived.Test.YtecmigildpkigaaGreatSlH
import Derived.Test.YtecmigildpkigaaGreatSlI
import Derived.Test.YtecmigildpkigaaGreatSlG
import Derived.Test.YtecmigildpkigaaGreatSlF
import Derived.Test.YtecmigildpkigaaGreatSlD
import Derived.Test.YtecmigildpkigaaGreatSl3
import Derived.Test.YtecmigildpkigaaGreatTCa
import Derived.Test.YtecmigildpkigaaGreatSlU
namespace Go.Proofs.YtecmigildpkigaaGreat
open Go Go.SL Go.RowKit Go.SegP
set_option linter.unusedVariables false
set_option linter.unusedSimpArgs false
theorem tO3ua : oneB Tryz.prog 3 = true := by kernel_rfl
theorem tP36ua : appB Tryz.prog 36 3 1 8 = true := by kernel_rfl
theorem tS36ua : sliceB Tryz.prog 36 3 1 = true := by kernel_rfl
theorem take_snocS {α : Type} {l : List α} {i : Nat} {x : α} (h : l[i]? = some x) : l.take (i + 1) = l.take i ++ [x] := by rw [List.take_add_one, h]; rfl
theorem take_allS {α : Type} {l : List α} {i : Nat} (h : ¬ i < l.length) : l.take i = l := List.take_of_length_le (by omega)
def NewI (l : List Int) (lab : Nat) (u : Value) (ρ : RL) : Prop := ∃ a c, u = .slice a l.length c ∧ ρ = [(lab, slW 3 SL.encZ 1 (.slice a l.length c) l)]
set_option maxHeartbeats 400000 in
set_option maxRecDepth 100000 in
theorem cNaNI {σ : World} {F : List Res} (x : Int) : FnT Tryz.prog σ F 85 [.int .i64 x] [] (fun u ρ => u = .bool false ∧ ρ = []) := by
  refine fn_of 6 Tryz.func85 rfl Tryz.ntmps85 rfl ?_
  refine w_seq (w_region (za rfl (wl_nil (st_tn (w_seq (w_region (zm rfl (zm rfl (zd rfl (op_neq rfl rfl) (za rfl (wl_nil (st_tn (w_ret ?_)))))))))))))
  refine st_ret (vs := [_]) [] Tryz.results85 ⟨rfl, trivial⟩ rfl ?_
  refine ⟨_, rfl, ?_⟩
  simp [retv]
set_option maxHeartbeats 400000 in
set_option maxRecDepth 100000 in
theorem sNaNI {σ : World} {F : List Res} (x : Int) : FnT Tryz.prog σ F 99 [.int .i64 x] [] (fun u ρ => u = .bool false ∧ ρ = []) := by
  refine fn_of 6 Tryz.func99 rfl Tryz.ntmps99 rfl ?_
  refine w_seq (w_region (za rfl (wl_nil (st_tn (w_seq (w_region (zm rfl (zm rfl (zd rfl (op_neq rfl rfl) (za rfl (wl_nil (st_tn (w_ret ?_)))))))))))))
  refine st_ret (vs := [_]) [] Tryz.results99 ⟨rfl, trivial⟩ rfl ?_
  refine ⟨_, rfl, ?_⟩
  simp [retv]
set_option maxHeartbeats 400000 in
set_option maxRecDepth 100000 in
theorem lessI {σ : World} {F : List Res} (x y : Int) : FnT Tryz.prog σ F 94 [.int .i64 x, .int .i64 y] [] (fun u ρ => u = .bool (decide (x < y)) ∧ ρ = []) := by
  refine fn_of 17 Tryz.func94 rfl Tryz.ntmps94 rfl ?_
  refine w_seq (w_region (za rfl (wl_nil (st_tn (w_seq (w_region (zm rfl (zd rfl (op_fn Tryz.func85 rfl rfl rfl (cNaNI _)) (zm rfl (wl_unwanted rfl rfl rfl rfl rfl rfl rfl rfl (wl_unwanted rfl rfl rfl rfl rfl rfl rfl rfl (wl_unwanted rfl rfl rfl rfl rfl rfl rfl rfl (zd rfl (op_pick_f rfl rfl) ?_)))))))))))))
  refine zm rfl (wl_wanted_det rfl rfl rfl rfl rfl rfl rfl (op_move rfl) (wl_wanted_det rfl rfl rfl rfl rfl rfl rfl (op_move rfl) (wl_wanted_det rfl rfl rfl rfl rfl rfl rfl (op_lss rfl rfl) (zd rfl (op_pick_f rfl rfl) (za rfl (wl_nil (st_tn (w_ret (st_ret (vs := [_]) [] Tryz.results94 ⟨rfl, trivial⟩ rfl ?_)))))))))
  refine ⟨_, rfl, ?_⟩
  exact ⟨rfl, rfl⟩
set_option maxHeartbeats 400000 in
set_option maxRecDepth 100000 in
theorem compareI {σ : World} {F : List Res} (x y : Int) : FnT Tryz.prog σ F 76 [.int .i64 x, .int .i64 y] [] (fun u ρ => u = .int .i64 (if x < y then -1 else if x > y then 1 else 0) ∧ ρ = []) := by
  refine fn_of 20 Tryz.func76 rfl Tryz.ntmps76 rfl ?_
  refine w_seq (w_region (za rfl (wl_nil (st_tn (w_seq (w_region (zm rfl (zd rfl (op_fn Tryz.func85 rfl rfl rfl (cNaNI _)) (za rfl (wl_nil (st_tn (w_seq (w_region ?_)))))))))))))
  refine zm rfl (zd rfl (op_fn Tryz.func85 rfl rfl rfl (cNaNI _)) (za rfl (wl_nil (st_tn (w_seq (w_seq (w_region (zm rfl (wl_nil (st_tn (w_cond_f (rfl) ?_)))))))))))
  refine w_skip (st_tn (w_seq (w_seq (w_region (zm rfl (wl_nil (st_tn (w_cond_f (rfl) ?_))))))))
  refine w_skip (st_tn (w_seq (w_seq (w_region (zm rfl (zm rfl (zd rfl (op_lss rfl rfl) (wl_nil (st_tn (w_cond_d rfl (fun hc16 => ?_) (fun hc16 => ?_)))))))))))
  · -- c16.t
    refine w_seq (w_region (za rfl (wl_nil (st_tn (w_ret (st_tr (st_ret (vs := [_]) [] Tryz.results76 ⟨rfl, trivial⟩ rfl ?_)))))))
    refine ⟨_, rfl, ?_⟩
    rw [if_pos hc16]; exact ⟨rfl, rfl⟩
  · -- c16.f
    refine w_skip (st_tn (w_seq (w_seq (w_region (zm rfl (zm rfl (zd rfl (op_gtr rfl rfl) (wl_nil (st_tn (w_cond_d rfl (fun hc19 => ?_) (fun hc19 => ?_)))))))))))
    · -- c19.t
      refine w_seq (w_region (za rfl (wl_nil (st_tn (w_ret (st_tr (st_ret (vs := [_]) [] Tryz.results76 ⟨rfl, trivial⟩ rfl ?_)))))))
      refine ⟨_, rfl, ?_⟩
      rw [if_neg hc16, if_pos hc19]; exact ⟨rfl, rfl⟩
    · -- c19.f
      refine w_skip (st_tn (w_seq (w_region (za rfl (wl_nil (st_tn (w_ret (st_ret (vs := [_]) [] Tryz.results76 ⟨rfl, trivial⟩ rfl ?_))))))))
      refine ⟨_, rfl, ?_⟩
      rw [if_neg hc16, if_neg hc19]; exact ⟨rfl, rfl⟩
set_option maxHeartbeats 1000000 in
set_option maxRecDepth 100000 in
theorem bsearchI {σ : World} {F : List Res} {a : Option Addr} {c : Nat} {l : List Int} (x : Int) (h : Sl σ F SL.encZ 1 (.slice a l.length c) l) (hd : l.Pairwise (· ≤ ·)) (hl : l.length ≤ 1099511627776) :
    FnT Tryz.prog σ F 82 [.slice a l.length c, .int .i64 x] [] (fun u ρ => ∃ (k : Nat) (b : Bool), IsPos l x k ∧ u = .tuple #[.int .i64 (k : Int), .bool b] ∧ ρ = []) := by
  refine fn_of 54 Tryz.func82 rfl Tryz.ntmps82 rfl ?_
  have hle := h.i64
  have hmono : ∀ (i j : Nat) (y z : Int), i ≤ j → l[i]? = some y → l[j]? = some z → y ≤ z := fun i j y z hij hy hz => by
    obtain ⟨h1, h2⟩ := List.getElem?_eq_some_iff.1 hy
    obtain ⟨h3, h4⟩ := List.getElem?_eq_some_iff.1 hz
    rcases Nat.lt_or_eq_of_le hij with h5 | h5
    · have := List.pairwise_iff_getElem.1 hd i j h1 h3 h5; omega
    · subst h5; rw [hy] at hz; simp at hz; omega
  refine w_seq (w_region (za rfl (za rfl (wl_nil (st_tn (w_seq (w_region (zm rfl (zd rfl (op_lenT rfl tS36ua (Sl.ent (by first | exact Sl.app (by assumption) _ | exact Sl.app (Sl.app (by assumption) _) _))) ?_)))))))))
  refine za rfl (wl_nil (st_tn (w_seq (w_region (zm rfl (za rfl (za rfl (wl_nil (st_tn (w_seq (w_block ?_)))))))))))
  refine w_loopQ (X := Nat × Nat) (fun z => z.1 ≤ z.2 ∧ z.2 ≤ l.length ∧ (∀ k y, k < z.1 → l[k]? = some y → y < x) ∧ (∀ k y, z.2 ≤ k → l[k]? = some y → x ≤ y)) (fun z => [(7, .int .i64 (z.1)), (8, .int .i64 (z.2))]) (fun _ => []) (fun z => z.2 - z.1) ((0, l.length)) [(0, _), (1, _), (6, _)] [] [] rfl (rfl) (.cons rfl (.cons rfl (.nil _))) (.cons rfl (.cons rfl (.cons rfl (.nil _)))) (by
      try dsimp only
      exact ⟨Nat.zero_le _, Nat.le_refl _, fun k x hk => by omega, fun k x hk hx => by rw [List.getElem?_eq_none (by omega)] at hx; simp at hx⟩) ?_
  rintro ⟨i, j⟩ ⟨hij, hj, h1, h2⟩
  refine w_norm2 (by dsimp only [List.cons_append, List.nil_append]) (by dsimp only [List.cons_append, List.nil_append]) ?_
  try dsimp only at hij hj h1 h2 ⊢
  refine w_seq (w_seq (w_region (zm rfl (zm rfl (zd rfl (op_lss rfl rfl) (wl_nil (st_tn (w_cond_d rfl (fun hc15 => ?_) (fun hc15 => ?_)))))))))
  · -- c15.t
    obtain ⟨z, hz⟩ := getE (l := l) (i := (i + j) / 2) (by omega)
    refine w_skip (st_tn (w_block (w_seq (w_region (zm rfl (zm rfl (zd rfl (op_add' rfl rfl (by omega)) ?_)))))))
    refine zd rfl (op_convU64 rfl (by rw [Tryz.underlying3]; rfl) Tryz.underlying98 (by omega)) ?_
    refine zd rfl (op_val (v' := .int .u64 (((i + j) / 2 : Nat) : Int)) (by congr 1) (op_shrN rfl rfl (by omega) (by omega))) ?_
    refine zd rfl (op_convI64 rfl (by rw [Tryz.underlying98]; rfl) Tryz.underlying3 (by omega)) ?_
    refine za rfl (wl_nil (st_tn (w_seq (w_region (zm rfl (zm rfl (zd rfl (op_idx rfl rfl tS36ua (Sl.ent (by first | exact Sl.app (by assumption) _ | exact Sl.app (Sl.app (by assumption) _) _)) (by omega)) ?_)))))))
    refine zd rfl (op_ldx rfl tO3ua (by first | exact Sl.app (by assumption) _ | exact Sl.app (Sl.app (by assumption) _) _) (by assumption) (by rfl)) ?_
    refine zm rfl (zd rfl (op_fn Tryz.func94 rfl rfl rfl (lessI _ _)) (wl_nil (st_tn (w_cond_d rfl (fun hc27 => ?_) (fun hc27 => ?_)))))
    · -- c27.t
      refine w_region (zm rfl (zd rfl (op_add' rfl rfl (by omega)) ?_))
      refine za rfl (wl_nil (st_bn ?_))
      refine st_roundQ (x := (i, j)) (((i + j) / 2 + 1, j)) [] rfl (rfl) (.cons rfl (.cons rfl (.nil _))) (.cons rfl (.cons rfl (.cons rfl (.nil _)))) (by
          try dsimp only
          exact ⟨by omega, hj, fun k y hk hy => by have := hmono k ((i + j) / 2) y z (by omega) hy hz; omega, h2⟩) (by
          try dsimp only
          omega)
    · -- c27.f
      refine w_region (zm rfl (za rfl (wl_nil (st_bn ?_))))
      refine st_roundQ (x := (i, j)) ((i, (i + j) / 2)) [] rfl (rfl) (.cons rfl (.cons rfl (.nil _))) (.cons rfl (.cons rfl (.cons rfl (.nil _)))) (by
          try dsimp only
          exact ⟨by omega, by omega, h1, fun k y hk hy => by have := hmono ((i + j) / 2) k z y (by omega) hz hy; omega⟩) (by
          try dsimp only
          omega)
  · -- c15.f
    refine w_exit (st_te ?_)
    refine st_te ?_
    refine st_be (st_tn (w_seq ?_))
    have hpos : IsPos l x i := ⟨by omega, fun y hy => by
      obtain ⟨q, hq⟩ := List.getElem?_of_mem hy
      rw [List.getElem?_take] at hq
      split at hq
      · exact h1 q y (by assumption) hq
      · simp at hq, fun y hy => by
      obtain ⟨q, hq⟩ := List.getElem?_of_mem hy
      rw [List.getElem?_drop] at hq
      exact h2 (i + q) y (by omega) hq⟩
    refine w_region (zm rfl (zm rfl (zm rfl (zd rfl (op_lss rfl rfl) (zm rfl (wl_gsplit (t := 35) rfl (fun hg35 => ?_) (fun hg35 => ?_)))))))
    · -- 35 is True
      obtain ⟨z, hz⟩ := getE (l := l) (i := i) (by omega)
      refine wl_wanted_det rfl rfl rfl rfl rfl rfl rfl (op_move rfl) (wl_wanted_det rfl rfl rfl rfl rfl rfl rfl (op_move rfl) (wl_wanted_det rfl rfl rfl rfl rfl rfl rfl (op_idx rfl rfl tS36ua (Sl.ent (by first | exact Sl.app (by assumption) _ | exact Sl.app (Sl.app (by assumption) _) _)) (by omega)) ?_))
      refine wl_wanted_det rfl rfl rfl rfl rfl rfl rfl (op_ldx rfl tO3ua (by first | exact Sl.app (by assumption) _ | exact Sl.app (Sl.app (by assumption) _) _) (by assumption) (by rfl)) ?_
      refine wl_wanted_det rfl rfl rfl rfl rfl rfl rfl (op_move rfl) (wl_wanted_det rfl rfl rfl rfl rfl rfl rfl (op_eql rfl rfl) (wl_wanted_det rfl rfl rfl rfl rfl rfl rfl (op_move rfl) (wl_gsplit (t := 42) rfl (fun hg42 => ?_) (fun hg42 => ?_))))
      · -- 42 is True
        refine wl_unwanted rfl rfl rfl rfl rfl rfl rfl rfl (wl_unwanted rfl rfl rfl rfl rfl rfl rfl rfl (wl_unwanted rfl rfl rfl rfl rfl rfl rfl rfl (wl_unwanted rfl rfl rfl rfl rfl rfl rfl rfl (wl_unwanted rfl rfl rfl rfl rfl rfl rfl rfl (wl_unwanted rfl rfl rfl rfl rfl rfl rfl rfl (wl_unwantedU rfl rfl rfl rfl rfl rfl rfl ?_))))))
        refine wl_unwantedU rfl rfl rfl rfl rfl rfl rfl ?_
        refine wl_unwanted rfl rfl rfl rfl rfl rfl rfl rfl (wl_wanted_det rfl rfl rfl rfl rfl rfl rfl (op_pick_t rfl rfl) (zd rfl (op_pick_t rfl rfl) (za rfl (za rfl (wl_nil (st_tn (w_ret (st_ret (vs := [_, _]) [] Tryz.results82 ⟨rfl, ⟨rfl, trivial⟩⟩ rfl ?_))))))))
        refine ⟨_, rfl, ?_⟩
        exact ⟨i, _, hpos, rfl, rfl⟩
      · -- 42 is False
        refine wl_wanted_det rfl rfl rfl rfl rfl rfl rfl (op_move rfl) (wl_wanted_det rfl rfl rfl rfl rfl rfl rfl (op_move rfl) (wl_wanted_det rfl rfl rfl rfl rfl rfl rfl (op_idx rfl rfl tS36ua (Sl.ent (by first | exact Sl.app (by assumption) _ | exact Sl.app (Sl.app (by assumption) _) _)) (by omega)) ?_))
        refine wl_wanted_det rfl rfl rfl rfl rfl rfl rfl (op_ldx rfl tO3ua (by first | exact Sl.app (by assumption) _ | exact Sl.app (Sl.app (by assumption) _) _) (by assumption) (by rfl)) ?_
        refine wl_wanted_det rfl rfl rfl rfl rfl rfl rfl (op_fn Tryz.func99 rfl rfl rfl (sNaNI _)) (wl_wanted_det rfl rfl rfl rfl rfl rfl rfl (op_move rfl) (wl_unwanted rfl rfl rfl rfl rfl rfl rfl rfl (wl_unwanted rfl rfl rfl rfl rfl rfl rfl rfl (wl_wanted_det rfl rfl rfl rfl rfl rfl rfl (op_pick_f rfl rfl) (wl_wanted_det rfl rfl rfl rfl rfl rfl rfl (op_pick_f rfl rfl) (zd rfl (op_pick_t rfl rfl) (za rfl (za rfl (wl_nil (st_tn (w_ret (st_ret (vs := [_, _]) [] Tryz.results82 ⟨rfl, ⟨rfl, trivial⟩⟩ rfl ?_))))))))))))
        refine ⟨_, rfl, ?_⟩
        exact ⟨i, _, hpos, rfl, rfl⟩
    · -- 35 is False
      refine wl_unwanted rfl rfl rfl rfl rfl rfl rfl rfl (wl_unwanted rfl rfl rfl rfl rfl rfl rfl rfl (wl_unwanted rfl rfl rfl rfl rfl rfl rfl rfl (wl_unwanted rfl rfl rfl rfl rfl rfl rfl rfl (wl_unwanted rfl rfl rfl rfl rfl rfl rfl rfl (wl_unwanted rfl rfl rfl rfl rfl rfl rfl rfl (wl_unwanted rfl rfl rfl rfl rfl rfl rfl rfl (wl_unwantedU rfl rfl rfl rfl rfl rfl rfl ?_)))))))
      refine wl_unwantedU rfl rfl rfl rfl rfl rfl rfl ?_
      refine wl_unwantedU rfl rfl rfl rfl rfl rfl rfl ?_
      refine wl_unwantedU rfl rfl rfl rfl rfl rfl rfl ?_
      refine wl_unwantedU rfl rfl rfl rfl rfl rfl rfl ?_
      refine wl_unwantedU rfl rfl rfl rfl rfl rfl rfl ?_
      refine wl_unwantedU rfl rfl rfl rfl rfl rfl rfl ?_
      refine wl_unwantedU rfl rfl rfl rfl rfl rfl rfl ?_
      refine wl_unwantedU rfl rfl rfl rfl rfl rfl rfl ?_
      refine wl_unwanted rfl rfl rfl rfl rfl rfl rfl rfl (zd rfl (op_pick_f rfl rfl) (za rfl (za rfl (wl_nil (st_tn (w_ret (st_ret (vs := [_, _]) [] Tryz.results82 ⟨rfl, ⟨rfl, trivial⟩⟩ rfl ?_)))))))
      refine ⟨_, rfl, ?_⟩
      exact ⟨i, _, hpos, rfl, rfl⟩
set_option maxHeartbeats 1000000 in
set_option maxRecDepth 100000 in
theorem cmpI {σ : World} {F : List Res} {a b : Option Addr} {c d : Nat} {l m : List Int} (h : Sl σ F SL.encZ 1 (.slice a l.length c) l) (g : Sl σ F SL.encZ 1 (.slice b m.length d) m) :
    FnT Tryz.prog σ F 77 [.slice a l.length c, .slice b m.length d] [] (fun u ρ => u = .int .i64 (cmpL l m) ∧ ρ = []) := by
  refine fn_of 36 Tryz.func77 rfl Tryz.ntmps77 rfl ?_
  have hle := h.i64
  have gle := g.i64
  refine w_seq (w_region (za rfl (wl_nil (st_tn (w_seq (w_seq (w_region (zm rfl (zd rfl (op_lenT rfl tS36ua (Sl.ent (by first | exact Sl.app (by assumption) _ | exact Sl.app (Sl.app (by assumption) _) _))) ?_)))))))))
  refine zm rfl (wl_nil (st_tn (w_block ?_)))
  refine w_loopQ (X := Nat) (fun z => (z ≤ l.length ∧ z ≤ m.length) ∧ cmpL l m = cmpL (l.drop z) (m.drop z)) (fun z => [(11, .int .i64 (z))]) (fun _ => []) (fun z => l.length - z) (0) [(0, _), (1, _), (9, _), (10, _)] [] [] rfl (rfl) (.cons rfl (.nil _)) (.cons rfl (.cons rfl (.cons rfl (.cons rfl (.nil _))))) (by
      try dsimp only
      exact ⟨⟨Nat.zero_le _, Nat.zero_le _⟩, rfl⟩) ?_
  rintro i ⟨hi, hn⟩
  refine w_norm2 (by dsimp only [List.cons_append, List.nil_append]) (by dsimp only [List.cons_append, List.nil_append]) ?_
  try dsimp only at hi hn ⊢
  refine w_seq (w_region (zd rfl (op_lss rfl rfl) (wl_nil (st_tn (w_seq (w_cond_d rfl (fun hc12 => ?_) (fun hc12 => ?_)))))))
  · -- c12.t
    obtain ⟨y, hy⟩ := getE (l := l) (i := i) (by omega)
    have hlt := ltE hy
    have hdl : l.drop i = y :: l.drop (i + 1) := by rw [List.drop_eq_getElem_cons hlt]; congr 1; exact (List.getElem?_eq_some_iff.1 hy).2
    refine w_skip (st_tn (w_seq (w_block (w_seq (w_region (zm rfl (zd rfl (op_idx rfl rfl tS36ua (Sl.ent (by first | exact Sl.app (by assumption) _ | exact Sl.app (Sl.app (by assumption) _) _)) (by omega)) ?_)))))))
    refine zd rfl (op_ldx rfl tO3ua (by first | exact Sl.app (by assumption) _ | exact Sl.app (Sl.app (by assumption) _) _) (by assumption) (by rfl)) ?_
    refine za rfl (za rfl (wl_nil (st_tn (w_seq (w_seq (w_region (zm rfl (zm rfl (zd rfl (op_lenT rfl tS36ua (Sl.ent (by first | exact Sl.app (by assumption) _ | exact Sl.app (Sl.app (by assumption) _) _))) ?_)))))))))
    refine zd rfl (op_geq rfl rfl) (wl_nil (st_tn (w_cond_d rfl (fun hc19 => ?_) (fun hc19 => ?_))))
    · -- c19.t
      refine w_seq (w_region (za rfl (wl_nil (st_tn (w_ret (st_tr (st_br (st_tr (st_tr (st_br (st_tr (st_ret (vs := [_]) [] Tryz.results77 ⟨rfl, trivial⟩ rfl ?_))))))))))))
      refine ⟨_, rfl, ?_⟩
      rw [hn, hdl, (List.drop_eq_nil_of_le (show m.length ≤ i by omega) : m.drop i = [])]; exact ⟨rfl, rfl⟩
    · -- c19.f
      obtain ⟨z, hz⟩ := getE (l := m) (i := i) (by omega)
      have hlt2 := ltE hz
      have hdm : m.drop i = z :: m.drop (i + 1) := by rw [List.drop_eq_getElem_cons hlt2]; congr 1; exact (List.getElem?_eq_some_iff.1 hz).2
      refine w_skip (st_tn (w_seq (w_region (zm rfl (zm rfl (zd rfl (op_idx rfl rfl tS36ua (Sl.ent (by first | exact Sl.app (by assumption) _ | exact Sl.app (Sl.app (by assumption) _) _)) (by omega)) ?_))))))
      refine zd rfl (op_ldx rfl tO3ua (by first | exact Sl.app (by assumption) _ | exact Sl.app (Sl.app (by assumption) _) _) (by assumption) (by rfl)) ?_
      refine za rfl (wl_nil (st_tn (w_seq (w_region (zm rfl (zm rfl (zd rfl (op_fn Tryz.func76 rfl rfl rfl (compareI y z)) (za rfl (wl_nil (st_tn (w_seq (w_region (zm rfl ?_)))))))))))))
      refine zd rfl (op_neq rfl rfl) (wl_nil (st_tn (w_cond_d rfl (fun hc28 => ?_) (fun hc28 => ?_))))
      · -- c28.t
        refine w_seq (w_region (zm rfl (za rfl (wl_nil (st_tn (w_ret (st_br (st_tr (st_tr (st_br (st_tr (st_ret (vs := [_]) [] Tryz.results77 ⟨rfl, trivial⟩ rfl ?_))))))))))))
        refine ⟨_, rfl, ?_⟩
        rw [hn, hdl, hdm, cmpL]
        by_cases hyz : y < z
        · rw [if_pos hyz, if_pos hyz]; exact ⟨rfl, rfl⟩
        · by_cases hzy : y > z
          · rw [if_neg hyz, if_neg hyz, if_pos hzy, if_pos hzy]; exact ⟨rfl, rfl⟩
          · exact absurd (by rw [if_neg hyz, if_neg hzy]) hc28
      · -- c28.f
        refine w_skip (st_bn (st_tn (w_region (zd rfl (op_add' rfl rfl (by omega)) ?_))))
        refine zm rfl (wl_nil ?_)
        refine st_roundQ (x := i) (i + 1) [] rfl (rfl) (.cons rfl (.nil _)) (.cons rfl (.cons rfl (.cons rfl (.cons rfl (.nil _))))) (by
            try dsimp only
            refine ⟨by omega, ?_⟩; rw [hn, hdl, hdm, cmpL]; have hyz : y = z := by omega
            rw [if_neg (by omega), if_neg (by omega)]) (by
            try dsimp only
            omega)
  · -- c12.f
    refine w_exit (st_te ?_)
    refine st_te ?_
    refine st_be (st_tn (w_seq (w_seq (w_region (zm rfl (zd rfl (op_lenT rfl tS36ua (Sl.ent (by first | exact Sl.app (by assumption) _ | exact Sl.app (Sl.app (by assumption) _) _))) ?_))))))
    refine zm rfl (zd rfl (op_lenT rfl tS36ua (Sl.ent (by first | exact Sl.app (by assumption) _ | exact Sl.app (Sl.app (by assumption) _) _))) ?_)
    refine zd rfl (op_lss rfl rfl) (wl_nil (st_tn (w_cond_d rfl (fun hc35 => ?_) (fun hc35 => ?_))))
    · -- c35.t
      refine w_seq (w_region (za rfl (wl_nil (st_tn (w_ret (st_tr (st_ret (vs := [_]) [] Tryz.results77 ⟨rfl, trivial⟩ rfl ?_)))))))
      refine ⟨_, rfl, ?_⟩
      rw [hn, (List.drop_eq_nil_of_le (show l.length ≤ i by omega) : l.drop i = [])]
      rw [List.drop_eq_getElem_cons (l := m) (i := i) (by omega)]
      exact ⟨rfl, rfl⟩
    · -- c35.f
      refine w_skip (st_tn (w_seq (w_region (za rfl (wl_nil (st_tn (w_ret (st_ret (vs := [_]) [] Tryz.results77 ⟨rfl, trivial⟩ rfl ?_))))))))
      refine ⟨_, rfl, ?_⟩
      rw [hn, (List.drop_eq_nil_of_le (show l.length ≤ i by omega) : l.drop i = []), (List.drop_eq_nil_of_le (show m.length ≤ i by omega) : m.drop i = [])]; exact ⟨rfl, rfl⟩
set_option maxHeartbeats 400000 in
set_option maxRecDepth 100000 in
theorem cloneI {σ : World} {F : List Res} {a : Option Addr} {c : Nat} {rl : List Int} (lab : Nat) (h : Sl σ F SL.encZ 1 (.slice a rl.length c) rl) (hl : rl.length ≤ 1099511627776) :
    FnT Tryz.prog σ F 33 [.slice a rl.length c] [] (NewI rl lab) := by
  refine fn_of 8 Tryz.func33 rfl Tryz.ntmps33 rfl ?_
  have hle := h.i64
  refine w_seq (w_region (za rfl (wl_nil (st_tn (w_seq (w_seq (w_region (zm rfl (zd rfl (op_eqNil rfl tS36ua) (wl_nil (st_tn (w_cond rfl (fun hc4 => ?_) (fun hc4 => ?_)))))))))))))
  · -- c4.t
    obtain rfl : a = none := by simpa using hc4
    refine w_fact (Ent.app (Sl.nil_of h) _) (fun hnil => ?_)
    subst hnil
    refine w_emp 7 (slO_nil 3 1) ?_
    refine w_seq (w_region (za rfl (wl_nil (st_tn (w_ret (st_tr (st_ret (vs := [_]) [7] Tryz.results33 ⟨rfl, trivial⟩ rfl ?_)))))))
    refine ⟨[(lab, _)], rfl, ?_⟩
    exact ⟨none, 0, rfl, rfl⟩
  · -- c4.f
    refine w_skip (st_tn (w_seq (w_region (wl_op [] rfl rfl rfl rfl (op_lit0 (enc := SL.encZ) (lab := 5) tS36ua) ?_))))
    rintro _ _ ⟨a5, c5, rfl, rfl⟩
    refine zm rfl (wl_op [5] rfl rfl rfl rfl (op_append (lab := 5) (lab' := 7) rfl rfl tP36ua SL.enc1Z (by first | exact Sl.app (by assumption) _ | exact Sl.app (Sl.app (by assumption) _) _) (by first | omega | (simp; done) | (simp; omega) | (simp [*]; omega)) (by first | omega | (simp; done) | (simp; omega) | (simp [*]; omega))) ?_)
    rintro _ _ ⟨a7, c7, rfl, rfl⟩
    refine za rfl (wl_nil (st_tn (w_ret (st_ret (vs := [_]) [7] Tryz.results33 ⟨rfl, trivial⟩ rfl ?_))))
    refine ⟨[(lab, _)], rfl, ?_⟩
    exact ⟨a7, c7, rfl, rfl⟩
theorem sort_any {σ : World} {F : List Res} {l : List Int} {a : Option Addr} {c : Nat} (lab : Nat) (hl : l.length < 4611686018427387904) :
    FnT Tryz.prog σ F 67 [.slice a l.length c] [(lab, slW 3 SL.encZ 1 (.slice a l.length c) l)] (fun u ρ => u = .tuple #[] ∧ ρ = [(lab, slW 3 SL.encZ 1 (.slice a l.length c) (srt l))]) :=
  fn_sort (enc0 := Value.int .i64) (enc := SL.encZ) (fun _ => rfl) length_srt (fun g cap l w hH hg hl => Tryz.slices_Sort_int g 0 cap l w hH hg hl) (fun a cap w => Tryz.slices_Sort_int_none a cap w) lab hl
def lays21_ren : Go.Shelf.Ren := ⟨fun | 21 => 83 | 27 => 100 | 28 => 101 | 35 => 107 | 39 => 109 | n => n, fun | 22 => 36 | 3 => 3 | 4 => 4 | 0 => 0 | n => n, fun | n => n⟩
theorem lays21 : Go.Proofs.Lays2.n21 Tryz.prog lays21_ren := {
  mixed := by kernel_rfl
  f21 := Tryz.func83.trans (congrArg some (by kernel_rfl))
  f27 := Tryz.func100.trans (congrArg some (by kernel_rfl))
  f28 := Tryz.func101.trans (congrArg some (by kernel_rfl))
  f35 := Tryz.func107.trans (congrArg some (by kernel_rfl))
  f39 := Tryz.func109.trans (congrArg some (by kernel_rfl))
  t0 := Tryz.underlying0
  a0 := Tryz.isAgg0
  z0 := Tryz.sizeOf0
  v0 := Tryz.zeroValue0
  t3 := Tryz.underlying3
  a3 := Tryz.isAgg3
  z3 := Tryz.sizeOf3
  v3 := Tryz.zeroValue3
  t4 := Tryz.underlying4
  a4 := Tryz.isAgg4
  z4 := Tryz.sizeOf4
  v4 := Tryz.zeroValue4
  t22 := Tryz.underlying36
  a22 := Tryz.isAgg36
  z22 := Tryz.sizeOf36
  v22 := Tryz.zeroValue36
  i3 := by kernel_rfl }
theorem insertI {σ : World} {F : List Res} {a av : Option Addr} {c cv : Nat} {l : List Int} {x : Int} (i : Nat) (lab1 lab2 lab : Nat) (hi : i ≤ l.length) (hl : l.length ≤ 1099511627776) :
    FnT Tryz.prog σ F 83 [.slice a l.length c, .int .i64 i, .slice av 1 cv] [(lab1, slW 3 SL.encZ 1 (.slice a l.length c) l), (lab2, slW 3 SL.encZ 1 (.slice av 1 cv) [x])] (NewI (insA l i x) lab) :=
  fn_insert lays21 rfl i lab1 lab2 lab hi hl
theorem deleteI {σ : World} {F : List Res} {a : Option Addr} {c : Nat} {l : List Int} (lab lab' : Nat) (h1 : 1 ≤ l.length) (hl : l.length ≤ 1099511627776) :
    FnT Tryz.prog σ F 84 [.slice a l.length c, .int .i64 0, .int .i64 1] [(lab, slW 3 SL.encZ 1 (.slice a l.length c) l)] (NewI (l.drop 1) lab') := by
  intro w ho
  have ho : SL.Own σ (slW 3 SL.encZ 1 (.slice a l.length c) l :: F) w := ho
  obtain ⟨m, hm, hs⟩ := own_head ho
  obtain ⟨_, _, q1⟩ := Go.SL.ints_at hm hs
  rcases q1 with ⟨_, h, _⟩ | ⟨b, cur, rfl, rfl, hg, hlc, hcm, hcs, rest, hcur, hrl⟩
  · subst h; simp at h1
  · obtain ⟨hH, hc, hg⟩ := own_holds (enc0 := Value.int .i64) (enc := SL.encZ) (fun _ => rfl) ho
    have hcm2 : c ≤ 9223372036854775807 := by unfold maxLen at hcm; omega
    refine (Tryz.slices_Delete_int b 0 c 0 1 l w hH hc hcm2 (by omega) h1).mono ?_
    rintro e w' ⟨rfl, q, rfl⟩
    have hdl : (l.drop 1).length = l.length - 1 := List.length_drop ..
    refine ⟨_, _, rfl, ⟨some ⟨b, 0, none⟩, c, by rw [hdl], rfl⟩, ?_⟩
    have h2 := own_putRow (n := q) (os := #[]) (enc0 := Value.int .i64) (enc := SL.encZ) (l' := l.take 0 ++ l.drop 1 ++ List.replicate (1 - 0) 0) (fun _ => rfl) ho (by simp; omega) (l.drop 1).length (by simp)
    rw [Sort.grow_empty] at h2
    have e : (l.take 0 ++ l.drop 1 ++ List.replicate (1 - 0) (0 : Int)).take (l.drop 1).length = l.drop 1 := by
      rw [List.take_zero, List.nil_append]; exact List.take_left
    rw [e] at h2
    exact h2
end Go.Proofs.YtecmigildpkigaaGreat
namespace Go.Proofs.YtecmigildpkigaaGreat
open Go Go.SL Go.RowKit Go.SegP
set_option linter.unusedVariables false
set_option linter.unusedSimpArgs false
theorem tL117_1ub : zerosB Tryz.prog 117 36 1 1 = some [Value.slice none 0 0] := by kernel_rfl
theorem tO3ub : oneB Tryz.prog 3 = true := by kernel_rfl
theorem tP117ub : appB Tryz.prog 117 36 1 24 = true := by kernel_rfl
theorem tS36ub : sliceB Tryz.prog 36 3 1 = true := by kernel_rfl
abbrev HdV := Option Addr × Nat × Nat
def encHd (h : HdV) : List Value := [.slice h.1 h.2.1 h.2.2]
theorem enc1Hd : Enc1 encHd 1 := ⟨fun _ => rfl, fun a u h => by simp only [encHd, List.mem_singleton] at h; subst h; rfl⟩
theorem cuts_inc {n : Nat} {s : Nat} {l : List Int} {i : Nat} {x y : Int} (h : Cuts n s l) (hx : l[i]? = some x) (hy : l[i + 1]? = some y) : x < y := by
  induction l generalizing s i with
  | nil => simp at hx
  | cons z l ih =>
    cases i with
    | zero =>
      simp at hx hy
      subst hx
      have := (cuts_le h.2 y (List.mem_of_getElem? hy)).1
      have := h.1
      omega
    | succ i => exact ih h.2 (by simpa using hx) (by simpa using hy)
set_option maxHeartbeats 400000 in
set_option maxRecDepth 100000 in
theorem checkS {σ : World} {F : List Res} {a : Option Addr} {c : Nat} {pts : List Int} (pen : Int) (g : Sl σ F SL.encZ 1 (.slice a pts.length c) pts) (hb : PtsB pts) (h1 : 1 ≤ pts.length) (hp : 0 ≤ pen ∧ pen ≤ 1000) :
    FnT Tryz.prog σ F 34 [.slice a pts.length c, .int .i64 pen] [] (fun u ρ => u = .int .i64 0 ∧ ρ = []) := by
  refine fn_of 34 Tryz.func34 rfl Tryz.ntmps34 rfl ?_
  have hle := hb.len
  refine w_seq (w_region (za rfl (wl_nil (st_tn (w_seq (w_block (w_seq (w_region (zm rfl (zd rfl (op_lenT rfl tS36ub (Sl.ent (g.app _))) (zd rfl (op_val (v' := .bool false) (by rw [decide_eq_false (by omega)]) (op_eql rfl rfl)) ?_)))))))))))
  refine za rfl (wl_nil (st_tn (w_cond_f (rfl) ?_)))
  refine w_seq (w_region (zm rfl (zd rfl (op_lenT rfl tS36ub (Sl.ent (g.app _))) (zd rfl (op_val (v' := .bool false) (by rw [decide_eq_false (by omega)]) (op_gtr rfl rfl)) ?_))))
  refine za rfl (wl_nil (st_tn (w_cond_f (rfl) ?_)))
  refine w_skip (st_bn (st_tn (w_seq (w_seq (w_region (zm rfl (zd rfl (op_lenT rfl tS36ub (Sl.ent (g.app _))) (zm rfl (wl_nil (st_tn (w_block ?_)))))))))))
  refine w_loopQ (X := Nat) (fun z => z ≤ pts.length) (fun z => [(17, .int .i64 (z))]) (fun _ => []) (fun z => pts.length - z) (0) [(1, _), (15, _), (16, _)] [] [] rfl (rfl) (.cons rfl (.nil _)) (.cons rfl (.cons rfl (.cons rfl (.nil _)))) (by
      try dsimp only
      exact Nat.zero_le _) ?_
  rintro i hi
  refine w_norm2 (by dsimp only [List.cons_append, List.nil_append]) (by dsimp only [List.cons_append, List.nil_append]) ?_
  try dsimp only at hi ⊢
  refine w_seq (w_region (zd rfl (op_lss rfl rfl) (wl_nil (st_tn (w_seq (w_cond_d rfl (fun hc18 => ?_) (fun hc18 => ?_)))))))
  · -- c18.t
    obtain ⟨x, hx⟩ := getE (l := pts) (i := i) (by omega)
    have hxb := hb.val x (List.mem_of_getElem? hx)
    refine w_skip (st_tn (w_seq (w_block (w_seq (w_region (zd rfl (op_idx rfl rfl tS36ub (Sl.ent (g.app _)) (by omega)) ?_))))))
    refine zd rfl (op_ldx rfl tO3ub (g.app _) (by assumption) (by rfl)) ?_
    refine za rfl (wl_nil (st_tn (w_seq (w_region (zm rfl (zd rfl (op_val (v' := .bool false) (by rw [decide_eq_false (by omega)]) (op_lss rfl rfl)) ?_))))))
    refine zm rfl (wl_wanted_det rfl rfl rfl rfl rfl rfl rfl (op_move rfl) (wl_wanted_det rfl rfl rfl rfl rfl rfl rfl (op_val (v' := .bool false) (by rw [decide_eq_false (by omega)]) (op_gtr rfl rfl)) ?_))
    refine zd rfl (op_pick_f rfl rfl) (wl_nil (st_tn (w_cond_f (rfl) ?_)))
    refine w_skip (st_bn (st_tn (w_region (zd rfl (op_add' rfl rfl (by omega)) ?_))))
    refine zm rfl (wl_nil ?_)
    refine st_roundQ (x := i) (i + 1) [] rfl (rfl) (.cons rfl (.nil _)) (.cons rfl (.cons rfl (.cons rfl (.nil _)))) (by
        try dsimp only
        omega) (by
        try dsimp only
        omega)
  · -- c18.f
    refine w_exit (st_te ?_)
    refine st_te ?_
    refine st_be (st_tn (w_seq (w_seq (w_region (zm rfl (zd rfl (op_val (v' := .bool false) (by rw [decide_eq_false (by omega)]) (op_lss rfl rfl)) ?_))))))
    refine zm rfl (wl_wanted_det rfl rfl rfl rfl rfl rfl rfl (op_move rfl) (wl_wanted_det rfl rfl rfl rfl rfl rfl rfl (op_val (v' := .bool false) (by rw [decide_eq_false (by omega)]) (op_gtr rfl rfl)) ?_))
    refine zd rfl (op_pick_f rfl rfl) (wl_nil (st_tn (w_cond_f (rfl) ?_)))
    refine w_skip (st_tn (w_seq (w_region (za rfl (wl_nil (st_tn (w_ret (st_ret (vs := [_]) [] Tryz.results34 ⟨rfl, trivial⟩ rfl ?_))))))))
    refine ⟨_, rfl, ?_⟩
    exact ⟨rfl, rfl⟩
set_option maxHeartbeats 400000 in
set_option maxRecDepth 100000 in
theorem medianS {σ : World} {F : List Res} {a : Option Addr} {c : Nat} {l : List Int} (g : Sl σ F SL.encZ 1 (.slice a l.length c) l) (hl : l.length ≤ 100) (h1 : 1 ≤ l.length) :
    FnT Tryz.prog σ F 55 [.slice a l.length c] [] (fun u ρ => u = .int .i64 (medZ l) ∧ ρ = []) := by
  refine fn_of 15 Tryz.func55 rfl Tryz.ntmps55 rfl ?_
  have hsl := length_srt l
  obtain ⟨m, hm⟩ := getE (l := srt l) (i := (l.length - 1) / 2) (by omega)
  have hmz : medZ l = m := by unfold medZ; rw [List.getD_eq_getElem?_getD, hm]; rfl
  refine w_seq (w_region (za rfl (wl_nil (st_tn (w_seq (w_region (zm rfl (wl_op [] rfl rfl rfl rfl (op_fn Tryz.func33 rfl rfl rfl (cloneI 5 (by first | exact Sl.app (by assumption) _ | exact Sl.app (Sl.app (by assumption) _) _) (by omega))) ?_))))))))
  rintro _ _ ⟨a5, c5, rfl, rfl⟩
  refine za rfl (wl_nil (st_tn (w_seq (w_region (zm rfl (wl_op [5] rfl rfl rfl rfl (op_fn Tryz.func67 rfl rfl rfl (sort_any 5 (by omega))) ?_))))))
  rintro _ _ ⟨rfl, rfl⟩
  refine wl_nil (st_tn (w_seq (w_region (zm rfl (zm rfl (zd rfl (op_val (v' := .int .i64 ((l.length : Nat) : Int)) (by rw [hsl]) (op_lenT rfl tS36ub (Sl.ent (Sl.lab (l := srt l) 5 rfl (by unfold maxLen; omega))))) ?_))))))
  refine zd rfl (op_sub' rfl rfl (by omega)) ?_
  refine zd rfl (op_val (v' := .int .i64 (((l.length - 1) / 2 : Nat) : Int)) (by congr 1; omega) (op_quoN rfl rfl (by omega) (by omega) (by omega))) ?_
  refine zd rfl (op_idx rfl rfl tS36ub (Sl.ent (Sl.lab (l := srt l) 5 rfl (by unfold maxLen; omega))) (by omega)) ?_
  refine zd rfl (op_ldx rfl tO3ub (Sl.lab (l := srt l) 5 rfl (by unfold maxLen; omega)) hm (by rfl)) ?_
  refine za rfl (wl_nil (st_tn (w_ret (st_ret (vs := [_]) [] Tryz.results55 ⟨rfl, trivial⟩ rfl ?_))))
  refine ⟨_, rfl, ?_⟩
  rw [hmz]; exact ⟨rfl, rfl⟩
set_option maxHeartbeats 600000 in
set_option maxRecDepth 100000 in
theorem checkCutsS {σ : World} {F : List Res} {a b : Option Addr} {c d : Nat} {pts cuts : List Int} (g : Sl σ F SL.encZ 1 (.slice a pts.length c) pts) (gc : Sl σ F SL.encZ 1 (.slice b cuts.length d) cuts) (hc : Cuts pts.length 0 cuts) :
    FnT Tryz.prog σ F 53 [.slice a pts.length c, .slice b cuts.length d] [] (fun u ρ => u = .int .i64 0 ∧ ρ = []) := by
  refine fn_of 34 Tryz.func53 rfl Tryz.ntmps53 rfl ?_
  have hle := g.i64
  have hle2 := gc.i64
  refine w_seq (w_region (za rfl (wl_nil (st_tn (w_seq (w_seq (w_region (zm rfl (zd rfl (op_lenT rfl tS36ub (Sl.ent (gc.app _))) (zm rfl (wl_nil (st_tn (w_block ?_)))))))))))))
  refine w_loopQ (X := Nat) (fun z => z ≤ cuts.length) (fun z => [(9, .int .i64 (z))]) (fun _ => []) (fun z => cuts.length - z) (0) [(0, _), (1, _), (7, _), (8, _)] [] [] rfl (rfl) (.cons rfl (.nil _)) (.cons rfl (.cons rfl (.cons rfl (.cons rfl (.nil _))))) (by
      try dsimp only
      exact Nat.zero_le _) ?_
  rintro i hi
  refine w_norm2 (by dsimp only [List.cons_append, List.nil_append]) (by dsimp only [List.cons_append, List.nil_append]) ?_
  try dsimp only at hi ⊢
  refine w_seq (w_region (zd rfl (op_lss rfl rfl) (wl_nil (st_tn (w_seq (w_cond_d rfl (fun hc10 => ?_) (fun hc10 => ?_)))))))
  · -- c10.t
    obtain ⟨x, hx⟩ := getE (l := cuts) (i := i) (by omega)
    have hxb := cuts_le hc x (List.mem_of_getElem? hx)
    refine w_skip (st_tn (w_seq (w_block (w_seq (w_region (zm rfl (zd rfl (op_idx rfl rfl tS36ub (Sl.ent (gc.app _)) (by omega)) ?_)))))))
    refine zd rfl (op_ldx rfl tO3ub (gc.app _) (by assumption) (by rfl)) ?_
    refine za rfl (za rfl (wl_nil (st_tn (w_seq (w_seq (w_region (zm rfl (zd rfl (op_val (v' := .bool false) (by rw [decide_eq_false (by omega)]) (op_lss rfl rfl)) ?_))))))))
    refine zm rfl (wl_wanted_det rfl rfl rfl rfl rfl rfl rfl (op_move rfl) (wl_wanted_det rfl rfl rfl rfl rfl rfl rfl (op_move rfl) (wl_wanted_det rfl rfl rfl rfl rfl rfl rfl (op_lenT rfl tS36ub (Sl.ent (g.app _))) (wl_wanted_det rfl rfl rfl rfl rfl rfl rfl (op_val (v' := .bool false) (by rw [decide_eq_false (by omega)]) (op_geq rfl rfl)) ?_))))
    refine zd rfl (op_pick_f rfl rfl) (wl_nil (st_tn (w_cond_f (rfl) ?_)))
    refine w_skip (st_tn (w_seq (w_region (zm rfl (zd rfl (op_gtr rfl rfl) (zm rfl (wl_gsplit (t := 24) rfl (fun hg24 => ?_) (fun hg24 => ?_))))))))
    · -- 24 is True
      obtain ⟨y, hy⟩ := getE (l := cuts) (i := ((i : Int) - 1).toNat) (by omega)
      have hyx := cuts_inc hc hy (by rw [show ((i : Int) - 1).toNat + 1 = i by omega]; exact hx)
      refine wl_wanted_det rfl rfl rfl rfl rfl rfl rfl (op_move rfl) (wl_wanted_det rfl rfl rfl rfl rfl rfl rfl (op_move rfl) (wl_wanted_det rfl rfl rfl rfl rfl rfl rfl (op_move rfl) (wl_wanted_det rfl rfl rfl rfl rfl rfl rfl (op_sub' rfl rfl (by omega)) ?_)))
      refine wl_wanted_det rfl rfl rfl rfl rfl rfl rfl (op_idxZ rfl rfl tS36ub (Sl.ent (gc.app _)) (by omega) (by omega)) ?_
      refine wl_wanted_det rfl rfl rfl rfl rfl rfl rfl (op_ldx rfl tO3ub (gc.app _) (by assumption) (by rfl)) ?_
      refine wl_wanted_det rfl rfl rfl rfl rfl rfl rfl (op_val (v' := .bool false) (by rw [decide_eq_false (by omega)]) (op_leq rfl rfl)) ?_
      refine zd rfl (op_pick_t rfl rfl) (wl_nil (st_tn (w_cond_f (rfl) ?_)))
      refine w_skip (st_bn (st_tn (w_region (zd rfl (op_add' rfl rfl (by omega)) ?_))))
      refine zm rfl (wl_nil ?_)
      refine st_roundQ (x := i) (i + 1) [] rfl (rfl) (.cons rfl (.nil _)) (.cons rfl (.cons rfl (.cons rfl (.cons rfl (.nil _))))) (by
          try dsimp only
          omega) (by
          try dsimp only
          omega)
    · -- 24 is False
      refine wl_unwanted rfl rfl rfl rfl rfl rfl rfl rfl (wl_unwanted rfl rfl rfl rfl rfl rfl rfl rfl (wl_unwanted rfl rfl rfl rfl rfl rfl rfl rfl (wl_unwanted rfl rfl rfl rfl rfl rfl rfl rfl (wl_unwanted rfl rfl rfl rfl rfl rfl rfl rfl (wl_unwanted rfl rfl rfl rfl rfl rfl rfl rfl (wl_unwanted rfl rfl rfl rfl rfl rfl rfl rfl (zd rfl (op_pick_f rfl rfl) (wl_nil (st_tn (w_cond_f (rfl) ?_))))))))))
      refine w_skip (st_bn (st_tn (w_region (zd rfl (op_add' rfl rfl (by omega)) ?_))))
      refine zm rfl (wl_nil ?_)
      refine st_roundQ (x := i) (i + 1) [] rfl (rfl) (.cons rfl (.nil _)) (.cons rfl (.cons rfl (.cons rfl (.cons rfl (.nil _))))) (by
          try dsimp only
          omega) (by
          try dsimp only
          omega)
  · -- c10.f
    refine w_exit (st_te ?_)
    refine st_te ?_
    refine st_be (st_tn (w_seq (w_region (za rfl (wl_nil (st_tn (w_ret (st_ret (vs := [_]) [] Tryz.results53 ⟨rfl, trivial⟩ rfl ?_))))))))
    refine ⟨_, rfl, ?_⟩
    exact ⟨rfl, rfl⟩
def prt (n : Nat) : Nat → List Int → List (Nat × Nat)
  | s, [] => [(s, n)]
  | s, c :: cs => (s, c.toNat) :: prt n c.toNat cs
def hdr (a : Option Addr) (c : Nat) (p : Nat × Nat) : HdV := (SL.sub a c p.1 1, p.2 - p.1, c - p.1)
theorem prt_len (n : Nat) : ∀ (s : Nat) (l : List Int), (prt n s l).length = l.length + 1
  | s, [] => rfl
  | s, c :: cs => by rw [prt, List.length_cons, prt_len n c.toNat cs]; rfl
theorem prt_bd {n : Nat} : ∀ {s : Nat} {l : List Int}, Cuts n s l → ∀ p ∈ prt n s l, p.1 < p.2 ∧ p.2 ≤ n
  | s, [], h, p, hp => by
    simp only [prt, List.mem_singleton] at hp; subst hp
    exact ⟨h, Nat.le_refl _⟩
  | s, c :: cs, h, p, hp => by
    rw [prt] at hp
    rcases List.mem_cons.1 hp with rfl | hp
    · have := h.1; have := cuts_lt h.2; dsimp only; omega
    · exact prt_bd h.2 p hp
def prtN (l : List Int) : Nat → List (Nat × Nat) × Nat
  | 0 => ([], 0)
  | i + 1 => match l[i]? with
    | some x => ((prtN l i).1 ++ [((prtN l i).2, x.toNat)], x.toNat)
    | none => prtN l i
theorem prtN_succ {l : List Int} {i : Nat} {x : Int} (h : l[i]? = some x) : prtN l (i + 1) = ((prtN l i).1 ++ [((prtN l i).2, x.toNat)], x.toNat) := by rw [prtN, h]
theorem prtN_all (n : Nat) (l : List Int) : ∀ i, i ≤ l.length → (prtN l i).1 ++ prt n (prtN l i).2 (l.drop i) = prt n 0 l
  | 0, _ => by simp [prtN]
  | i + 1, h => by
    have ih := prtN_all n l i (by omega)
    have hx : l[i]? = some l[i] := List.getElem?_eq_getElem (by omega)
    rw [prtN_succ hx, ← ih, List.drop_eq_getElem_cons (l := l) (i := i) (by omega), prt]
    simp
theorem prtN_len (l : List Int) : ∀ i, (prtN l i).1.length ≤ i
  | 0 => by simp [prtN]
  | i + 1 => by
    have ih := prtN_len l i
    rw [prtN]
    split
    · rw [List.length_append, List.length_singleton]; omega
    · omega
set_option maxHeartbeats 800000 in
set_option maxRecDepth 100000 in
theorem partsS {σ : World} {F : List Res} {a b : Option Addr} {c d : Nat} {pts cuts : List Int} (lab : Nat) (g : Sl σ F SL.encZ 1 (.slice a pts.length c) pts) (gc : Sl σ F SL.encZ 1 (.slice b cuts.length d) cuts) (hc : Cuts pts.length 0 cuts) (hl : pts.length ≤ 100) :
    FnT Tryz.prog σ F 54 [.slice a pts.length c, .slice b cuts.length d] [] (fun u ρ => ∃ (a' : Option Addr) (c' : Nat), u = .slice a' ((prt pts.length 0 cuts).map (hdr a c)).length c' ∧ ρ = [(lab, slW 36 encHd 1 (.slice a' ((prt pts.length 0 cuts).map (hdr a c)).length c') ((prt pts.length 0 cuts).map (hdr a c)))]) := by
  refine fn_of 30 Tryz.func54 rfl Tryz.ntmps54 rfl ?_
  have hle2 := gc.i64
  have hcl := cuts_len hc
  refine w_seq (w_region (za rfl (wl_nil (st_tn (w_seq (w_region (za rfl (wl_nil (st_tn (w_seq (w_region (za rfl (wl_nil ?_)))))))))))))
  refine st_tn (w_seq (w_seq (w_region (zm rfl (zd rfl (op_lenT rfl tS36ub (Sl.ent (gc.app _))) (zm rfl (wl_nil (st_tn (w_block (w_emp 5 (slO_nil 36 1) ?_))))))))))
  refine w_loopQ (X := List HdV × Option Addr × Nat × Nat × Nat) (fun z => z.2.2.2.2 ≤ cuts.length ∧ z.1 = (prtN cuts z.2.2.2.2).1.map (hdr a c) ∧ z.2.2.2.1 = (prtN cuts z.2.2.2.2).2 ∧ z.2.2.2.1 ≤ pts.length ∧ (z.2.2.2.2 < cuts.length → ∀ x, cuts[z.2.2.2.2]? = some x → (z.2.2.2.1 : Int) < x)) (fun z => [(5, .slice (z.2.1) (z.1).length (z.2.2.1)), (6, .int .i64 (z.2.2.2.1)), (11, .int .i64 (z.2.2.2.2))]) (fun z => [(5, slW 36 encHd 1 (.slice (z.2.1) (z.1).length (z.2.2.1)) (z.1))]) (fun z => cuts.length - z.2.2.2.2) (([], none, 0, 0, 0)) [(0, _), (9, _), (10, _)] [] [5] rfl (rfl) (.cons rfl (.cons rfl (.cons rfl (.nil _)))) (.cons rfl (.cons rfl (.cons rfl (.nil _)))) (by
      try dsimp only
      exact ⟨Nat.zero_le _, rfl, rfl, Nat.zero_le _, fun _ x hx => (cuts_le hc x (List.mem_of_getElem? hx)).1⟩) ?_
  rintro ⟨out, a_out, c_out, s, i⟩ ⟨hi, ho, hs, hsn, hsx⟩
  refine w_norm2 (by dsimp only [List.cons_append, List.nil_append]) (by dsimp only [List.cons_append, List.nil_append]) ?_
  try dsimp only at hi ho hs hsn hsx ⊢
  refine w_seq (w_region (zd rfl (op_lss rfl rfl) (wl_nil (st_tn (w_seq (w_cond_d rfl (fun hc12 => ?_) (fun hc12 => ?_)))))))
  · -- c12.t
    obtain ⟨x, hx⟩ := getE (l := cuts) (i := i) (by omega)
    have hxb := cuts_le hc x (List.mem_of_getElem? hx)
    have hsx2 := hsx (by omega) x hx
    have hol : out.length ≤ i := by rw [ho, List.length_map]; exact prtN_len cuts i
    refine w_skip (st_tn (w_seq (w_block (w_seq (w_region (zd rfl (op_idx rfl rfl tS36ub (Sl.ent (gc.app _)) (by omega)) ?_))))))
    refine zd rfl (op_val (v' := .int .i64 ((x.toNat : Nat) : Int)) (show Value.int .i64 x = .int .i64 ((x.toNat : Nat) : Int) by congr 1; omega) (op_ldx rfl tO3ub (gc.app _) hx (by rfl))) ?_
    refine za rfl (wl_nil (st_tn (w_seq (w_region (zm rfl (zm rfl (zm rfl (zm rfl (zd rfl (op_slice rfl rfl rfl tS36ub (g.app _) (by omega) (by omega)) ?_)))))))))
    refine wl_op [] rfl rfl rfl rfl (op_buildSlice (enc := encHd) (l := [(SL.sub a c s 1, x.toNat - s, c - s)]) (lab := 20) tL117_1ub rfl rfl (fun _ => rfl) rfl) ?_
    rintro _ _ ⟨a20, c20, rfl, rfl⟩
    refine wl_op [5] rfl rfl rfl rfl (op_append (lab := 5) (lab' := 21) rfl rfl tP117ub enc1Hd (Sl.lab 20 rfl (by simp [maxLen])) (by first | omega | (simp; done) | (simp; omega) | (simp [*]; omega)) (by first | omega | (simp; done) | (simp; omega) | (simp [*]; omega))) ?_
    rintro _ _ ⟨a21, c21, rfl, rfl⟩
    refine za rfl (wl_nil (st_tn (w_region (zm rfl (za rfl (wl_nil (st_bn (st_tn (w_region (zd rfl (op_add' rfl rfl (by omega)) ?_))))))))))
    refine zm rfl (wl_nil ?_)
    refine st_roundQ (x := (out, a_out, c_out, s, i)) ((_, _, _, x.toNat, i + 1)) [21] rfl (rfl) (.cons rfl (.cons rfl (.cons rfl (.nil _)))) (.cons rfl (.cons rfl (.cons rfl (.nil _)))) (by
        try dsimp only
        refine ⟨by omega, by rw [prtN_succ hx, List.map_append, ← ho, ← hs]; rfl, by rw [prtN_succ hx], by omega, fun hlt y hy => ?_⟩; have := cuts_inc hc hx hy; omega) (by
        try dsimp only
        omega)
  · -- c12.f
    refine w_exit (st_te ?_)
    refine st_te ?_
    refine st_be (st_tn (w_seq ?_))
    have hol : out.length ≤ i := by rw [ho, List.length_map]; exact prtN_len cuts i
    have hfin : out ++ [(SL.sub a c s 1, pts.length - s, c - s)] = (prt pts.length 0 cuts).map (hdr a c) := by
      have h9 := prtN_all pts.length cuts i hi
      rw [List.drop_eq_nil_of_le (show cuts.length ≤ i by omega), prt] at h9
      rw [← h9, List.map_append, ← ho, ← hs]; rfl
    refine w_region (zm rfl (zm rfl (zm rfl (zd rfl (op_sliceL rfl rfl tS36ub (g.app _) (by omega)) ?_))))
    refine wl_op [] rfl rfl rfl rfl (op_buildSlice (enc := encHd) (l := [(SL.sub a c s 1, pts.length - s, c - s)]) (lab := 28) tL117_1ub rfl rfl (fun _ => rfl) rfl) ?_
    rintro _ _ ⟨a28, c28, rfl, rfl⟩
    refine wl_op [5] rfl rfl rfl rfl (op_append (lab := 5) (lab' := 29) rfl rfl tP117ub enc1Hd (Sl.lab 28 rfl (by simp [maxLen])) (by first | omega | (simp; done) | (simp; omega) | (simp [*]; omega)) (by first | omega | (simp; done) | (simp; omega) | (simp [*]; omega))) ?_
    rintro _ _ ⟨a29, c29, rfl, rfl⟩
    refine za rfl (wl_nil (st_tn (w_ret (st_ret (vs := [_]) [29] Tryz.results54 ⟨rfl, trivial⟩ rfl ?_))))
    refine ⟨[(lab, _)], rfl, ?_⟩
    rw [← hfin]; exact ⟨_, _, rfl, rfl⟩
end Go.Proofs.YtecmigildpkigaaGreat
namespace Go.Proofs.YtecmigildpkigaaGreat
open Go Go.SL Go.RowKit Go.SegP
set_option linter.unusedVariables false
set_option linter.unusedSimpArgs false
theorem tL36_1uc : zerosB Tryz.prog 36 3 1 1 = some [Value.int .i64 0] := by kernel_rfl
theorem tM36uc : makeB Tryz.prog 36 3 8 = some (Value.int .i64 0) := by kernel_rfl
theorem tO3uc : oneB Tryz.prog 3 = true := by kernel_rfl
theorem tP36uc : appB Tryz.prog 36 3 1 8 = true := by kernel_rfl
theorem tS36uc : sliceB Tryz.prog 36 3 1 = true := by kernel_rfl
theorem halves_nil : Halves [] [] [] := ⟨by simp, by simp, by simp, by simp⟩
theorem part_nil (pts : List Int) (t : Nat) : (pts.take t).drop t = [] := by apply List.drop_eq_nil_of_le; rw [List.length_take]; omega
theorem halves_bd {pts low high : List Int} {s t : Nat} (hb : PtsB pts) (h : Halves ((pts.take t).drop s) low high) : (∀ x ∈ low, -1000 ≤ x ∧ x ≤ 1000) ∧ (∀ x ∈ high, -1000 ≤ x ∧ x ≤ 1000) ∧ low.length + high.length ≤ 100 := by
  have hm : ∀ x, x ∈ low ++ high → -1000 ≤ x ∧ x ≤ 1000 := fun x hx => hb.val x (List.mem_of_mem_take (List.mem_of_mem_drop (h.perm.mem_iff.1 hx)))
  refine ⟨fun x hx => hm x (List.mem_append_left _ hx), fun x hx => hm x (List.mem_append_right _ hx), ?_⟩
  have h1 := h.perm.length_eq
  rw [List.length_append] at h1
  have := hb.len
  rw [h1, List.length_drop, List.length_take]; omega
abbrev LI := List Int
theorem sub_zeroS (a : Option Addr) (c k : Nat) : SL.sub a c 0 k = a := by
  unfold SL.sub
  split
  · rfl
  · cases a with
    | none => rfl
    | some p => simp [add0]
theorem fin_facts {pts LOW HIGH : List Int} {j t : Nat} (hb : PtsB pts) (hF : Halves ((pts.take t).drop j) LOW HIGH) (hj : j < t) (ht : t ≤ pts.length) :
    ∃ m, LOW[LOW.length - 1]? = some m ∧ segC pts j t = m * LOW.length - LOW.sum + HIGH.sum - m * HIGH.length ∧ (0 < LOW.length ∧ LOW.length + HIGH.length ≤ 100) ∧ (-200000 ≤ m * (LOW.length : Int) ∧ m * (LOW.length : Int) ≤ 200000) ∧ (-200000 ≤ m * (HIGH.length : Int) ∧ m * (HIGH.length : Int) ≤ 200000) ∧ (-200000 ≤ LOW.sum ∧ LOW.sum ≤ 200000) ∧ (-200000 ≤ HIGH.sum ∧ HIGH.sum ≤ 200000) := by
  obtain ⟨h1, h2, h3⟩ := halves_bd hb hF
  have hl := hF.perm.length_eq
  rw [List.length_append, List.length_drop, List.length_take] at hl
  have l1 := hF.l1
  obtain ⟨m, hm⟩ := getE (l := LOW) (i := LOW.length - 1) (by omega)
  have hmb := h1 m (List.mem_of_getElem? hm)
  have s1 := sum_bd h1
  have s2 := sum_bd h2
  exact ⟨m, hm, halves_cost hF hm, ⟨by omega, h3⟩, mul_bd hmb (by omega), mul_bd hmb (by omega), by omega, by omega⟩
set_option maxHeartbeats 4000000 in
set_option maxRecDepth 100000 in
theorem costsS {σ : World} {F : List Res} {a : Option Addr} {c : Nat} {pts : List Int} {t : Nat} (lab : Nat) (g : Sl σ F SL.encZ 1 (.slice a pts.length c) pts) (hb : PtsB pts) (ht : t ≤ pts.length) :
    FnT Tryz.prog σ F 69 [.slice a pts.length c, .int .i64 t] [] (NewI (costsL pts t) lab) := by
  refine fn_of 142 Tryz.func69 rfl Tryz.ntmps69 rfl ?_
  have hle := hb.len
  have hcl := costs_len pts t
  refine w_seq (w_region (za rfl (wl_nil (st_tn (w_seq (w_region (zm rfl (wl_op [] rfl rfl rfl rfl (op_makeSlice (enc := SL.encZ) (a0 := 0) (lab := 20) rfl rfl tM36uc (fun _ => rfl) rfl rfl (by omega) (by unfold maxLen; omega)) ?_))))))))
  rintro _ _ ⟨a20, c20, rfl, rfl⟩
  refine za rfl (wl_nil (st_tn (w_seq (w_region (za rfl (za rfl (wl_nil (st_tn (w_seq (w_region (za rfl (za rfl (wl_nil ?_)))))))))))))
  refine st_tn (w_seq (w_seq (w_region (zm rfl (zd rfl (op_sub' rfl rfl (by omega)) ?_)))))
  refine za rfl (wl_nil (st_tn (w_block (w_emp 6 (slO_nil 3 1) ?_))))
  refine w_emp 7 (slO_nil 3 1) ?_
  refine w_loopQ (X := Nat × LI × List Int × Option Addr × Nat × List Int × Option Addr × Nat × Int × Int) (fun z => (z.1 ≤ t ∧ z.2.1 = List.replicate z.1 0 ++ (costsL pts t).drop z.1) ∧ Halves ((pts.take t).drop z.1) z.2.2.1 z.2.2.2.2.2.1 ∧ z.2.2.2.2.2.2.2.2.1 = z.2.2.1.sum ∧ z.2.2.2.2.2.2.2.2.2 = z.2.2.2.2.2.1.sum) (fun z => [(6, .slice (z.2.2.2.1) (z.2.2.1).length (z.2.2.2.2.1)), (7, .slice (z.2.2.2.2.2.2.1) (z.2.2.2.2.2.1).length (z.2.2.2.2.2.2.2.1)), (8, .int .i64 (z.2.2.2.2.2.2.2.2.1)), (9, .int .i64 (z.2.2.2.2.2.2.2.2.2)), (10, .int .i64 (((z.1) : Int) - 1))]) (fun z => [(6, slW 3 SL.encZ 1 (.slice (z.2.2.2.1) (z.2.2.1).length (z.2.2.2.2.1)) (z.2.2.1)), (7, slW 3 SL.encZ 1 (.slice (z.2.2.2.2.2.2.1) (z.2.2.2.2.2.1).length (z.2.2.2.2.2.2.2.1)) (z.2.2.2.2.2.1)), (20, slW 3 SL.encZ 1 (.slice a20 (List.replicate t (0 : Int)).length c20) (z.2.1))]) (fun z => z.1) ((t, List.replicate t 0, [], none, 0, [], none, 0, 0, 0)) [(0, _), (5, _)] [] [6, 7, 20] rfl (rfl) (.cons rfl (.cons rfl (.cons rfl (.cons rfl (.cons rfl (.nil _)))))) (.cons rfl (.cons rfl (.nil _))) (by
      try dsimp only
      exact ⟨⟨Nat.le_refl _, by rw [List.drop_eq_nil_of_le (by omega)]; simp⟩, by rw [part_nil]; exact halves_nil, rfl, rfl⟩) ?_
  rintro ⟨i, out, low, a_low, c_low, high, a_high, c_high, sl, sh⟩ ⟨⟨hi, ho⟩, hh, hsl, hsh⟩
  refine w_norm2 (by dsimp only [List.cons_append, List.nil_append]) (by dsimp only [List.cons_append, List.nil_append]) ?_
  try dsimp only at hi ho hh hsl hsh ⊢
  refine w_seq (w_seq (w_region (zm rfl (zd rfl (op_geq rfl rfl) (wl_nil (st_tn (w_cond_d rfl (fun hc24 => ?_) (fun hc24 => ?_))))))))
  · -- c24.t
    refine Exists.elim (⟨i - 1, by omega⟩ : ∃ j, j + 1 = i) (fun j hj => ?_)
    subst hj
    refine Exists.elim (getE (l := pts) (i := j) (by omega)) (fun x hx => ?_)
    have hxb := hb.val x (List.mem_of_getElem? hx)
    obtain ⟨hbl, hbh, hlen⟩ := halves_bd hb hh
    have h1 := hh.l1
    have h2 := hh.l2
    have s1 := sum_bd hbl
    have s2 := sum_bd hbh
    have hpc := seg_cons pts hx (show j < t by omega)
    have hol : out.length = t := by rw [ho, List.length_append, List.length_replicate, List.length_drop, hcl]; omega
    have hold : out[j]? = some 0 := by rw [ho, List.getElem?_append_left (by rw [List.length_replicate]; omega), List.getElem?_replicate, if_pos (by omega)]
    obtain ⟨p1, p2, p3⟩ := List.pairwise_append.1 hh.sorted
    refine w_skip (st_tn (w_seq (w_block (w_seq (w_region (zm rfl (zd rfl (op_val (v' := .int .i64 ((j : Nat) : Int)) (by rw [show ((j : Nat) : Int) = ((j + 1 : Nat) : Int) - 1 by omega]) (op_move rfl)) ?_)))))))
    refine zd rfl (op_idx rfl rfl tS36uc (Sl.ent (g.app _)) (by omega)) ?_
    refine zd rfl (op_ldx rfl tO3uc (g.app _) hx (by rfl)) ?_
    refine za rfl (wl_nil (st_tn (w_seq (w_seq (w_cutL [(43, .bool (decide (0 < low.length ∧ low.getD (low.length - 1) 0 < x)))] [0, 5, 6, 7, 8, 9, 10, 11] [6, 7, 20] rfl (fun K' hK => ?_) ?_)))))
    · -- cut r8
      refine w_region (zm rfl (zd rfl (op_lenT rfl tS36uc (Sl.ent (Sl.lab 6 rfl (by first | (unfold maxLen; omega) | (rw [List.length_replicate]; unfold maxLen; omega))))) ?_))
      refine zd rfl (op_gtr rfl rfl) (zm rfl (wl_gsplit (t := 34) rfl (fun hg34 => ?_) (fun hg34 => ?_)))
      · -- 34 is True
        obtain ⟨m, hm⟩ := getE (l := low) (i := low.length - 1) (by omega)
        have hgd : low.getD (low.length - 1) 0 = m := by rw [List.getD_eq_getElem?_getD, hm]; rfl
        refine wl_wanted_det rfl rfl rfl rfl rfl rfl rfl (op_move rfl) (wl_wanted_det rfl rfl rfl rfl rfl rfl rfl (op_move rfl) (wl_wanted_det rfl rfl rfl rfl rfl rfl rfl (op_move rfl) (wl_wanted_det rfl rfl rfl rfl rfl rfl rfl (op_lenT rfl tS36uc (Sl.ent (Sl.lab 6 rfl (by first | (unfold maxLen; omega) | (rw [List.length_replicate]; unfold maxLen; omega))))) ?_)))
        refine wl_wanted_det rfl rfl rfl rfl rfl rfl rfl (op_val (v' := .int .i64 ((low.length - 1 : Nat) : Int)) (by rw [show ((low.length - 1 : Nat) : Int) = (low.length : Int) - 1 by omega]) (op_sub' rfl rfl (by omega))) ?_
        refine wl_wanted_det rfl rfl rfl rfl rfl rfl rfl (op_idx rfl rfl tS36uc (Sl.ent (Sl.lab 6 rfl (by first | (unfold maxLen; omega) | (rw [List.length_replicate]; unfold maxLen; omega)))) (by omega)) ?_
        refine wl_wanted_det rfl rfl rfl rfl rfl rfl rfl (op_ldx rfl tO3uc (Sl.lab 6 rfl (by first | (unfold maxLen; omega) | (rw [List.length_replicate]; unfold maxLen; omega))) (by assumption) (by rfl)) ?_
        refine wl_wanted_det rfl rfl rfl rfl rfl rfl rfl (op_gtr rfl rfl) (zd rfl (op_pick_t rfl rfl) (wl_nil (st_tn ?_)))
        exact cut_done1 [6, 7, 20] hK rfl (by first | (rw [decide_eq_decide]; omega) | (symm; rw [decide_eq_false_iff_not]; omega) | (symm; rw [decide_eq_true_iff]; omega) | (simp; done) | (simp; omega) | (simp [*]; done) | (simp [*]; omega)) (by rfl) rfl rfl
      · -- 34 is False
        refine wl_unwanted rfl rfl rfl rfl rfl rfl rfl rfl (wl_unwanted rfl rfl rfl rfl rfl rfl rfl rfl (wl_unwanted rfl rfl rfl rfl rfl rfl rfl rfl (wl_unwanted rfl rfl rfl rfl rfl rfl rfl rfl (wl_unwanted rfl rfl rfl rfl rfl rfl rfl rfl (wl_unwanted rfl rfl rfl rfl rfl rfl rfl rfl (wl_unwanted rfl rfl rfl rfl rfl rfl rfl rfl (wl_unwanted rfl rfl rfl rfl rfl rfl rfl rfl (zd rfl (op_pick_f rfl rfl) (wl_nil (st_tn ?_))))))))))
        exact cut_done1 [6, 7, 20] hK rfl (by first | (rw [decide_eq_decide]; omega) | (symm; rw [decide_eq_false_iff_not]; omega) | (symm; rw [decide_eq_true_iff]; omega) | (simp; done) | (simp; omega) | (simp [*]; done) | (simp [*]; omega)) (by rfl) rfl rfl
    · -- behind r8
      show W _ _ _ _ _ [(43, _), (0, _), (5, _), (6, _), (7, _), (8, _), (9, _), (10, _), (11, _)] [(6, _), (7, _), (20, _)] _
      refine w_cond_d rfl (fun hc43 => ?_) (fun hc43 => ?_)
      · -- c43.t
        refine Exists.elim (getE (l := low) (i := low.length - 1) (by omega)) (fun m hm => ?_)
        have hgd : low.getD (low.length - 1) 0 = m := by rw [List.getD_eq_getElem?_getD, hm]; rfl
        have hmx : m < x := by rw [← hgd]; exact hc43.2
        refine w_seq (w_region (zm rfl (zm rfl (wl_op [] rfl rfl rfl rfl (op_fn Tryz.func82 rfl rfl rfl (bsearchI x (Sl.lab 7 rfl (by unfold maxLen; omega)) p2 (by omega))) ?_))))
        rintro _ _ ⟨k12, b13, hk, rfl, rfl⟩
        refine zm rfl (zd rfl (op_extract rfl rfl) (zd rfl (op_extract rfl rfl) (za rfl (za rfl (wl_nil (st_tn ?_))))))
        have hcat := cat_high hh hm hmx hk
        rw [← hpc] at hcat
        have hkl := hk.le
        have hil := ins_len (x := x) hkl
        have his := ins_sum high k12 x
        refine w_region (zm rfl (zm rfl (zm rfl (wl_op [] rfl rfl rfl rfl (op_buildSlice (enc := SL.encZ) (l := [_]) (lab := 53) tL36_1uc rfl rfl (fun _ => rfl) rfl) ?_))))
        rintro _ _ ⟨a53, c53, rfl, rfl⟩
        refine wl_op [7, 53] rfl rfl rfl rfl (op_fn Tryz.func83 rfl rfl rfl (insertI k12 7 53 54 hkl (by omega))) ?_
        rintro _ _ ⟨a54, c54, rfl, rfl⟩
        refine zm rfl (zm rfl (zd rfl (op_add' rfl rfl (by omega)) ?_))
        refine za rfl (za rfl (wl_nil (st_tn (w_seq (w_seq ?_)))))
        have hs3 : low.sum = sl := hsl.symm
        have hs4 : (insA high k12 x).sum = sh + x := by rw [his, ← hsh]
        refine w_region (zm rfl (zd rfl (op_lenT rfl tS36uc (Sl.ent (Sl.lab 6 rfl (by first | (unfold maxLen; omega) | (rw [List.length_replicate]; unfold maxLen; omega))))) ?_))
        refine zm rfl (zd rfl (op_lenT rfl tS36uc (Sl.ent (Sl.lab 54 rfl (by first | (unfold maxLen; omega) | (rw [List.length_replicate]; unfold maxLen; omega))))) ?_)
        refine zd rfl (op_add' rfl rfl (by omega)) ?_
        refine zd rfl (op_gtr rfl rfl) (wl_nil (st_tn (w_cond_d rfl (fun hc77 => ?_) (fun hc77 => ?_))))
        · -- c77.t
          exfalso; omega
        · -- c77.f
          refine w_seq (w_region (zm rfl (zd rfl (op_lenT rfl tS36uc (Sl.ent (Sl.lab 6 rfl (by first | (unfold maxLen; omega) | (rw [List.length_replicate]; unfold maxLen; omega))))) ?_)))
          refine zm rfl (zd rfl (op_lenT rfl tS36uc (Sl.ent (Sl.lab 54 rfl (by first | (unfold maxLen; omega) | (rw [List.length_replicate]; unfold maxLen; omega))))) ?_)
          refine zd rfl (op_lss rfl rfl) (wl_nil (st_tn (w_cond_d rfl (fun hc103 => ?_) (fun hc103 => ?_))))
          · -- c103.t
            refine w_seq (Exists.elim (getE (l := insA high k12 x) (i := 0) (by omega)) (fun m3 hm3 => ?_))
            have hF := cat_down hcat hm3 (by omega)
            have hm3b : -1000 ≤ m3 ∧ m3 ≤ 1000 := by
              rcases ins_mem.1 (List.mem_of_getElem? hm3) with h9 | h9
              · rw [h9]; exact hxb
              · exact hbh m3 h9
            have hs4 := sum_tail hm3
            rw [his, ← hsh] at hs4
            have hdl : ((insA high k12 x).drop 1).length = (insA high k12 x).length - 1 := List.length_drop ..
            have hs3 : (low ++ [m3]).sum = sl + m3 := by rw [List.sum_append, ← hsl]; simp
            refine w_region (zm rfl (zd rfl (op_idx (i := 0) rfl rfl tS36uc (Sl.ent (Sl.lab 54 rfl (by unfold maxLen; omega))) (by omega)) ?_))
            refine zd rfl (op_ldx (i := 0) rfl tO3uc (Sl.lab 54 rfl (by unfold maxLen; omega)) hm3 (by rfl)) ?_
            refine za rfl (wl_nil (st_tn (w_seq (w_region (zm rfl (wl_op [54] rfl rfl rfl rfl (op_fn Tryz.func84 rfl rfl rfl (deleteI 54 108 (by omega) (by omega))) ?_))))))
            rintro _ _ ⟨a108, c108, rfl, rfl⟩
            refine zm rfl (zm rfl (zd rfl (op_sub' rfl rfl (by omega)) ?_))
            refine za rfl (za rfl (wl_nil (st_tn (w_region (zm rfl (zm rfl (wl_op [] rfl rfl rfl rfl (op_buildSlice (enc := SL.encZ) (l := [m3]) (lab := 114) tL36_1uc rfl rfl (fun _ => rfl) rfl) ?_)))))))
            rintro _ _ ⟨a114, c114, rfl, rfl⟩
            refine wl_op [6] rfl rfl rfl rfl (op_append (lab := 6) (lab' := 115) rfl rfl tP36uc SL.enc1Z (Sl.lab 114 rfl (by simp [maxLen])) (by first | omega | (simp; done) | (simp; omega) | (simp [*]; omega)) (by first | omega | (simp; done) | (simp; omega) | (simp [*]; omega))) ?_
            rintro _ _ ⟨a115, c115, rfl, rfl⟩
            refine zm rfl (zm rfl (zd rfl (op_add' rfl rfl (by omega)) ?_))
            refine za rfl (za rfl (wl_nil (st_tn (w_seq ?_))))
            obtain ⟨m9, hm9, hco, f1, f2, f3, f4, f5⟩ := fin_facts hb hF (by omega) ht
            refine w_region (zm rfl (zm rfl (zd rfl (op_lenT rfl tS36uc (Sl.ent (Sl.lab 115 rfl (by first | (unfold maxLen; omega) | (rw [List.length_replicate]; unfold maxLen; omega))))) ?_)))
            refine zd rfl (op_val (v' := .int .i64 (((low ++ [m3]).length - 1 : Nat) : Int)) (by rw [show (((low ++ [m3]).length - 1 : Nat) : Int) = ((low ++ [m3]).length : Int) - 1 by omega]) (op_sub' rfl rfl (by omega))) ?_
            refine zd rfl (op_idx rfl rfl tS36uc (Sl.ent (Sl.lab 115 rfl (by first | (unfold maxLen; omega) | (rw [List.length_replicate]; unfold maxLen; omega)))) (by omega)) ?_
            refine zd rfl (op_ldx rfl tO3uc (Sl.lab 115 rfl (by first | (unfold maxLen; omega) | (rw [List.length_replicate]; unfold maxLen; omega))) (by assumption) (by rfl)) ?_
            refine za rfl (wl_nil (st_tn (w_region (zm rfl (zd rfl (op_val (v' := .int .i64 ((j : Nat) : Int)) (by rw [show ((j : Nat) : Int) = ((j + 1 : Nat) : Int) - 1 by omega]) (op_move rfl)) ?_)))))
            refine zm rfl (zm rfl (zd rfl (op_lenT rfl tS36uc (Sl.ent (Sl.lab 115 rfl (by first | (unfold maxLen; omega) | (rw [List.length_replicate]; unfold maxLen; omega))))) ?_))
            refine zd rfl (op_mul' rfl rfl (by omega)) ?_
            refine zm rfl (zd rfl (op_sub' rfl rfl (by omega)) ?_)
            refine zm rfl (zd rfl (op_add' rfl rfl (by omega)) ?_)
            refine zm rfl (zm rfl (zd rfl (op_lenT rfl tS36uc (Sl.ent (Sl.lab 108 rfl (by first | (unfold maxLen; omega) | (rw [List.length_replicate]; unfold maxLen; omega))))) ?_))
            refine zd rfl (op_mul' rfl rfl (by omega)) ?_
            refine zd rfl (op_sub' rfl rfl (by omega)) ?_
            refine zd rfl (op_idx rfl rfl tS36uc (Sl.ent (Sl.lab 20 rfl (by first | (unfold maxLen; omega) | (rw [List.length_replicate]; unfold maxLen; omega)))) (by omega)) ?_
            refine wl_op0 [20] rfl rfl rfl (op_storeX (lab := 20) (j := 0) rfl rfl tO3uc rfl rfl (by rfl) (by first | assumption | (simp [*]; done)) (Nat.le_of_ble_eq_true rfl) (by rfl)) ?_
            rintro _ _ ⟨rfl, rfl⟩
            refine wl_nil (st_bn (st_tn (w_region (zd rfl (op_val (v' := .int .i64 ((j : Nat) : Int)) (by rw [show ((j : Nat) : Int) = ((j + 1 : Nat) : Int) - 1 by omega]) (op_move rfl)) ?_))))
            refine zd rfl (op_sub' rfl rfl (by omega)) ?_
            refine za rfl (wl_nil ?_)
            refine st_roundQ (x := (j + 1, out, low, a_low, c_low, high, a_high, c_high, sl, sh)) ((j, _, _, _, _, _, _, _, _, _)) [115, 108, 20] rfl (rfl) (.cons rfl (.cons rfl (.cons rfl (.cons rfl (.cons rfl (.nil _)))))) (.cons rfl (.cons rfl (.nil _))) (by
                try dsimp only
                exact ⟨⟨by omega, (congrArg (List.set out j) (show _ = segC pts j t by rw [hco, hs3, hs4])).trans (by rw [ho]; exact costs_step pts (by omega))⟩, hF, hs3.symm, hs4.symm⟩) (by
                try dsimp only
                omega)
          · -- c103.f
            refine w_skip (st_tn (w_seq ?_))
            have hF := cat_same hcat (by omega) (by omega)
            obtain ⟨m9, hm9, hco, f1, f2, f3, f4, f5⟩ := fin_facts hb hF (by omega) ht
            refine w_region (zm rfl (zm rfl (zd rfl (op_lenT rfl tS36uc (Sl.ent (Sl.lab 6 rfl (by first | (unfold maxLen; omega) | (rw [List.length_replicate]; unfold maxLen; omega))))) ?_)))
            refine zd rfl (op_val (v' := .int .i64 ((low.length - 1 : Nat) : Int)) (by rw [show ((low.length - 1 : Nat) : Int) = (low.length : Int) - 1 by omega]) (op_sub' rfl rfl (by omega))) ?_
            refine zd rfl (op_idx rfl rfl tS36uc (Sl.ent (Sl.lab 6 rfl (by first | (unfold maxLen; omega) | (rw [List.length_replicate]; unfold maxLen; omega)))) (by omega)) ?_
            refine zd rfl (op_ldx rfl tO3uc (Sl.lab 6 rfl (by first | (unfold maxLen; omega) | (rw [List.length_replicate]; unfold maxLen; omega))) (by assumption) (by rfl)) ?_
            refine za rfl (wl_nil (st_tn (w_region (zm rfl (zd rfl (op_val (v' := .int .i64 ((j : Nat) : Int)) (by rw [show ((j : Nat) : Int) = ((j + 1 : Nat) : Int) - 1 by omega]) (op_move rfl)) ?_)))))
            refine zm rfl (zm rfl (zd rfl (op_lenT rfl tS36uc (Sl.ent (Sl.lab 6 rfl (by first | (unfold maxLen; omega) | (rw [List.length_replicate]; unfold maxLen; omega))))) ?_))
            refine zd rfl (op_mul' rfl rfl (by omega)) ?_
            refine zm rfl (zd rfl (op_sub' rfl rfl (by omega)) ?_)
            refine zm rfl (zd rfl (op_add' rfl rfl (by omega)) ?_)
            refine zm rfl (zm rfl (zd rfl (op_lenT rfl tS36uc (Sl.ent (Sl.lab 54 rfl (by first | (unfold maxLen; omega) | (rw [List.length_replicate]; unfold maxLen; omega))))) ?_))
            refine zd rfl (op_mul' rfl rfl (by omega)) ?_
            refine zd rfl (op_sub' rfl rfl (by omega)) ?_
            refine zd rfl (op_idx rfl rfl tS36uc (Sl.ent (Sl.lab 20 rfl (by first | (unfold maxLen; omega) | (rw [List.length_replicate]; unfold maxLen; omega)))) (by omega)) ?_
            refine wl_op0 [20] rfl rfl rfl (op_storeX (lab := 20) (j := 0) rfl rfl tO3uc rfl rfl (by rfl) (by first | assumption | (simp [*]; done)) (Nat.le_of_ble_eq_true rfl) (by rfl)) ?_
            rintro _ _ ⟨rfl, rfl⟩
            refine wl_nil (st_bn (st_tn (w_region (zd rfl (op_val (v' := .int .i64 ((j : Nat) : Int)) (by rw [show ((j : Nat) : Int) = ((j + 1 : Nat) : Int) - 1 by omega]) (op_move rfl)) ?_))))
            refine zd rfl (op_sub' rfl rfl (by omega)) ?_
            refine za rfl (wl_nil ?_)
            refine st_roundQ (x := (j + 1, out, low, a_low, c_low, high, a_high, c_high, sl, sh)) ((j, _, _, _, _, _, _, _, _, _)) [6, 54, 20] rfl (rfl) (.cons rfl (.cons rfl (.cons rfl (.cons rfl (.cons rfl (.nil _)))))) (.cons rfl (.cons rfl (.nil _))) (by
                try dsimp only
                exact ⟨⟨by omega, (congrArg (List.set out j) (show _ = segC pts j t by rw [hco, hs3, hs4])).trans (by rw [ho]; exact costs_step pts (by omega))⟩, hF, hs3.symm, hs4.symm⟩) (by
                try dsimp only
                omega)
      · -- c43.f
        have hxm : ∀ m, low[low.length - 1]? = some m → x ≤ m := fun m hm => by
          have h9 := (List.getElem?_eq_some_iff.1 hm).1
          have hgd : low.getD (low.length - 1) 0 = m := by rw [List.getD_eq_getElem?_getD, hm]; rfl
          refine Decidable.byContradiction fun h8 => hc43 ⟨by omega, by rw [hgd]; omega⟩
        refine w_seq (w_region (zm rfl (zm rfl (wl_op [] rfl rfl rfl rfl (op_fn Tryz.func82 rfl rfl rfl (bsearchI x (Sl.lab 6 rfl (by unfold maxLen; omega)) p1 (by omega))) ?_))))
        rintro _ _ ⟨k14, b15, hk, rfl, rfl⟩
        refine zm rfl (zd rfl (op_extract rfl rfl) (zd rfl (op_extract rfl rfl) (za rfl (za rfl (wl_nil (st_tn ?_))))))
        have hcat := cat_low hh hxm hk
        rw [← hpc] at hcat
        have hkl := hk.le
        have hil := ins_len (x := x) hkl
        have his := ins_sum low k14 x
        refine w_region (zm rfl (zm rfl (zm rfl (wl_op [] rfl rfl rfl rfl (op_buildSlice (enc := SL.encZ) (l := [_]) (lab := 67) tL36_1uc rfl rfl (fun _ => rfl) rfl) ?_))))
        rintro _ _ ⟨a67, c67, rfl, rfl⟩
        refine wl_op [6, 67] rfl rfl rfl rfl (op_fn Tryz.func83 rfl rfl rfl (insertI k14 6 67 68 hkl (by omega))) ?_
        rintro _ _ ⟨a68, c68, rfl, rfl⟩
        refine zm rfl (zm rfl (zd rfl (op_add' rfl rfl (by omega)) ?_))
        refine za rfl (za rfl (wl_nil (st_tn (w_seq (w_seq ?_)))))
        have hs3 : (insA low k14 x).sum = sl + x := by rw [his, ← hsl]
        have hs4 : high.sum = sh := hsh.symm
        refine w_region (zm rfl (zd rfl (op_lenT rfl tS36uc (Sl.ent (Sl.lab 68 rfl (by first | (unfold maxLen; omega) | (rw [List.length_replicate]; unfold maxLen; omega))))) ?_))
        refine zm rfl (zd rfl (op_lenT rfl tS36uc (Sl.ent (Sl.lab 7 rfl (by first | (unfold maxLen; omega) | (rw [List.length_replicate]; unfold maxLen; omega))))) ?_)
        refine zd rfl (op_add' rfl rfl (by omega)) ?_
        refine zd rfl (op_gtr rfl rfl) (wl_nil (st_tn (w_cond_d rfl (fun hc77 => ?_) (fun hc77 => ?_))))
        · -- c77.t
          refine w_seq (Exists.elim (getE (l := insA low k14 x) (i := (insA low k14 x).length - 1) (by omega)) (fun m2 hm2 => ?_))
          have hF := cat_up hcat hm2 (by omega)
          have hm2b : -1000 ≤ m2 ∧ m2 ≤ 1000 := by
            rcases ins_mem.1 (List.mem_of_getElem? hm2) with h9 | h9
            · rw [h9]; exact hxb
            · exact hbl m2 h9
          have hs3 := sum_cut hm2
          rw [his, ← hsl] at hs3
          have hs4 := ins_sum high 0 m2
          rw [← hsh] at hs4
          have hcl9 : ((insA low k14 x).take ((insA low k14 x).length - 1)).length = (insA low k14 x).length - 1 := by rw [List.length_take]; omega
          have hil2 := ins_len (l := high) (k := 0) (x := m2) (Nat.zero_le _)
          refine w_region (zm rfl (zm rfl (zd rfl (op_lenT rfl tS36uc (Sl.ent (Sl.lab 68 rfl (by first | (unfold maxLen; omega) | (rw [List.length_replicate]; unfold maxLen; omega))))) ?_)))
          refine zd rfl (op_val (v' := .int .i64 (((insA low k14 x).length - 1 : Nat) : Int)) (by rw [show (((insA low k14 x).length - 1 : Nat) : Int) = ((insA low k14 x).length : Int) - 1 by omega]) (op_sub' rfl rfl (by omega))) ?_
          refine zd rfl (op_idx rfl rfl tS36uc (Sl.ent (Sl.lab 68 rfl (by first | (unfold maxLen; omega) | (rw [List.length_replicate]; unfold maxLen; omega)))) (by omega)) ?_
          refine zd rfl (op_ldx rfl tO3uc (Sl.lab 68 rfl (by unfold maxLen; omega)) hm2 (by rfl)) ?_
          refine za rfl (wl_nil (st_tn (w_seq (w_region (zm rfl (zm rfl (zd rfl (op_lenT rfl tS36uc (Sl.ent (Sl.lab 68 rfl (by first | (unfold maxLen; omega) | (rw [List.length_replicate]; unfold maxLen; omega))))) ?_)))))))
          refine zd rfl (op_val (v' := .int .i64 (((insA low k14 x).length - 1 : Nat) : Int)) (by rw [show (((insA low k14 x).length - 1 : Nat) : Int) = ((insA low k14 x).length : Int) - 1 by omega]) (op_sub' rfl rfl (by omega))) ?_
          refine zd rfl (op_val (v' := .slice a68 ((insA low k14 x).take ((insA low k14 x).length - 1)).length c68) (by rw [sub_zeroS, Nat.sub_zero, Nat.sub_zero, hcl9]) (op_sliceR rfl rfl tS36uc (Sl.lab 68 rfl (by first | (unfold maxLen; omega) | (rw [List.length_replicate]; unfold maxLen; omega))) (by omega))) ?_
          refine zm rfl (zm rfl (zd rfl (op_sub' rfl rfl (by omega)) ?_))
          refine za rfl (za rfl (wl_nil (st_tn (w_cls [68] (A := [(68, slW 3 SL.encZ 1 (.slice a68 (insA low k14 x).length c68) (insA low k14 x))]) (C := [(6, slW 3 SL.encZ 1 (.slice a68 ((insA low k14 x).take ((insA low k14 x).length - 1)).length c68) ((insA low k14 x).take ((insA low k14 x).length - 1)))]) (cls_cut ((insA low k14 x).length - 1) (by omega)) rfl ?_))))
          refine w_region (zm rfl (zm rfl (wl_op [] rfl rfl rfl rfl (op_buildSlice (enc := SL.encZ) (l := [_]) (lab := 94) tL36_1uc rfl rfl (fun _ => rfl) rfl) ?_)))
          rintro _ _ ⟨a94, c94, rfl, rfl⟩
          refine wl_op [7, 94] rfl rfl rfl rfl (op_fn Tryz.func83 rfl rfl rfl (insertI 0 7 94 95 (Nat.zero_le _) (by omega))) ?_
          rintro _ _ ⟨a95, c95, rfl, rfl⟩
          refine zm rfl (zm rfl (zd rfl (op_add' rfl rfl (by omega)) ?_))
          refine za rfl (za rfl (wl_nil (st_tn (w_seq ?_))))
          obtain ⟨m9, hm9, hco, f1, f2, f3, f4, f5⟩ := fin_facts hb hF (by omega) ht
          refine w_region (zm rfl (zm rfl (zd rfl (op_lenT rfl tS36uc (Sl.ent (Sl.lab 6 rfl (by unfold maxLen; omega)))) ?_)))
          refine zd rfl (op_val (v' := .int .i64 ((((insA low k14 x).take ((insA low k14 x).length - 1)).length - 1 : Nat) : Int)) (by rw [show ((((insA low k14 x).take ((insA low k14 x).length - 1)).length - 1 : Nat) : Int) = (((insA low k14 x).take ((insA low k14 x).length - 1)).length : Int) - 1 by omega]) (op_sub' rfl rfl (by omega))) ?_
          refine zd rfl (op_idx rfl rfl tS36uc (Sl.ent (Sl.lab 6 rfl (by unfold maxLen; omega))) (by omega)) ?_
          refine zd rfl (op_ldx rfl tO3uc (Sl.lab 6 rfl (by unfold maxLen; omega)) (by assumption) (by rfl)) ?_
          refine za rfl (wl_nil (st_tn (w_region (zm rfl (zd rfl (op_val (v' := .int .i64 ((j : Nat) : Int)) (by rw [show ((j : Nat) : Int) = ((j + 1 : Nat) : Int) - 1 by omega]) (op_move rfl)) ?_)))))
          refine zm rfl (zm rfl (zd rfl (op_lenT rfl tS36uc (Sl.ent (Sl.lab 6 rfl (by unfold maxLen; omega)))) ?_))
          refine zd rfl (op_mul' rfl rfl (by omega)) ?_
          refine zm rfl (zd rfl (op_sub' rfl rfl (by omega)) ?_)
          refine zm rfl (zd rfl (op_add' rfl rfl (by omega)) ?_)
          refine zm rfl (zm rfl (zd rfl (op_lenT rfl tS36uc (Sl.ent (Sl.lab 95 rfl (by first | (unfold maxLen; omega) | (rw [List.length_replicate]; unfold maxLen; omega))))) ?_))
          refine zd rfl (op_mul' rfl rfl (by omega)) ?_
          refine zd rfl (op_sub' rfl rfl (by omega)) ?_
          refine zd rfl (op_idx rfl rfl tS36uc (Sl.ent (Sl.lab 20 rfl (by first | (unfold maxLen; omega) | (rw [List.length_replicate]; unfold maxLen; omega)))) (by omega)) ?_
          refine wl_op0 [20] rfl rfl rfl (op_storeX (lab := 20) (j := 0) rfl rfl tO3uc rfl rfl (by rfl) (by first | assumption | (simp [*]; done)) (Nat.le_of_ble_eq_true rfl) (by rfl)) ?_
          rintro _ _ ⟨rfl, rfl⟩
          refine wl_nil (st_bn (st_tn (w_region (zd rfl (op_val (v' := .int .i64 ((j : Nat) : Int)) (by rw [show ((j : Nat) : Int) = ((j + 1 : Nat) : Int) - 1 by omega]) (op_move rfl)) ?_))))
          refine zd rfl (op_sub' rfl rfl (by omega)) ?_
          refine za rfl (wl_nil ?_)
          refine st_roundQ (x := (j + 1, out, low, a_low, c_low, high, a_high, c_high, sl, sh)) ((j, _, _, _, _, _, _, _, _, _)) [6, 95, 20] rfl (rfl) (.cons rfl (.cons rfl (.cons rfl (.cons rfl (.cons rfl (.nil _)))))) (.cons rfl (.cons rfl (.nil _))) (by
              try dsimp only
              exact ⟨⟨by omega, (congrArg (List.set out j) (show _ = segC pts j t by rw [hco, hs3, hs4])).trans (by rw [ho]; exact costs_step pts (by omega))⟩, hF, hs3.symm, hs4.symm⟩) (by
              try dsimp only
              omega)
        · -- c77.f
          refine w_seq (w_region (zm rfl (zd rfl (op_lenT rfl tS36uc (Sl.ent (Sl.lab 68 rfl (by first | (unfold maxLen; omega) | (rw [List.length_replicate]; unfold maxLen; omega))))) ?_)))
          refine zm rfl (zd rfl (op_lenT rfl tS36uc (Sl.ent (Sl.lab 7 rfl (by first | (unfold maxLen; omega) | (rw [List.length_replicate]; unfold maxLen; omega))))) ?_)
          refine zd rfl (op_lss rfl rfl) (wl_nil (st_tn (w_cond_d rfl (fun hc103 => ?_) (fun hc103 => ?_))))
          · -- c103.t
            exfalso; omega
          · -- c103.f
            refine w_skip (st_tn (w_seq ?_))
            have hF := cat_same hcat (by omega) (by omega)
            obtain ⟨m9, hm9, hco, f1, f2, f3, f4, f5⟩ := fin_facts hb hF (by omega) ht
            refine w_region (zm rfl (zm rfl (zd rfl (op_lenT rfl tS36uc (Sl.ent (Sl.lab 68 rfl (by first | (unfold maxLen; omega) | (rw [List.length_replicate]; unfold maxLen; omega))))) ?_)))
            refine zd rfl (op_val (v' := .int .i64 (((insA low k14 x).length - 1 : Nat) : Int)) (by rw [show (((insA low k14 x).length - 1 : Nat) : Int) = ((insA low k14 x).length : Int) - 1 by omega]) (op_sub' rfl rfl (by omega))) ?_
            refine zd rfl (op_idx rfl rfl tS36uc (Sl.ent (Sl.lab 68 rfl (by first | (unfold maxLen; omega) | (rw [List.length_replicate]; unfold maxLen; omega)))) (by omega)) ?_
            refine zd rfl (op_ldx rfl tO3uc (Sl.lab 68 rfl (by first | (unfold maxLen; omega) | (rw [List.length_replicate]; unfold maxLen; omega))) (by assumption) (by rfl)) ?_
            refine za rfl (wl_nil (st_tn (w_region (zm rfl (zd rfl (op_val (v' := .int .i64 ((j : Nat) : Int)) (by rw [show ((j : Nat) : Int) = ((j + 1 : Nat) : Int) - 1 by omega]) (op_move rfl)) ?_)))))
            refine zm rfl (zm rfl (zd rfl (op_lenT rfl tS36uc (Sl.ent (Sl.lab 68 rfl (by first | (unfold maxLen; omega) | (rw [List.length_replicate]; unfold maxLen; omega))))) ?_))
            refine zd rfl (op_mul' rfl rfl (by omega)) ?_
            refine zm rfl (zd rfl (op_sub' rfl rfl (by omega)) ?_)
            refine zm rfl (zd rfl (op_add' rfl rfl (by omega)) ?_)
            refine zm rfl (zm rfl (zd rfl (op_lenT rfl tS36uc (Sl.ent (Sl.lab 7 rfl (by first | (unfold maxLen; omega) | (rw [List.length_replicate]; unfold maxLen; omega))))) ?_))
            refine zd rfl (op_mul' rfl rfl (by omega)) ?_
            refine zd rfl (op_sub' rfl rfl (by omega)) ?_
            refine zd rfl (op_idx rfl rfl tS36uc (Sl.ent (Sl.lab 20 rfl (by first | (unfold maxLen; omega) | (rw [List.length_replicate]; unfold maxLen; omega)))) (by omega)) ?_
            refine wl_op0 [20] rfl rfl rfl (op_storeX (lab := 20) (j := 0) rfl rfl tO3uc rfl rfl (by rfl) (by first | assumption | (simp [*]; done)) (Nat.le_of_ble_eq_true rfl) (by rfl)) ?_
            rintro _ _ ⟨rfl, rfl⟩
            refine wl_nil (st_bn (st_tn (w_region (zd rfl (op_val (v' := .int .i64 ((j : Nat) : Int)) (by rw [show ((j : Nat) : Int) = ((j + 1 : Nat) : Int) - 1 by omega]) (op_move rfl)) ?_))))
            refine zd rfl (op_sub' rfl rfl (by omega)) ?_
            refine za rfl (wl_nil ?_)
            refine st_roundQ (x := (j + 1, out, low, a_low, c_low, high, a_high, c_high, sl, sh)) ((j, _, _, _, _, _, _, _, _, _)) [68, 7, 20] rfl (rfl) (.cons rfl (.cons rfl (.cons rfl (.cons rfl (.cons rfl (.nil _)))))) (.cons rfl (.cons rfl (.nil _))) (by
                try dsimp only
                exact ⟨⟨by omega, (congrArg (List.set out j) (show _ = segC pts j t by rw [hco, hs3, hs4])).trans (by rw [ho]; exact costs_step pts (by omega))⟩, hF, hs3.symm, hs4.symm⟩) (by
                try dsimp only
                omega)
  · -- c24.f
    refine w_exit (st_te ?_)
    refine st_te ?_
    refine st_be (st_tn (w_seq (w_region (zm rfl (za rfl (wl_nil (st_tn (w_ret (st_ret (vs := [_]) [20] Tryz.results69 ⟨rfl, trivial⟩ rfl ?_)))))))))
    refine ⟨[(lab, _)], rfl, ?_⟩
    have hi0 : i = 0 := by omega
    subst hi0
    have hfin : out = costsL pts t := by rw [ho]; simp
    subst hfin
    exact ⟨a20, c20, by rw [List.length_replicate, hcl]; rfl, by rw [List.length_replicate, hcl]⟩
end Go.Proofs.YtecmigildpkigaaGreat
namespace Go.Proofs.YtecmigildpkigaaGreat
open Go Go.SL Go.RowKit Go.SegP
set_option linter.unusedVariables false
set_option linter.unusedSimpArgs false
theorem tA139ud : aggB Tryz.prog 139 2 = true := by kernel_rfl
theorem tB139ud : placesB Tryz.prog 139 = some ([(0, 1), (1, 1)], [Value.int .i64 0, Value.slice none 0 0]) := by kernel_rfl
theorem tF139_0ud : fieldB Tryz.prog 139 0 0 = true := by kernel_rfl
theorem tF139_1ud : fieldB Tryz.prog 139 1 1 = true := by kernel_rfl
theorem tL36_1ud : zerosB Tryz.prog 36 3 1 1 = some [Value.int .i64 0] := by kernel_rfl
theorem tN139ud : (Tryz.prog.info? 139).bind (·.zero) = some (Value.agg #[Value.int .i64 0, Value.slice none 0 0]) := by kernel_rfl
theorem tO3ud : oneB Tryz.prog 3 = true := by kernel_rfl
theorem tO36ud : oneB Tryz.prog 36 = true := by kernel_rfl
theorem tP36ud : appB Tryz.prog 36 3 1 8 = true := by kernel_rfl
theorem tS36ud : sliceB Tryz.prog 36 3 1 = true := by kernel_rfl
theorem tZ139ud : (Tryz.prog.info? 139).map (·.size) = some 2 := by kernel_rfl
theorem tZ36ud : (Tryz.prog.info? 36).map (·.size) = some 1 := by kernel_rfl
structure BstV where
  tot : Int
  a : Option Addr
  c : Nat
  cuts : List Int
def encBst (x : BstV) : List Value := [.int .i64 x.tot, .slice x.a x.cuts.length x.c]
theorem enc1Bst : Enc1 encBst 2 := ⟨fun _ => rfl, fun a u h => by simp only [encBst, List.mem_cons, List.not_mem_nil, or_false] at h; rcases h with rfl | rfl <;> rfl⟩
def keyB (x : BstV) : BV := (x.tot, x.cuts)
def aftV (x : BstV) (s : Nat) (cost : Int) (a : Option Addr) (c : Nat) : BstV := ⟨x.tot + cost, a, c, if s > 0 then x.cuts ++ [(s : Int)] else x.cuts⟩
set_option maxHeartbeats 600000 in
set_option maxRecDepth 100000 in
theorem afterS {σ : World} {F : List Res} {x : BstV} {s : Nat} (cost : Int) (lab : Nat) (g : Sl σ F SL.encZ 1 (.slice x.a x.cuts.length x.c) x.cuts) (hl : x.cuts.length ≤ 1000) (hx : -1000000000 ≤ x.tot ∧ x.tot ≤ 1000000000) (hc : -1000000000 ≤ cost ∧ cost ≤ 1000000000) :
    FnT Tryz.prog σ F 70 [.agg (encBst x).toArray, .int .i64 s, .int .i64 cost] [] (fun u ρ => ∃ (a : Option Addr) (c : Nat), (s = 0 → a = x.a ∧ c = x.c) ∧ u = .agg (encBst (aftV x s cost a c)).toArray ∧ ρ = [(lab, slW 3 SL.encZ 1 (if s > 0 then .slice a (x.cuts.length + 1) c else .slice none 0 0) (if s > 0 then x.cuts ++ [(s : Int)] else []))]) := by
  refine fn_of 25 Tryz.func70 rfl Tryz.ntmps70 rfl ?_
  refine w_seq (w_region (wl_op [] rfl rfl rfl rfl (op_box (T := 139) (l := 3) rfl) ?_))
  rintro _ _ ⟨b3, rfl, rfl⟩
  refine wl_op [] rfl rfl rfl rfl (op_alloc (l := 6) tN139ud) ?_
  rintro _ _ ⟨b6, rfl, rfl⟩
  refine wl_nil (st_tn (w_seq (w_region (zd rfl (op_fieldAddr (off := 0) rfl tF139_0ud) (zd rfl (op_load1 rfl tO3ud (Ent.lab (l := 3) rfl (says_cel 0))) (zm rfl (zd rfl (op_add' rfl rfl (by omega)) ?_)))))))
  refine zd rfl (op_fieldAddr (off := 1) rfl tF139_1ud) (zd rfl (op_load1 rfl tO36ud (Ent.lab (l := 3) rfl (says_cel 1))) (zd rfl (op_build tB139ud rfl rfl) (wl_op [] rfl rfl rfl rfl (op_alloc (l := 7) tN139ud) ?_)))
  rintro _ _ ⟨b7, rfl, rfl⟩
  refine wl_op0 [7] rfl rfl rfl (op_store rfl rfl tZ139ud (by rfl) (by rfl) (by exact Nat.le_of_ble_eq_true rfl)) ?_
  rintro _ _ ⟨rfl, rfl⟩
  refine wl_nil (st_tn (w_seq (w_seq (w_region (zm rfl (zd rfl (op_gtr rfl rfl) (wl_nil (st_tn (w_cond_d rfl (fun hc16 => ?_) (fun hc16 => ?_))))))))))
  · -- c16.t
    refine w_region (zd rfl (op_fieldAddr (off := 1) rfl tF139_1ud) (zd rfl (op_load1 rfl tO36ud (Ent.lab (l := 3) rfl (says_cel 1))) (wl_op [] rfl rfl rfl rfl (op_fn Tryz.func33 rfl rfl rfl (cloneI 19 (g.app _) (by omega))) ?_)))
    rintro _ _ ⟨a19, c19, rfl, rfl⟩
    refine zm rfl (wl_op [] rfl rfl rfl rfl (op_buildSlice (enc := SL.encZ) (l := [(s : Int)]) (lab := 21) tL36_1ud rfl rfl (fun _ => rfl) rfl) ?_)
    rintro _ _ ⟨a21, c21, rfl, rfl⟩
    refine wl_op [19] rfl rfl rfl rfl (op_append (lab := 19) (lab' := 22) rfl rfl tP36ud SL.enc1Z (Sl.lab 21 rfl (by simp [maxLen])) (by first | omega | (simp; done) | (simp; omega) | (simp [*]; omega)) (by first | omega | (simp; done) | (simp; omega) | (simp [*]; omega))) ?_
    rintro _ _ ⟨a22, c22, rfl, rfl⟩
    refine zd rfl (op_fieldAddr (off := 1) rfl tF139_1ud) (wl_op0 [7] rfl rfl rfl (op_store rfl rfl tZ36ud (by rfl) (by rfl) (by exact Nat.le_of_ble_eq_true rfl)) ?_)
    rintro _ _ ⟨rfl, rfl⟩
    refine wl_nil (st_tn (w_seq ?_))
    have hs : s > 0 := by omega
    have hA : encBst (aftV x s cost a22 c22) = [.int .i64 (x.tot + cost), .slice a22 (x.cuts ++ [(s : Int)]).length c22] := by unfold aftV encBst; dsimp only; rw [if_pos hs]
    refine w_wk 7 (cel b7 (encBst (aftV x s cost a22 c22)) 139) rfl (fun _ h => by rw [hA]; exact h) ?_
    refine w_cls [22] (A := [(22, slW 3 SL.encZ 1 (.slice a22 (x.cuts ++ [(s : Int)]).length c22) (x.cuts ++ [(s : Int)]))]) (C := [(22, slW 3 SL.encZ 1 (if s > 0 then .slice a22 (x.cuts.length + 1) c22 else .slice none 0 0) (if s > 0 then x.cuts ++ [(s : Int)] else []))]) (fun F w h => by rw [if_pos hs, if_pos hs]; rw [List.length_append] at h; exact h) rfl ?_
    refine w_region (zd rfl (op_loadA rfl tA139ud (Ent.lab (l := 7) rfl (says_cel 0)) (Nat.le_of_ble_eq_true rfl)) (wl_op0 [6] rfl rfl rfl (op_store rfl rfl tZ139ud (by rfl) (by rfl) (by exact Nat.le_of_ble_eq_true rfl)) ?_))
    rintro _ _ ⟨rfl, rfl⟩
    refine wl_nil (st_tn (w_ret (st_ret (vs := [_]) [22] Tryz.results70 ⟨⟨_, rfl, Ent.mono (Ent.lab (l := 6) rfl (says_cel 0)) (fun _ h => run_load_agg tA139ud h (Nat.le_of_ble_eq_true rfl))⟩, trivial⟩ rfl ?_)))
    refine ⟨[(lab, _)], rfl, ?_⟩
    exact ⟨a22, c22, fun h => absurd h (by omega), rfl, rfl⟩
  · -- c16.f
    refine w_emp 22 (slO_nil 3 1) ?_
    refine w_skip (st_tn (w_seq ?_))
    have hs : ¬ s > 0 := by omega
    have hA : encBst (aftV x s cost x.a x.c) = [.int .i64 (x.tot + cost), .slice x.a x.cuts.length x.c] := by unfold aftV encBst; dsimp only; rw [if_neg hs]
    refine w_wk 7 (cel b7 (encBst (aftV x s cost x.a x.c)) 139) rfl (fun _ h => by rw [hA]; exact h) ?_
    refine w_cls [22] (A := [(22, slW 3 SL.encZ 1 (.slice none 0 0) [])]) (C := [(22, slW 3 SL.encZ 1 (if s > 0 then .slice x.a (x.cuts.length + 1) x.c else .slice none 0 0) (if s > 0 then x.cuts ++ [(s : Int)] else []))]) (fun F w h => by rw [if_neg hs, if_neg hs]; exact h) rfl ?_
    refine w_region (zd rfl (op_loadA rfl tA139ud (Ent.lab (l := 7) rfl (says_cel 0)) (Nat.le_of_ble_eq_true rfl)) (wl_op0 [6] rfl rfl rfl (op_store rfl rfl tZ139ud (by rfl) (by rfl) (by exact Nat.le_of_ble_eq_true rfl)) ?_))
    rintro _ _ ⟨rfl, rfl⟩
    refine wl_nil (st_tn (w_ret (st_ret (vs := [_]) [22] Tryz.results70 ⟨⟨_, rfl, Ent.mono (Ent.lab (l := 6) rfl (says_cel 0)) (fun _ h => run_load_agg tA139ud h (Nat.le_of_ble_eq_true rfl))⟩, trivial⟩ rfl ?_)))
    refine ⟨[(lab, _)], rfl, ?_⟩
    exact ⟨x.a, x.c, fun _ => ⟨rfl, rfl⟩, rfl, rfl⟩
set_option maxHeartbeats 600000 in
set_option maxRecDepth 100000 in
theorem betterS {σ : World} {F : List Res} {x y : BstV} (g : Sl σ F SL.encZ 1 (.slice x.a x.cuts.length x.c) x.cuts) (h : Sl σ F SL.encZ 1 (.slice y.a y.cuts.length y.c) y.cuts) :
    FnT Tryz.prog σ F 71 [.agg (encBst x).toArray, .agg (encBst y).toArray] [] (fun u ρ => u = .bool (btr (keyB x) (keyB y)) ∧ ρ = []) := by
  refine fn_of 35 Tryz.func71 rfl Tryz.ntmps71 rfl ?_
  have hle1 := g.i64
  have hle2 := h.i64
  refine w_seq (w_region (wl_op [] rfl rfl rfl rfl (op_box (T := 139) (l := 2) rfl) ?_))
  rintro _ _ ⟨b2, rfl, rfl⟩
  refine wl_op [] rfl rfl rfl rfl (op_box (T := 139) (l := 3) rfl) ?_
  rintro _ _ ⟨b3, rfl, rfl⟩
  refine za rfl (wl_nil (st_tn (w_seq (w_seq (w_region (zd rfl (op_fieldAddr (off := 0) rfl tF139_0ud) (zd rfl (op_load1 rfl tO3ud (Ent.lab (l := 2) rfl (says_cel 0))) (zd rfl (op_fieldAddr (off := 0) rfl tF139_0ud) (zd rfl (op_load1 rfl tO3ud (Ent.lab (l := 3) rfl (says_cel 0))) (zd rfl (op_neq rfl rfl) (wl_nil (st_tn (w_cond_d rfl (fun hc9 => ?_) (fun hc9 => ?_))))))))))))))
  · -- c9.t
    refine w_seq (w_region (zd rfl (op_fieldAddr (off := 0) rfl tF139_0ud) (zd rfl (op_load1 rfl tO3ud (Ent.lab (l := 2) rfl (says_cel 0))) (zd rfl (op_fieldAddr (off := 0) rfl tF139_0ud) (zd rfl (op_load1 rfl tO3ud (Ent.lab (l := 3) rfl (says_cel 0))) (zd rfl (op_lss rfl rfl) (za rfl (wl_nil (st_tn (w_ret (st_tr (st_ret (vs := [_]) [] Tryz.results71 ⟨rfl, trivial⟩ rfl ?_))))))))))))
    refine ⟨_, rfl, ?_⟩
    refine ⟨?_, rfl⟩
    unfold btr keyB; dsimp only; rw [if_pos hc9]; rfl
  · -- c9.f
    refine w_skip (st_tn (w_seq (w_seq (w_region (zd rfl (op_fieldAddr (off := 1) rfl tF139_1ud) (zd rfl (op_load1 rfl tO36ud (Ent.lab (l := 2) rfl (says_cel 1))) (zd rfl (op_lenT rfl tS36ud (Sl.ent (g.app _))) (zd rfl (op_fieldAddr (off := 1) rfl tF139_1ud) (zd rfl (op_load1 rfl tO36ud (Ent.lab (l := 3) rfl (says_cel 1))) (zd rfl (op_lenT rfl tS36ud (Sl.ent (h.app _))) (zd rfl (op_neq rfl rfl) (wl_nil (st_tn ?_)))))))))))))
    refine w_cond_d rfl (fun hc21 => ?_) (fun hc21 => ?_)
    · -- c21.t
      refine w_seq (w_region (zd rfl (op_fieldAddr (off := 1) rfl tF139_1ud) (zd rfl (op_load1 rfl tO36ud (Ent.lab (l := 2) rfl (says_cel 1))) (zd rfl (op_lenT rfl tS36ud (Sl.ent (g.app _))) (zd rfl (op_fieldAddr (off := 1) rfl tF139_1ud) (zd rfl (op_load1 rfl tO36ud (Ent.lab (l := 3) rfl (says_cel 1))) (zd rfl (op_lenT rfl tS36ud (Sl.ent (h.app _))) (zd rfl (op_lss rfl rfl) (za rfl (wl_nil (st_tn (w_ret (st_tr ?_)))))))))))))
      refine st_ret (vs := [_]) [] Tryz.results71 ⟨rfl, trivial⟩ rfl ?_
      refine ⟨_, rfl, ?_⟩
      refine ⟨?_, rfl⟩
      unfold btr keyB; dsimp only; rw [if_neg hc9, if_pos (by omega)]
      show Value.bool _ = _
      congr 1
      rw [decide_eq_decide]; omega
    · -- c21.f
      refine w_skip (st_tn (w_seq (w_region (zd rfl (op_fieldAddr (off := 1) rfl tF139_1ud) (zd rfl (op_load1 rfl tO36ud (Ent.lab (l := 2) rfl (says_cel 1))) (zd rfl (op_fieldAddr (off := 1) rfl tF139_1ud) (zd rfl (op_load1 rfl tO36ud (Ent.lab (l := 3) rfl (says_cel 1))) (zd rfl (op_fn Tryz.func77 rfl rfl rfl (cmpI (g.app _) (h.app _))) (zd rfl (op_lss rfl rfl) (za rfl (wl_nil (st_tn (w_ret ?_)))))))))))))
      refine st_ret (vs := [_]) [] Tryz.results71 ⟨rfl, trivial⟩ rfl ?_
      refine ⟨_, rfl, ?_⟩
      refine ⟨?_, rfl⟩
      unfold btr keyB; dsimp only; rw [if_neg hc9, if_neg (by omega)]; rfl
def idxZ : Option Nat → Int
  | some i => i
  | none => -1
set_option maxHeartbeats 400000 in
set_option maxRecDepth 100000 in
theorem indexFuncM {σ : World} {F : List Res} {a : Option Addr} {c : Nat} {rl : List Int} {g : Nat} {gn : Func} {fs cs : List Value} {p : Int → Bool} (h : Sl σ F SL.encZ 1 (.slice a rl.length c) rl)
    (hg : Tryz.prog.funcs[g]? = some gn) (hgb : gn.body.isSome = true) (hgn : (gn.name == "runtime.NumGoroutine") = false) (hp : ∀ (X : List Res), ∀ r ∈ rl, FnT Tryz.prog σ (X ++ F) g (fs ++ [.int .i64 r] ++ cs) [] (fun u ρ => u = .bool (p r) ∧ ρ = [])) :
    FnT Tryz.prog σ F 65 [.slice a rl.length c, .func (.func g) fs.toArray cs.toArray] [] (fun u ρ => u = .int .i64 (idxZ (rl.findIdx? p)) ∧ ρ = []) := by
  refine fn_of 19 Tryz.func65 rfl Tryz.ntmps65 rfl ?_
  have hle := h.i64
  refine w_seq (w_region (za rfl (wl_nil (st_tn (w_seq (w_seq (w_region (zm rfl (zd rfl (op_lenT rfl tS36ud (Sl.ent (by first | exact Sl.app (by assumption) _ | exact Sl.app (Sl.app (by assumption) _) _))) ?_)))))))))
  refine zm rfl (wl_nil (st_tn (w_block ?_)))
  refine w_loopQ (X := Nat) (fun z => z ≤ rl.length ∧ ∀ r ∈ rl.take z, p r = false) (fun z => [(8, .int .i64 (z))]) (fun _ => []) (fun z => rl.length - z) (0) [(0, _), (1, _), (7, _)] [] [] rfl (rfl) (.cons rfl (.nil _)) (.cons rfl (.cons rfl (.cons rfl (.nil _)))) (by
      try dsimp only
      exact ⟨Nat.zero_le _, by simp⟩) ?_
  rintro i ⟨hi, hn⟩
  refine w_norm2 (by dsimp only [List.cons_append, List.nil_append]) (by dsimp only [List.cons_append, List.nil_append]) ?_
  try dsimp only at hi hn ⊢
  refine w_seq (w_region (zd rfl (op_lss rfl rfl) (wl_nil (st_tn (w_seq (w_cond_d rfl (fun hc9 => ?_) (fun hc9 => ?_)))))))
  · -- c9.t
    obtain ⟨r, hr⟩ := getE (l := rl) (i := i) (by omega)
    have hlt := ltE hr
    refine w_skip (st_tn (w_seq (w_block (w_seq (w_region (zm rfl (za rfl (wl_nil (st_tn (w_seq (w_region (zm rfl (zm rfl ?_)))))))))))))
    refine zm rfl (zd rfl (op_idx rfl rfl tS36ud (Sl.ent (by first | exact Sl.app (by assumption) _ | exact Sl.app (Sl.app (by assumption) _) _)) (by omega)) ?_)
    refine zd rfl (op_ldx rfl tO3ud (by first | exact Sl.app (by assumption) _ | exact Sl.app (Sl.app (by assumption) _) _) (by assumption) (by rfl)) ?_
    refine zd rfl (op_fnv hg hgb hgn rfl rfl (hp _ r (List.mem_of_getElem? hr))) ?_
    refine wl_nil (st_tn (w_cond rfl (fun hc16 => ?_) (fun hc16 => ?_)))
    · -- c16.t
      refine w_seq (w_region (zm rfl (za rfl (wl_nil (st_tn (w_ret (st_br (st_tr (st_tr (st_br (st_tr (st_ret (vs := [_]) [] Tryz.results65 ⟨rfl, trivial⟩ rfl ?_))))))))))))
      refine ⟨_, rfl, ?_⟩
      refine ⟨?_, rfl⟩
      have : rl.findIdx? p = some i := by
        rw [List.findIdx?_eq_some_iff_getElem]
        obtain ⟨hlt', hge⟩ := List.getElem?_eq_some_iff.1 hr
        refine ⟨hlt', by rw [hge]; exact hc16, fun j hj => ?_⟩
        rw [hn _ (List.mem_take_iff_getElem.2 ⟨j, by omega, rfl⟩)]; simp
      rw [this]; rfl
    · -- c16.f
      refine w_skip (st_bn (st_tn (w_region (zd rfl (op_add' rfl rfl (by omega)) ?_))))
      refine zm rfl (wl_nil ?_)
      refine st_roundQ (x := i) (i + 1) [] rfl (rfl) (.cons rfl (.nil _)) (.cons rfl (.cons rfl (.cons rfl (.nil _)))) (by
          try dsimp only
          refine ⟨by omega, by rw [take_snocS hr]; intro q hq; rcases List.mem_append.1 hq with hq | hq; (· exact hn q hq); (· simp at hq; subst hq; exact hc16)⟩) (by
          try dsimp only
          omega)
  · -- c9.f
    refine w_exit (st_te ?_)
    refine st_te ?_
    refine st_be (st_tn (w_seq (w_region (za rfl (wl_nil (st_tn (w_ret (st_ret (vs := [_]) [] Tryz.results65 ⟨rfl, trivial⟩ rfl ?_))))))))
    refine ⟨_, rfl, ?_⟩
    refine ⟨?_, rfl⟩; rw [take_allS (by omega)] at hn
    have : rl.findIdx? p = none := by rw [List.findIdx?_eq_none_iff]; exact hn
    rw [this]; rfl
end Go.Proofs.YtecmigildpkigaaGreat
namespace Go.Proofs.YtecmigildpkigaaGreat
open Go Go.SL Go.RowKit Go.SegP
set_option linter.unusedVariables false
set_option linter.unusedSimpArgs false
theorem tO3ue : oneB Tryz.prog 3 = true := by kernel_rfl
theorem tS36ue : sliceB Tryz.prog 36 3 1 = true := by kernel_rfl
theorem own_addrS {a : Option Addr} {n c : Nat} {l : List Int} : Says (slW 3 SL.encZ 1 (.slice a n c) l) (fun _ => l ≠ [] → ∃ g0 : Nat, a = some ⟨g0, 0, none⟩ ∧ l.length ≤ c ∧ c ≤ maxLen) := fun m w h hs hne => by
  obtain ⟨_, _, q⟩ := Go.SL.ints_at h hs
  rcases q with ⟨_, h, _⟩ | ⟨g0, cur, h1, _, _, h2, h3, _⟩
  · exact absurd h hne
  · exact ⟨g0, h1, h2, h3⟩
theorem zero3 : ∀ i z, Tryz.prog.info? 3 = some i → i.zero = some z → z = .int .i64 0 := fun i z hi hz => by
  have h : (Tryz.prog.info? 3).bind (·.zero) = some (.int .i64 0) := by kernel_rfl
  rw [hi] at h
  simp only [Option.bind_some, hz, Option.some.injEq] at h
  exact h
theorem tPz : appB Tryz.prog 36 3 1 8 = true := by kernel_rfl
theorem filter_snoc {l : List Int} {j : Nat} {v : Int} (p : Int → Bool) (h : l[j]? = some v) : (l.take (j + 1)).filter p = (l.take j).filter p ++ (if p v = true then [v] else []) := by
  rw [take_snocS h, List.filter_append]
  congr 1
  by_cases hp : p v = true
  · simp [hp]
  · simp [hp]
theorem filter_start {l : List Int} {i : Nat} {p : Int → Bool} (h : l.findIdx? p = some i) : i < l.length ∧ (l.take (i + 1)).filter (fun x => !p x) = l.take i := by
  rw [List.findIdx?_eq_some_iff_getElem] at h
  obtain ⟨h1, h2, h3⟩ := h
  refine ⟨h1, ?_⟩
  rw [filter_snoc (v := l[i]) _ (List.getElem?_eq_getElem h1), if_neg (by simp [h2]), List.append_nil]
  rw [List.filter_eq_self]
  intro x hx
  obtain ⟨j, hj, rfl⟩ := List.mem_take_iff_getElem.1 hx
  have := h3 j (by omega)
  simpa using this
abbrev LIn := List Int
set_option maxHeartbeats 1000000 in
set_option maxRecDepth 100000 in
theorem delFuncI {σ : World} {F : List Res} {a : Option Addr} {c : Nat} {l : List Int} {g : Nat} {gn : Func} {fs cs : List Value} {p : Int → Bool} (lab : Nat) (hl : l.length ≤ 1099511627776)
    (hg : Tryz.prog.funcs[g]? = some gn) (hgb : gn.body.isSome = true) (hgn : (gn.name == "runtime.NumGoroutine") = false) (hp : ∀ (X : List Res), ∀ r ∈ l, FnT Tryz.prog σ (X ++ F) g (fs ++ [.int .i64 r] ++ cs) [] (fun u ρ => u = .bool (p r) ∧ ρ = [])) :
    FnT Tryz.prog σ F 72 [.slice a l.length c, .func (.func g) fs.toArray cs.toArray] [(600, slW 3 SL.encZ 1 (.slice a l.length c) l)] (NewI (l.filter fun x => !p x) lab) := by
  refine fn_of 42 Tryz.func72 rfl Tryz.ntmps72 rfl ?_
  refine Exists.elim (⟨_, rfl⟩ : ∃ o, o = l.findIdx? p) (fun o ho => ?_)
  refine w_seq (w_region (za rfl (wl_nil (st_tn (w_seq (w_region (zm rfl (zm rfl (zd rfl (op_fn Tryz.func65 rfl rfl rfl (fn_imp (indexFuncM (Sl.lab 600 rfl (by unfold maxLen; omega)) hg hgb hgn (fun X r hr => by have := hp (X ++ rs [(600, slW 3 SL.encZ 1 (.slice a l.length c) l)]) r hr; rwa [List.append_assoc] at this)) (fun u ρ hu => (by rw [← ho] at hu; exact hu : u = .int .i64 (idxZ o) ∧ ρ = [])))) ?_)))))))))
  refine za rfl (wl_nil (st_tn (w_seq (w_seq (w_region (zm rfl (zd rfl (op_eql rfl rfl) (wl_nil (st_tn (w_cond_d rfl (fun hc12 => ?_) (fun hc12 => ?_)))))))))))
  · -- c12.t
    have hnone : o = none := by
      cases o with
      | none => rfl
      | some i => exact absurd (show ((i : Nat) : Int) = -1 from hc12) (by omega)
    refine w_seq (w_region (zm rfl (za rfl (wl_nil (st_tn (w_ret (st_tr (st_ret (vs := [_]) [600] Tryz.results72 ⟨rfl, trivial⟩ rfl ?_))))))))
    refine ⟨[(lab, _)], rfl, ?_⟩
    have hf : l.filter (fun x => !p x) = l := by
      rw [hnone] at ho
      have := ho.symm
      rw [List.findIdx?_eq_none_iff] at this
      rw [List.filter_eq_self]
      intro x hx
      simp [this x hx]
    unfold NewI
    rw [hf]
    exact ⟨a, c, rfl, rfl⟩
  · -- c12.f
    refine Exists.elim (show ∃ i, o = some i by
        cases o with
        | none => exact absurd rfl hc12
        | some i => exact ⟨i, rfl⟩) (fun i0 hi0 => ?_)
    subst hi0
    obtain ⟨hi0l, hf0⟩ := filter_start ho.symm
    refine w_fact (Ent.lab (l := 600) rfl own_addrS) (fun hq => ?_)
    obtain ⟨g0, rfl, hlc, hcm⟩ := hq (List.ne_nil_of_length_pos (by omega))
    refine w_skip (st_tn (w_seq (w_seq (w_region (zd rfl (op_val (v' := .int .i64 ((i0 : Nat) : Int)) (by rfl) (op_move rfl)) ?_)))))
    refine zd rfl (op_add' rfl rfl (by omega)) ?_
    refine za rfl (wl_nil (st_tn (w_block ?_)))
    refine w_loopQ (X := LIn × Nat × Nat) (fun z => ((z.2.1 < z.2.2 ∧ z.2.2 ≤ l.length) ∧ z.1.length = l.length) ∧ z.1.take z.2.1 = (l.take z.2.2).filter (fun x => !p x) ∧ z.1.drop z.2.2 = l.drop z.2.2) (fun z => [(5, .int .i64 (z.2.1)), (6, .int .i64 (z.2.2))]) (fun z => [(600, slW 3 SL.encZ 1 (.slice (some ⟨g0, 0, none⟩) l.length c) (z.1))]) (fun z => l.length - z.2.2) ((l, i0, i0 + 1)) [(0, _), (1, _)] [] [600] rfl (rfl) (.cons rfl (.cons rfl (.nil _))) (.cons rfl (.cons rfl (.nil _))) (by
        try dsimp only
        exact ⟨⟨⟨by omega, by omega⟩, rfl⟩, hf0.symm, rfl⟩) ?_
    rintro ⟨m, i, j⟩ ⟨⟨hij, hml⟩, hm1, hm2⟩
    refine w_norm2 (by dsimp only [List.cons_append, List.nil_append]) (by dsimp only [List.cons_append, List.nil_append]) ?_
    try dsimp only at hij hml hm1 hm2 ⊢
    refine w_seq (w_seq (w_region (zm rfl (zm rfl (zd rfl (op_val (v' := .int .i64 ((l.length : Nat) : Int)) (by rw [hml]) (op_lenT rfl tS36ue (Sl.ent (Sl.lab 600 rfl (by rw [hml]; unfold maxLen; omega))))) ?_)))))
    refine zd rfl (op_lss rfl rfl) (wl_nil (st_tn (w_cond_d rfl (fun hc19 => ?_) (fun hc19 => ?_))))
    · -- c19.t
      obtain ⟨v, hv⟩ := getE (l := l) (i := j) (by omega)
      have hvm : m[j]? = some v := by
        have h9 : (m.drop j)[0]? = (l.drop j)[0]? := by rw [hm2]
        rw [List.getElem?_drop, List.getElem?_drop] at h9
        rw [Nat.add_zero] at h9
        rw [h9]; exact hv
      obtain ⟨w0, hw0⟩ := getE (l := m) (i := i) (by omega)
      refine w_skip (st_tn (w_seq (w_block (w_seq (w_region (zm rfl (zm rfl (zd rfl (op_idx rfl rfl tS36ue (Sl.ent (Sl.lab 600 rfl (by rw [hml]; unfold maxLen; omega))) (by omega)) ?_))))))))
      refine zd rfl (op_ldx rfl tO3ue (Sl.lab 600 rfl (by rw [hml]; unfold maxLen; omega)) hvm (by rfl)) ?_
      refine za rfl (wl_nil (st_tn (w_seq (w_region (zm rfl (zm rfl (zd rfl (op_fnv hg hgb hgn rfl rfl (fn_imp (hp _ v (List.mem_of_getElem? hv)) (fun u ρ hu => (⟨by rw [hu.1]; simp, hu.2⟩ : u = .bool (decide (p v = true)) ∧ ρ = [])))) ?_)))))))
      refine zd rfl (op_not_d rfl) (wl_nil (st_tn (w_cond_d rfl (fun hc29 => ?_) (fun hc29 => ?_))))
      · -- c29.t
        refine w_seq (w_region (zm rfl (zm rfl (zm rfl (zd rfl (op_idx rfl rfl tS36ue (Sl.ent (Sl.lab 600 rfl (by rw [hml]; unfold maxLen; omega))) (by omega)) ?_)))))
        refine wl_op0 [600] rfl rfl rfl (op_storeX (lab := 600) (j := 0) rfl rfl tO3ue rfl rfl (by rfl) (by first | assumption | (simp [*]; done)) (Nat.le_of_ble_eq_true rfl) (by rfl)) ?_
        rintro _ _ ⟨rfl, rfl⟩
        refine wl_nil (st_tn (w_region (zm rfl (zd rfl (op_add' rfl rfl (by omega)) ?_))))
        refine za rfl (wl_nil (st_bn (st_tn (w_region (zm rfl (zd rfl (op_add' rfl rfl (by omega)) ?_))))))
        refine za rfl (wl_nil ?_)
        refine st_roundQ (x := (m, i, j)) ((m.set i v, i + 1, j + 1)) [600] rfl (rfl) (.cons rfl (.cons rfl (.nil _))) (.cons rfl (.cons rfl (.nil _))) (by
            try dsimp only
            refine ⟨⟨⟨by omega, by omega⟩, by rw [List.length_set]; exact hml⟩, ?_, ?_⟩
            · rw [filter_snoc _ hv, if_pos (by simpa using hc29), ← hm1, List.take_add_one, List.getElem?_set_self (by omega), List.take_set_of_le (Nat.le_refl _)]; rfl
            · rw [List.drop_set_of_lt (by omega), ← List.drop_drop, hm2, List.drop_drop]) (by
            try dsimp only
            omega)
      · -- c29.f
        refine w_skip (st_bn (st_tn (w_region (zm rfl (zd rfl (op_add' rfl rfl (by omega)) ?_)))))
        refine za rfl (wl_nil ?_)
        refine st_roundQ (x := (m, i, j)) ((m, i, j + 1)) [600] rfl (rfl) (.cons rfl (.cons rfl (.nil _))) (.cons rfl (.cons rfl (.nil _))) (by
            try dsimp only
            refine ⟨⟨⟨by omega, by omega⟩, hml⟩, ?_, ?_⟩
            · rw [filter_snoc _ hv, if_neg (by simpa using hc29), List.append_nil, ← hm1]
            · rw [← List.drop_drop, hm2, List.drop_drop]) (by
            try dsimp only
            omega)
    · -- c19.f
      refine w_exit (st_te ?_)
      refine st_te ?_
      refine st_be (st_tn (w_seq ?_))
      have hjl : j = l.length := by omega
      rw [hjl, List.take_of_length_le (Nat.le_refl _)] at hm1
      refine w_region (zm rfl (zm rfl ?_))
      refine zd rfl (op_val (v' := .slice (some ⟨g0, i, none⟩) (l.length - i) (c - i)) (by
            have hci : ¬ c = i := by omega
            rw [hml]; simp [SL.sub, hci, Addr.add_mid]) (op_sliceL rfl rfl tS36ue (Sl.lab (l := m) 600 rfl (by rw [hml]; unfold maxLen; omega)) (by omega))) ?_
      refine wl_op0 [600] rfl rfl rfl (op_clearZ (m := i) rfl tPz hml (by omega) zero3) ?_
      rintro _ _ ⟨rfl, rfl⟩
      refine wl_nil (st_tn (w_seq ?_))
      have hlz : (m.take i ++ List.replicate (m.length - i) (0 : Int)).length = l.length := by rw [List.length_append, List.length_take, List.length_replicate]; omega
      have hmt : (m.take i ++ List.replicate (m.length - i) (0 : Int)).take i = l.filter (fun x => !p x) := by
        rw [List.take_left' (by rw [List.length_take]; omega)]; exact hm1
      have hfl : (l.filter (fun x => !p x)).length = i := by rw [← hmt, List.length_take]; omega
      refine w_region (zm rfl (zm rfl (zd rfl (op_val (v' := .slice (some ⟨g0, 0, none⟩) (l.filter (fun x => !p x)).length c) (show Value.slice (SL.sub (some ⟨g0, 0, none⟩) c 0 1) (i - 0) (c - 0) = _ by rw [sub_zeroS, Nat.sub_zero, Nat.sub_zero, hfl]) (op_sliceR (l := m.take i ++ List.replicate (m.length - i) (0 : Int)) rfl rfl tS36ue (Sl.lab 600 rfl (by unfold maxLen; omega)) (by omega))) ?_)))
      refine za rfl (wl_nil (st_tn (w_cls [600] (A := [(600, slW 3 SL.encZ 1 (.slice (some ⟨g0, 0, none⟩) l.length c) (m.take i ++ List.replicate (m.length - i) 0))]) (C := [(600, slW 3 SL.encZ 1 (.slice (some ⟨g0, 0, none⟩) ((m.take i ++ List.replicate (m.length - i) (0 : Int)).take i).length c) ((m.take i ++ List.replicate (m.length - i) (0 : Int)).take i))]) (cls_cut i (by omega)) rfl ?_)))
      rw [hmt]
      refine w_ret (st_ret (vs := [_]) [600] Tryz.results72 ⟨rfl, trivial⟩ rfl ?_)
      refine ⟨[(lab, _)], rfl, ?_⟩
      exact ⟨_, _, rfl, rfl⟩
end Go.Proofs.YtecmigildpkigaaGreat
namespace Go.Proofs.YtecmigildpkigaaGreat
open Go Go.SL Go.RowKit Go.SegP
set_option linter.unusedVariables false
set_option linter.unusedSimpArgs false
theorem tF139_0uf : fieldB Tryz.prog 139 0 0 = true := by kernel_rfl
theorem tMixuf : Tryz.prog.follows .mixedOrders = true := by kernel_rfl
theorem tO112uf : oneB Tryz.prog 112 = true := by kernel_rfl
theorem tO3uf : oneB Tryz.prog 3 = true := by kernel_rfl
theorem tO36uf : oneB Tryz.prog 36 = true := by kernel_rfl
theorem tS112uf : sliceB Tryz.prog 112 139 2 = true := by kernel_rfl
theorem tS36uf : sliceB Tryz.prog 36 3 1 = true := by kernel_rfl
abbrev PZ := List (Value × List Int)
def poolZ (P : PZ) : Res := pool 3 SL.encZ 1 P
def InZ (P : PZ) (x : BstV) : Prop := (Value.slice x.a x.cuts.length x.c, x.cuts) ∈ P
theorem InZ.sl {σ : World} {R : RL} {F : List Res} {P : PZ} {x : BstV} (h : InZ P x) (lab : Nat) (hg : getL R lab = some (poolZ P)) (hl : x.cuts.length ≤ 1000) : Sl σ (rs R ++ F) SL.encZ 1 (.slice x.a x.cuts.length x.c) x.cuts := Sl.pool lab hg h (by unfold maxLen; omega)
theorem InZ.more {P : PZ} {x : BstV} (h : InZ P x) (q : Value × List Int) : InZ (q :: P) x := List.mem_cons_of_mem _ h
theorem InZ.aft {P : PZ} {x : BstV} {s : Nat} {cost : Int} {a : Option Addr} {c : Nat} (h : InZ P x) (hs : s = 0 → a = x.a ∧ c = x.c) : InZ (((if s > 0 then Value.slice a (x.cuts.length + 1) c else .slice none 0 0), (if s > 0 then x.cuts ++ [(s : Int)] else [])) :: P) (aftV x s cost a c) := by
  unfold InZ aftV
  dsimp only
  by_cases h0 : s > 0
  · rw [if_pos h0, if_pos h0, if_pos h0, List.length_append]; exact List.mem_cons_self
  · rw [if_neg h0, if_neg h0, if_neg h0]
    obtain ⟨rfl, rfl⟩ := hs (by omega)
    exact List.mem_cons_of_mem _ h
def bst0 : BstV := ⟨0, none, 0, []⟩
theorem bst_cl (C : Nat → Nat → Int) (pen : Int) (prune : Bool) (t : Nat) : (bstN C pen prune t).2.length ≤ t := by
  cases t with
  | zero => simp [bst_zero]
  | succ t => have := cuts_len (bst_cuts C pen prune (t + 1) (by omega)).1; omega
theorem al_get {C : Nat → Nat → Int} {pen : Int} {prune : Bool} {k s : Nat} {al : List BstV} (hp : 0 ≤ pen ∧ pen ≤ 1000) (hC : ∀ s t, 0 ≤ C s t ∧ C s t ≤ 200000) (hk : k ≤ 100) (h : al.map keyB = (allN C pen prune k).1) (hs : s ≤ k) :
    ∃ x, al[s]? = some x ∧ keyB x = bstN C pen prune s ∧ (-1000 ≤ x.tot ∧ x.tot ≤ 20100000) ∧ x.cuts.length ≤ 100 := by
  have h1 := all_getS C pen prune hs
  rw [← h, List.getElem?_map] at h1
  cases hx : al[s]? with
  | none => rw [hx] at h1; simp at h1
  | some x =>
    rw [hx] at h1
    simp only [Option.map_some, Option.some.injEq] at h1
    have h2 := bst_bd hp hC prune s
    have h3 := bst_cl C pen prune s
    rw [← h1] at h2 h3
    have h2a : -1000 ≤ x.tot ∧ x.tot ≤ 201000 * s := h2
    have h3a : x.cuts.length ≤ s := h3
    exact ⟨x, rfl, h1, by omega, by omega⟩
set_option maxHeartbeats 600000 in
set_option maxRecDepth 100000 in
theorem solve1S {σ : World} {F : List Res} {q8 q12 q13 : Addr} {a8 a12 : Option Addr} {c8 c12 s : Nat} {al : List BstV} {co : List Int} {fnd x : BstV} {v : Int} (h8 : Ent σ F (At q8 [.slice a8 al.length c8])) (g8 : Sl σ F encBst 2 (.slice a8 al.length c8) al) (h12 : Ent σ F (At q12 [.slice a12 co.length c12])) (g12 : Sl σ F SL.encZ 1 (.slice a12 co.length c12) co) (h13 : Ent σ F (At q13 (encBst fnd)))
    (hx : al[s]? = some x) (hv : co[s]? = some v) (hb : -1000000000 ≤ x.tot ∧ x.tot ≤ 1000000000) (hb2 : -1000000000 ≤ v ∧ v ≤ 1000000000) :
    FnT Tryz.prog σ F 73 [.int .i64 s, .pointer (some q8), .pointer (some q12), .pointer (some q13)] [] (fun u ρ => u = .bool (decide (x.tot + v > fnd.tot)) ∧ ρ = []) := by
  refine fn_of 19 Tryz.func73 rfl Tryz.ntmps73 rfl ?_
  have hl1 := (List.getElem?_eq_some_iff.1 hx).1
  have hl2 := (List.getElem?_eq_some_iff.1 hv).1
  refine w_seq (w_region (za rfl (wl_nil (st_tn (w_seq ?_)))))
  refine w_drawW (fun β => [⟨6, [], [], [], noW (_), false, [], []⟩, ⟨7, [], [], [], noW (_), false, [], []⟩, ⟨8, [0, 1], [], [], noW (_), false, [], []⟩, ⟨9, [2], [], [], noW (_), false, [], []⟩, ⟨10, [3], [], [], noW (_), false, [], []⟩, ⟨11, [], [], [], noW (_), false, [], []⟩, ⟨12, [], [], [], noW (_), false, [], []⟩, ⟨13, [5, 6], [], [], noW (_), false, [], []⟩, ⟨14, [7], [], [], noW (_), false, [], []⟩, ⟨15, [4, 8], [], [], noW (_), false, [], []⟩, ⟨16, [], [], [], noW (_), false, [], []⟩, ⟨17, [10], [], [], noW (_), false, [], []⟩]) [] [1, 0, 2, 3] [⟨6, [], [], false, [], []⟩, ⟨7, [], [], false, [], []⟩, ⟨8, [0, 1], [], false, [], []⟩, ⟨9, [2], [], false, [], []⟩, ⟨10, [3], [], false, [], []⟩, ⟨11, [], [], false, [], []⟩, ⟨12, [], [], false, [], []⟩, ⟨13, [5, 6], [], false, [], []⟩, ⟨14, [7], [], false, [], []⟩, ⟨15, [4, 8], [], false, [], []⟩, ⟨16, [], [], false, [], []⟩, ⟨17, [10], [], false, [], []⟩] [[], [], [], [], [], [], [], [], [], [], [], []] [[], [], [], [], [], [], [], [], [], [], [], []] tMixuf (fun _ => by rfl) (fun _ => by rfl) (by kernel_rfl) (by kernel_rfl) (by rfl) (by rfl)
      (fun β => ⟨.p rfl (by intro X; exact op_load1 rfl tO112uf (Ent.app (Ent.app h8 X) _)),
      ⟨.p rfl (by intro X; exact op_move rfl),
      ⟨.p rfl (by intro X; rintro _ _ ⟨rfl, rfl⟩ _ _ ⟨rfl, rfl⟩; exact op_idx rfl rfl tS112uf (Sl.ent (Sl.app (Sl.app g8 X) _)) (by omega)),
      ⟨.p rfl (by intro X; rintro _ _ ⟨rfl, rfl⟩; exact op_fieldAddr (off := 0) rfl tF139_0uf),
      ⟨.p rfl (by intro X; rintro _ _ ⟨rfl, rfl⟩; exact op_ldxf rfl tO3uf (Sl.app (Sl.app g8 X) _) (by assumption) (by rfl)),
      ⟨.p rfl (by intro X; exact op_load1 rfl tO36uf (Ent.app (Ent.app h12 X) _)),
      ⟨.p rfl (by intro X; exact op_move rfl),
      ⟨.p rfl (by intro X; rintro _ _ ⟨rfl, rfl⟩ _ _ ⟨rfl, rfl⟩; exact op_idx rfl rfl tS36uf (Sl.ent (Sl.app (Sl.app g12 X) _)) (by omega)),
      ⟨.p rfl (by intro X; rintro _ _ ⟨rfl, rfl⟩; exact op_ldx rfl tO3uf (Sl.app (Sl.app g12 X) _) (by assumption) (by rfl)),
      ⟨.p rfl (by intro X; rintro _ _ ⟨rfl, rfl⟩ _ _ ⟨rfl, rfl⟩; exact op_add' rfl rfl (by omega)),
      ⟨.p rfl (by intro X; exact op_fieldAddr (off := 0) rfl tF139_0uf),
      ⟨.p rfl (by intro X; rintro _ _ ⟨rfl, rfl⟩; exact op_load1 rfl tO3uf (Ent.app (Ent.app (Ent.fld h13 0) X) _)),
      trivial⟩⟩⟩⟩⟩⟩⟩⟩⟩⟩⟩⟩)
      (fun β β' => ⟨fun _ => by rfl, ⟨fun _ => by rfl, ⟨fun _ => by rfl, ⟨fun _ => by rfl, ⟨fun _ => by rfl, ⟨fun _ => by rfl, ⟨fun _ => by rfl, ⟨fun _ => by rfl, ⟨fun _ => by rfl, ⟨fun _ => by rfl, ⟨fun _ => by rfl, ⟨fun _ => by rfl, trivial⟩⟩⟩⟩⟩⟩⟩⟩⟩⟩⟩⟩) ?_
  intro β
  rintro _ _ ⟨rfl, rfl⟩ _ _ ⟨rfl, rfl⟩ _ _ ⟨rfl, rfl⟩ _ _ ⟨rfl, rfl⟩ _ _ ⟨rfl, rfl⟩ _ _ ⟨rfl, rfl⟩ _ _ ⟨rfl, rfl⟩ _ _ ⟨rfl, rfl⟩ _ _ ⟨rfl, rfl⟩ _ _ ⟨rfl, rfl⟩ _ _ ⟨rfl, rfl⟩ _ _ ⟨rfl, rfl⟩
  refine wl_norm (e' := [(15, _), (17, _)]) (.cons rfl (.cons rfl (.nil _))) (by dsimp only [cond_false, cond_true, List.nil_append, List.cons_append]) ?_
  refine zd rfl (op_gtr rfl rfl) (za rfl (wl_nil (st_tn (w_ret (st_ret (vs := [_]) [] Tryz.results73 ⟨rfl, trivial⟩ rfl ?_)))))
  refine ⟨_, rfl, ?_⟩
  exact ⟨rfl, rfl⟩
end Go.Proofs.YtecmigildpkigaaGreat
namespace Go.Proofs.YtecmigildpkigaaGreat
open Go Go.SL Go.RowKit Go.SegP
set_option linter.unusedVariables false
set_option linter.unusedSimpArgs false
theorem tA139ug : aggB Tryz.prog 139 2 = true := by kernel_rfl
theorem tB139ug : placesB Tryz.prog 139 = some ([(0, 1), (1, 1)], [Value.int .i64 0, Value.slice none 0 0]) := by kernel_rfl
theorem tF139_0ug : fieldB Tryz.prog 139 0 0 = true := by kernel_rfl
theorem tL112_1ug : zerosB Tryz.prog 112 139 2 1 = some [Value.int .i64 0, Value.slice none 0 0] := by kernel_rfl
theorem tL36_1ug : zerosB Tryz.prog 36 3 1 1 = some [Value.int .i64 0] := by kernel_rfl
theorem tMixug : Tryz.prog.follows .mixedOrders = true := by kernel_rfl
theorem tN112ug : (Tryz.prog.info? 112).bind (·.zero) = some (Value.slice none 0 0) := by kernel_rfl
theorem tN139ug : (Tryz.prog.info? 139).bind (·.zero) = some (Value.agg #[Value.int .i64 0, Value.slice none 0 0]) := by kernel_rfl
theorem tN36ug : (Tryz.prog.info? 36).bind (·.zero) = some (Value.slice none 0 0) := by kernel_rfl
theorem tO112ug : oneB Tryz.prog 112 = true := by kernel_rfl
theorem tO3ug : oneB Tryz.prog 3 = true := by kernel_rfl
theorem tO36ug : oneB Tryz.prog 36 = true := by kernel_rfl
theorem tP112ug : appB Tryz.prog 112 139 2 32 = true := by kernel_rfl
theorem tP36ug : appB Tryz.prog 36 3 1 8 = true := by kernel_rfl
theorem tS112ug : sliceB Tryz.prog 112 139 2 = true := by kernel_rfl
theorem tS36ug : sliceB Tryz.prog 36 3 1 = true := by kernel_rfl
theorem tZ112ug : (Tryz.prog.info? 112).map (·.size) = some 1 := by kernel_rfl
theorem tZ139ug : (Tryz.prog.info? 139).map (·.size) = some 2 := by kernel_rfl
theorem tZ36ug : (Tryz.prog.info? 36).map (·.size) = some 1 := by kernel_rfl
theorem stp_step {all : List BV} {pen : Int} {c : Nat → Int} {s : Nat} {x fnd : BstV} (a : Option Addr) (cc : Nat) (hg : all.getD s (0, []) = keyB x) :
    stpB all pen c none s = some (keyB (aftV x s (pen + c s) a cc)) ∧
    (x.tot + pen + c s > fnd.tot → stpB all pen c (some (keyB fnd)) s = some (keyB fnd)) ∧
    (¬ x.tot + pen + c s > fnd.tot → btr (keyB (aftV x s (pen + c s) a cc)) (keyB fnd) = true → stpB all pen c (some (keyB fnd)) s = some (keyB (aftV x s (pen + c s) a cc))) ∧
    (¬ x.tot + pen + c s > fnd.tot → ¬ btr (keyB (aftV x s (pen + c s) a cc)) (keyB fnd) = true → stpB all pen c (some (keyB fnd)) s = some (keyB fnd)) := by
  unfold stpB
  rw [hg]
  refine ⟨rfl, fun h => if_pos h, fun h1 h2 => ?_, fun h1 h2 => ?_⟩
  · exact (if_neg h1).trans (if_pos h2)
  · exact (if_neg h1).trans (if_neg h2)
theorem delFuncR {σ : World} {F : List Res} {a : Option Addr} {c : Nat} {l : List Int} {g : Nat} {gn : Func} {fs cs : List Value} {p : Int → Bool} (lab0 lab : Nat) (hl : l.length ≤ 1099511627776)
    (hg : Tryz.prog.funcs[g]? = some gn) (hgb : gn.body.isSome = true) (hgn : (gn.name == "runtime.NumGoroutine") = false) (hp : ∀ (X : List Res), ∀ r ∈ l, FnT Tryz.prog σ (X ++ F) g (fs ++ [.int .i64 r] ++ cs) [] (fun u ρ => u = .bool (p r) ∧ ρ = [])) :
    FnT Tryz.prog σ F 72 [.slice a l.length c, .func (.func g) fs.toArray cs.toArray] [(lab0, slW 3 SL.encZ 1 (.slice a l.length c) l)] (NewI (l.filter fun x => !p x) lab) :=
  delFuncI lab hl hg hgb hgn hp
def prnP (al : List BstV) (co : List Int) (fnd : BstV) (z : Int) : Bool := decide ((al.getD z.toNat bst0).tot + co.getD z.toNat 0 > fnd.tot)
theorem prn_eq {al : List BstV} {co : List Int} {fnd x : BstV} {s : Nat} {v : Int} (hx : al[s]? = some x) (hv : co[s]? = some v) : prnP al co fnd ((s : Nat) : Int) = decide (x.tot + v > fnd.tot) := by
  unfold prnP
  rw [List.getD_eq_getElem?_getD, List.getD_eq_getElem?_getD, Int.toNat_natCast, hx, hv]; rfl
abbrev ofN (s : Nat) : Int := (s : Int)
set_option maxHeartbeats 4000000 in
set_option maxRecDepth 100000 in
theorem solveS {σ : World} {F : List Res} {a : Option Addr} {c : Nat} {pts : List Int} (pen : Int) (prune : Bool) (lab1 lab2 : Nat) (g : Sl σ F SL.encZ 1 (.slice a pts.length c) pts) (hb : PtsB pts) (hp : 0 ≤ pen ∧ pen ≤ 1000) :
    FnT Tryz.prog σ F 51 [.slice a pts.length c, .int .i64 pen, .bool prune] [] (fun u ρ => ∃ (al : List BstV) (P : PZ) (a' : Option Addr) (c' : Nat) (asked : Int), al.map keyB = (allN (segC pts) pen prune pts.length).1 ∧ (∀ x ∈ al, InZ P x) ∧ u = .tuple #[.slice a' al.length c', .int .i64 asked] ∧ ρ = [(lab1, slW 139 encBst 2 (.slice a' al.length c') al), (lab2, poolZ P)]) := by
  refine fn_of 94 Tryz.func51 rfl Tryz.ntmps51 rfl ?_
  have hle := hb.len
  refine w_seq (w_region (za rfl (za rfl (wl_nil (st_tn (w_seq (w_region (zm rfl (zd rfl (op_neg rfl (by omega)) ?_)))))))))
  refine zd rfl (op_build tB139ug rfl rfl) (wl_op [] rfl rfl rfl rfl (op_buildSlice (enc := encBst) (l := [⟨-pen, none, 0, []⟩]) (lab := 20) tL112_1ug rfl rfl (fun _ => rfl) rfl) ?_)
  rintro _ _ ⟨a20, c20, rfl, rfl⟩
  refine wl_op [] rfl rfl rfl rfl (op_alloc (l := 8) tN112ug) ?_
  rintro _ _ ⟨b8, rfl, rfl⟩
  refine wl_op0 [8] rfl rfl rfl (op_store rfl rfl tZ112ug (by rfl) (by rfl) (by exact Nat.le_of_ble_eq_true rfl)) ?_
  rintro _ _ ⟨rfl, rfl⟩
  refine wl_nil (st_tn (w_seq (w_region (wl_op [] rfl rfl rfl rfl (op_buildSlice (enc := SL.encZ) (l := [(0 : Int)]) (lab := 21) tL36_1ug rfl rfl (fun _ => rfl) rfl) ?_))))
  rintro _ _ ⟨a21, c21, rfl, rfl⟩
  refine za rfl (wl_nil (st_tn (w_seq (w_region (za rfl (wl_nil (st_tn (w_seq (w_seq (w_emp 605 pool_start ?_))))))))))
  refine w_region (za rfl (wl_nil (st_tn (w_block ?_))))
  refine w_loopQ (X := List BstV × Option Addr × Nat × List Int × Option Addr × Nat × Int × Nat × PZ) (fun z => (z.2.2.2.2.2.2.2.1 ≤ pts.length ∧ 0 ≤ z.2.2.2.2.2.2.1 ∧ z.2.2.2.2.2.2.1 ≤ 200 * z.2.2.2.2.2.2.2.1) ∧ z.1.map keyB = (allN (segC pts) pen prune z.2.2.2.2.2.2.2.1).1 ∧ z.2.2.2.1 = (allN (segC pts) pen prune z.2.2.2.2.2.2.2.1).2.map ofN ∧ (∀ x ∈ z.1, InZ z.2.2.2.2.2.2.2.2 x) ∧ InZ z.2.2.2.2.2.2.2.2 bst0) (fun z => [(9, .slice (z.2.2.2.2.1) (z.2.2.2.1).length (z.2.2.2.2.2.1)), (10, .int .i64 (z.2.2.2.2.2.2.1)), (11, .int .i64 (((z.2.2.2.2.2.2.2.1) + 1 : Nat) : Int))]) (fun z => [(20, slW 139 encBst 2 (.slice (z.2.1) (z.1).length (z.2.2.1)) (z.1)), (8, cel b8 [.slice (z.2.1) (z.1).length (z.2.2.1)] 112), (21, slW 3 SL.encZ 1 (.slice (z.2.2.2.2.1) (z.2.2.2.1).length (z.2.2.2.2.2.1)) (z.2.2.2.1)), (605, poolZ (z.2.2.2.2.2.2.2.2))]) (fun z => pts.length - z.2.2.2.2.2.2.2.1) ((_, _, _, _, _, _, 0, 0, [((.slice none 0 0 : Value), ([] : List Int))])) [(0, _), (1, _), (2, _), (8, _)] [] [20, 8, 21, 605] rfl (rfl) (.cons rfl (.cons rfl (.cons rfl (.nil _)))) (.cons rfl (.cons rfl (.cons rfl (.cons rfl (.nil _))))) (by
      try dsimp only
      exact ⟨⟨Nat.zero_le _, Int.le_refl _, by omega⟩, rfl, rfl, fun x hx => by rw [List.mem_singleton] at hx; subst hx; exact List.mem_singleton.2 rfl, List.mem_singleton.2 rfl⟩) ?_
  rintro ⟨al, a_al, c_al, cz, a_cz, c_cz, asked, k, P⟩ ⟨⟨hk, ha1, ha2⟩, hal, hcz, hin, hin0⟩
  refine w_norm2 (by dsimp only [List.cons_append, List.nil_append]) (by dsimp only [List.cons_append, List.nil_append]) ?_
  try dsimp only at hk ha1 ha2 hal hcz hin hin0 ⊢
  refine w_seq (w_seq (w_region (zm rfl (zm rfl (zd rfl (op_lenT rfl tS36ug (Sl.ent (g.app _))) (zd rfl (op_leq rfl rfl) (wl_nil (st_tn (w_cond_d rfl (fun hc25 => ?_) (fun hc25 => ?_))))))))))
  · -- c25.t
    have hcl : cz.length = (allN (segC pts) pen prune k).2.length := by rw [hcz, List.length_map]
    have hcl2 := cand_len (segC pts) pen prune k
    have hall : al.length = k + 1 := by have h9 := congrArg List.length hal; rw [List.length_map, all_len] at h9; exact h9
    have hcol := costs_len pts (k + 1)
    refine w_skip (st_tn (w_seq (w_block (w_seq (w_region (zm rfl (zm rfl (wl_op [] rfl rfl rfl rfl (op_fn Tryz.func69 rfl rfl rfl (costsS (t := k + 1) 30 (g.app _) hb (by omega))) ?_))))))))
    rintro _ _ ⟨a30, c30, rfl, rfl⟩
    refine wl_op [] rfl rfl rfl rfl (op_alloc (l := 12) tN36ug) ?_
    rintro _ _ ⟨b12, rfl, rfl⟩
    refine wl_op0 [12] rfl rfl rfl (op_store rfl rfl tZ36ug (by rfl) (by rfl) (by exact Nat.le_of_ble_eq_true rfl)) ?_
    rintro _ _ ⟨rfl, rfl⟩
    refine wl_nil (st_tn (w_seq (w_region (wl_op [] rfl rfl rfl rfl (op_alloc (l := 13) tN139ug) ?_))))
    rintro _ _ ⟨b13, rfl, rfl⟩
    refine wl_nil (st_tn (w_seq (w_seq (w_wk 13 (cel b13 (encBst bst0) 139) rfl (fun _ h => h) ?_))))
    refine w_region (zm rfl (zd rfl (op_lenT rfl tS36ug (Sl.ent (Sl.lab 21 rfl (by unfold maxLen; omega)))) ?_))
    refine zm rfl (wl_nil (st_tn (w_block ?_)))
    refine w_loopQ (X := Int × Nat × BstV × PZ) (fun z => (z.2.1 ≤ cz.length ∧ 0 ≤ z.1 ∧ z.1 ≤ 200 * k + z.2.1) ∧ pikB (allN (segC pts) pen prune k).1 pen (fun s => segC pts s (k + 1)) ((allN (segC pts) pen prune k).2.take z.2.1) = (if z.2.1 = 0 then none else some (keyB z.2.2.1)) ∧ (InZ z.2.2.2 z.2.2.1 ∧ z.2.2.1.cuts.length ≤ 200 ∧ -1000000000 ≤ z.2.2.1.tot ∧ z.2.2.1.tot ≤ 1000000000) ∧ (∀ x ∈ al, InZ z.2.2.2 x) ∧ InZ z.2.2.2 bst0) (fun z => [(10, .int .i64 (z.1)), (33, .int .i64 (z.2.1))]) (fun z => [(13, cel b13 (encBst (z.2.2.1)) 139), (605, poolZ (z.2.2.2))]) (fun z => cz.length - z.2.1) ((asked, 0, bst0, P)) [(0, _), (1, _), (2, _), (8, _), (9, _), (11, _), (12, _), (13, _), (31, _), (32, _)] [(8, _), (20, _), (21, _), (12, _), (30, _)] [13, 605, 8, 20, 21, 12, 30] rfl (rfl) (.cons rfl (.cons rfl (.nil _))) (.cons rfl (.cons rfl (.cons rfl (.cons rfl (.cons rfl (.cons rfl (.cons rfl (.cons rfl (.cons rfl (.cons rfl (.nil _))))))))))) (by
        try dsimp only
        exact ⟨⟨Nat.zero_le _, ha1, by omega⟩, rfl, ⟨hin0, by decide, by decide, by decide⟩, hin, hin0⟩) ?_
    rintro ⟨asked2, j, fnd, P2⟩ ⟨⟨hj, hb1, hb2⟩, hpk, hfn, hin2, hin0'⟩
    refine w_norm2 (by dsimp only [List.cons_append, List.nil_append]) (by dsimp only [List.cons_append, List.nil_append]) ?_
    try dsimp only at hj hb1 hb2 hpk hfn hin2 hin0 ⊢
    refine w_seq (w_region (zd rfl (op_lss rfl rfl) (wl_nil (st_tn (w_seq (w_cond_d rfl (fun hc34 => ?_) (fun hc34 => ?_)))))))
    · -- c34.t
      refine Exists.elim (getE (l := (allN (segC pts) pen prune k).2) (i := j) (by omega)) (fun s hs => ?_)
      have hsk := cand_sub (segC pts) pen prune k s (List.mem_of_getElem? hs)
      have hczj : cz[j]? = some ((s : Nat) : Int) := by rw [hcz, List.getElem?_map, hs]; rfl
      refine Exists.elim (al_get hp (segC_pos pts hb) (by omega) hal hsk) (fun x hxx => ?_)
      have hx := hxx.1
      have hxk := hxx.2.1
      have hxb := hxx.2.2.1
      have hxc := hxx.2.2.2
      have hco := costs_get pts (show s < k + 1 by omega)
      have hvb := segC_pos pts hb s (k + 1)
      have hgs : (allN (segC pts) pen prune k).1.getD s (0, []) = keyB x := by rw [all_bst (segC pts) pen prune hsk, hxk]
      have hxin := hin2 x (List.mem_of_getElem? hx)
      have hsn : pikB (allN (segC pts) pen prune k).1 pen (fun s => segC pts s (k + 1)) ((allN (segC pts) pen prune k).2.take (j + 1)) = stpB (allN (segC pts) pen prune k).1 pen (fun s => segC pts s (k + 1)) (pikB (allN (segC pts) pen prune k).1 pen (fun s => segC pts s (k + 1)) ((allN (segC pts) pen prune k).2.take j)) s := by rw [take_snocS hs, pik_snoc]
      have hst := fun (a : Option Addr) (cc : Nat) => stp_step (pen := pen) (c := fun s => segC pts s (k + 1)) (fnd := fnd) a cc hgs
      refine w_skip (st_tn (w_seq (w_block (w_seq (w_region (zm rfl (zd rfl (op_idx rfl rfl tS36ug (Sl.ent (Sl.lab 21 rfl (by unfold maxLen; omega))) (by omega)) ?_)))))))
      refine zd rfl (op_ldx rfl tO3ug (Sl.lab 21 rfl (by unfold maxLen; omega)) hczj (by rfl)) ?_
      refine za rfl (za rfl (wl_nil (st_tn (w_seq (w_region (zm rfl (zd rfl (op_add' rfl rfl (by omega)) ?_)))))))
      refine za rfl (wl_nil (st_tn (w_seq (w_seq (w_cutL [(58, .bool (decide (0 < j ∧ x.tot + pen + segC pts s (k + 1) > fnd.tot)))] [0, 1, 2, 8, 9, 10, 11, 12, 13, 14, 15, 31, 32, 33] [13, 605, 8, 20, 21, 12, 30] rfl (fun K' hK => ?_) ?_)))))
      · -- cut r13
        by_cases hj0 : (j : Int) > 0
        · -- hj0 True
          refine w_drawW (fun β => [⟨40, [], [], [], noW (_), false, [], []⟩, ⟨41, [0], [], [], noW (_), false, [], []⟩, ⟨42, [1], [], [], noW (_), false, [], []⟩, ⟨43, [], [], [], noW (_), false, [], []⟩, ⟨44, [], [], [], noW (_), false, [], []⟩, ⟨45, [3, 4], [], [], noW (_), false, [], []⟩, ⟨46, [5], [], [], noW (_), false, [], []⟩, ⟨47, [6], [], [], noW (_), false, [], []⟩, ⟨48, [], [], [], noW (_), false, [], []⟩, ⟨49, [7, 8], [], [], noW (_), false, [], []⟩, ⟨50, [], [], [], noW (_), false, [], []⟩, ⟨51, [], [], [], noW (_), false, [], []⟩, ⟨52, [10, 11], [], [], noW (_), false, [], []⟩, ⟨53, [12], [], [], noW (_), false, [], []⟩, ⟨54, [9, 13], [], [], noW (_), false, [], []⟩, ⟨55, [], [], [], noW (_), false, [], []⟩, ⟨56, [15], [], [], noW (_), false, [], []⟩, ⟨57, [14, 16], [], [], noW (_), false, [], []⟩, ⟨58, [2, 17], [], [], noW (_), false, [], []⟩]) [] [14, 8, 15, 1, 12, 13] [⟨40, [], [], false, [], []⟩, ⟨41, [0], [], false, [], []⟩, ⟨42, [1], [], false, [], []⟩, ⟨43, [], [], false, [], []⟩, ⟨44, [], [], false, [], []⟩, ⟨45, [3, 4], [], false, [], []⟩, ⟨46, [5], [], false, [], []⟩, ⟨47, [6], [], false, [], []⟩, ⟨48, [], [], false, [], []⟩, ⟨49, [7, 8], [], false, [], []⟩, ⟨50, [], [], false, [], []⟩, ⟨51, [], [], false, [], []⟩, ⟨52, [10, 11], [], false, [], []⟩, ⟨53, [12], [], false, [], []⟩, ⟨54, [9, 13], [], false, [], []⟩, ⟨55, [], [], false, [], []⟩, ⟨56, [15], [], false, [], []⟩, ⟨57, [14, 16], [], false, [], []⟩, ⟨58, [2, 17], [], false, [], []⟩] [[], [], [], [], [], [], [], [], [], [], [], [], [], [], [], [], [], [], []] [[], [], [], [], [], [], [], [], [], [], [], [], [], [], [], [], [], [], []] tMixug (fun _ => by rfl) (fun _ => by rfl) (by kernel_rfl) (by kernel_rfl) (by rfl) (by rfl)
              (fun β => ⟨.p rfl (by intro X; exact op_move rfl),
              ⟨.p rfl (by intro X; rintro _ _ ⟨rfl, rfl⟩; exact op_gtr rfl rfl),
              ⟨.p rfl (by intro X; rintro _ _ ⟨rfl, rfl⟩; exact op_move rfl),
              ⟨.w rfl rfl rfl (by rintro _ _ ⟨rfl, rfl⟩; first | rfl | (exact congrArg Value.bool (decide_eq_true (by omega))) | (exact congrArg Value.bool (decide_eq_false (by omega))) | (simp; done) | (simp; omega) | (simp [*]; done)) (by intro X; exact op_load1 rfl tO112ug (Ent.lab (l := 8) rfl (says_cel 0))),
              ⟨.w rfl rfl rfl (by rintro _ _ ⟨rfl, rfl⟩; first | rfl | (exact congrArg Value.bool (decide_eq_true (by omega))) | (exact congrArg Value.bool (decide_eq_false (by omega))) | (simp; done) | (simp; omega) | (simp [*]; done)) (by intro X; exact op_move rfl),
              ⟨.w rfl rfl rfl (by rintro _ _ ⟨rfl, rfl⟩; first | rfl | (exact congrArg Value.bool (decide_eq_true (by omega))) | (exact congrArg Value.bool (decide_eq_false (by omega))) | (simp; done) | (simp; omega) | (simp [*]; done)) (by intro X; rintro _ _ ⟨rfl, rfl⟩ _ _ ⟨rfl, rfl⟩; exact op_idx rfl rfl tS112ug (Sl.ent (Sl.lab 20 rfl (by unfold maxLen; omega))) (by omega)),
              ⟨.w rfl rfl rfl (by rintro _ _ ⟨rfl, rfl⟩; first | rfl | (exact congrArg Value.bool (decide_eq_true (by omega))) | (exact congrArg Value.bool (decide_eq_false (by omega))) | (simp; done) | (simp; omega) | (simp [*]; done)) (by intro X; rintro _ _ ⟨rfl, rfl⟩; exact op_fieldAddr (off := 0) rfl tF139_0ug),
              ⟨.w rfl rfl rfl (by rintro _ _ ⟨rfl, rfl⟩; first | rfl | (exact congrArg Value.bool (decide_eq_true (by omega))) | (exact congrArg Value.bool (decide_eq_false (by omega))) | (simp; done) | (simp; omega) | (simp [*]; done)) (by intro X; rintro _ _ ⟨rfl, rfl⟩; exact op_ldxf rfl tO3ug (Sl.lab 20 rfl (by unfold maxLen; omega)) (by assumption) (by rfl)),
              ⟨.w rfl rfl rfl (by rintro _ _ ⟨rfl, rfl⟩; first | rfl | (exact congrArg Value.bool (decide_eq_true (by omega))) | (exact congrArg Value.bool (decide_eq_false (by omega))) | (simp; done) | (simp; omega) | (simp [*]; done)) (by intro X; exact op_move rfl),
              ⟨.w rfl rfl rfl (by rintro _ _ ⟨rfl, rfl⟩; first | rfl | (exact congrArg Value.bool (decide_eq_true (by omega))) | (exact congrArg Value.bool (decide_eq_false (by omega))) | (simp; done) | (simp; omega) | (simp [*]; done)) (by intro X; rintro _ _ ⟨rfl, rfl⟩ _ _ ⟨rfl, rfl⟩; exact op_add' rfl rfl (by omega)),
              ⟨.w rfl rfl rfl (by rintro _ _ ⟨rfl, rfl⟩; first | rfl | (exact congrArg Value.bool (decide_eq_true (by omega))) | (exact congrArg Value.bool (decide_eq_false (by omega))) | (simp; done) | (simp; omega) | (simp [*]; done)) (by intro X; exact op_load1 rfl tO36ug (Ent.lab (l := 12) rfl (says_cel 0))),
              ⟨.w rfl rfl rfl (by rintro _ _ ⟨rfl, rfl⟩; first | rfl | (exact congrArg Value.bool (decide_eq_true (by omega))) | (exact congrArg Value.bool (decide_eq_false (by omega))) | (simp; done) | (simp; omega) | (simp [*]; done)) (by intro X; exact op_move rfl),
              ⟨.w rfl rfl rfl (by rintro _ _ ⟨rfl, rfl⟩; first | rfl | (exact congrArg Value.bool (decide_eq_true (by omega))) | (exact congrArg Value.bool (decide_eq_false (by omega))) | (simp; done) | (simp; omega) | (simp [*]; done)) (by intro X; rintro _ _ ⟨rfl, rfl⟩ _ _ ⟨rfl, rfl⟩; exact op_idx rfl rfl tS36ug (Sl.ent (Sl.lab 30 rfl (by unfold maxLen; omega))) (by omega)),
              ⟨.w rfl rfl rfl (by rintro _ _ ⟨rfl, rfl⟩; first | rfl | (exact congrArg Value.bool (decide_eq_true (by omega))) | (exact congrArg Value.bool (decide_eq_false (by omega))) | (simp; done) | (simp; omega) | (simp [*]; done)) (by intro X; rintro _ _ ⟨rfl, rfl⟩; exact op_ldx rfl tO3ug (Sl.lab 30 rfl (by unfold maxLen; omega)) (by assumption) (by rfl)),
              ⟨.w rfl rfl rfl (by rintro _ _ ⟨rfl, rfl⟩; first | rfl | (exact congrArg Value.bool (decide_eq_true (by omega))) | (exact congrArg Value.bool (decide_eq_false (by omega))) | (simp; done) | (simp; omega) | (simp [*]; done)) (by intro X; rintro _ _ ⟨rfl, rfl⟩ _ _ ⟨rfl, rfl⟩; exact op_add' rfl rfl (by omega)),
              ⟨.w rfl rfl rfl (by rintro _ _ ⟨rfl, rfl⟩; first | rfl | (exact congrArg Value.bool (decide_eq_true (by omega))) | (exact congrArg Value.bool (decide_eq_false (by omega))) | (simp; done) | (simp; omega) | (simp [*]; done)) (by intro X; exact op_fieldAddr (off := 0) rfl tF139_0ug),
              ⟨.w rfl rfl rfl (by rintro _ _ ⟨rfl, rfl⟩; first | rfl | (exact congrArg Value.bool (decide_eq_true (by omega))) | (exact congrArg Value.bool (decide_eq_false (by omega))) | (simp; done) | (simp; omega) | (simp [*]; done)) (by intro X; rintro _ _ ⟨rfl, rfl⟩; exact op_load1 rfl tO3ug (Ent.lab (l := 13) rfl (says_cel 0))),
              ⟨.w rfl rfl rfl (by rintro _ _ ⟨rfl, rfl⟩; first | rfl | (exact congrArg Value.bool (decide_eq_true (by omega))) | (exact congrArg Value.bool (decide_eq_false (by omega))) | (simp; done) | (simp; omega) | (simp [*]; done)) (by intro X; rintro _ _ ⟨rfl, rfl⟩ _ _ ⟨rfl, rfl⟩; exact op_gtr rfl rfl),
              ⟨.p rfl (by intro X; rintro _ _ ⟨rfl, rfl⟩ _ _ ⟨rfl, rfl⟩; exact op_pick_t (by first | rfl | (show some (Value.bool (decide _)) = _; rw [decide_eq_true (by omega)]) | (show some (Value.bool (decide _)) = _; rw [decide_eq_false (by omega)]) | (simp [ev, lk]; done) | (simp [ev, lk]; omega) | (simp [ev, lk, *]; done)) rfl),
              trivial⟩⟩⟩⟩⟩⟩⟩⟩⟩⟩⟩⟩⟩⟩⟩⟩⟩⟩⟩)
              (fun β β' => ⟨fun _ => by rfl, ⟨fun _ => by rfl, ⟨fun _ => by rfl, ⟨fun _ => by rfl, ⟨fun _ => by rfl, ⟨fun _ => by rfl, ⟨fun _ => by rfl, ⟨fun _ => by rfl, ⟨fun _ => by rfl, ⟨fun _ => by rfl, ⟨fun _ => by rfl, ⟨fun _ => by rfl, ⟨fun _ => by rfl, ⟨fun _ => by rfl, ⟨fun _ => by rfl, ⟨fun _ => by rfl, ⟨fun _ => by rfl, ⟨fun _ => by rfl, ⟨fun _ => by rfl, trivial⟩⟩⟩⟩⟩⟩⟩⟩⟩⟩⟩⟩⟩⟩⟩⟩⟩⟩⟩) ?_
          intro β
          rintro _ _ ⟨rfl, rfl⟩ _ _ ⟨rfl, rfl⟩ _ _ ⟨rfl, rfl⟩ _ _ ⟨rfl, rfl⟩ _ _ ⟨rfl, rfl⟩ _ _ ⟨rfl, rfl⟩ _ _ ⟨rfl, rfl⟩ _ _ ⟨rfl, rfl⟩ _ _ ⟨rfl, rfl⟩ _ _ ⟨rfl, rfl⟩ _ _ ⟨rfl, rfl⟩ _ _ ⟨rfl, rfl⟩ _ _ ⟨rfl, rfl⟩ _ _ ⟨rfl, rfl⟩ _ _ ⟨rfl, rfl⟩ _ _ ⟨rfl, rfl⟩ _ _ ⟨rfl, rfl⟩ _ _ ⟨rfl, rfl⟩ _ _ ⟨rfl, rfl⟩
          refine wl_norm (e' := [(0, _), (1, _), (2, _), (8, _), (9, _), (10, _), (11, _), (12, _), (13, _), (14, _), (15, _), (31, _), (32, _), (33, _), (58, _)]) (.cons rfl (.cons rfl (.cons rfl (.cons rfl (.cons rfl (.cons rfl (.cons rfl (.cons rfl (.cons rfl (.cons rfl (.cons rfl (.cons rfl (.cons rfl (.cons rfl (.cons rfl (.nil _)))))))))))))))) (by dsimp only [cond_false, cond_true, List.nil_append, List.cons_append]) ?_
          refine wl_nil (st_tn ?_)
          exact cut_done1 [13, 605, 8, 20, 21, 12, 30] hK rfl (by first | (rw [decide_eq_decide]; omega) | (symm; rw [decide_eq_false_iff_not]; omega) | (symm; rw [decide_eq_true_iff]; omega) | (simp; done) | (simp; omega) | (simp [*]; done) | (simp [*]; omega)) (by rfl) rfl rfl
        · -- hj0 False
          refine w_drawW (fun β => [⟨40, [], [], [], noW (_), false, [], []⟩, ⟨41, [0], [], [], noW (_), false, [], []⟩, ⟨42, [1], [], [], noW (_), false, [], []⟩, ⟨43, [], [], [], noW (Det undef), false, [], []⟩, ⟨44, [], [], [], noW (Det undef), false, [], []⟩, ⟨45, [], [], [], noW (Det undef), false, [], []⟩, ⟨46, [], [], [], noW (Det undef), false, [], []⟩, ⟨47, [], [], [], noW (Det undef), false, [], []⟩, ⟨48, [], [], [], noW (Det undef), false, [], []⟩, ⟨49, [], [], [], noW (Det undef), false, [], []⟩, ⟨50, [], [], [], noW (Det undef), false, [], []⟩, ⟨51, [], [], [], noW (Det undef), false, [], []⟩, ⟨52, [], [], [], noW (Det undef), false, [], []⟩, ⟨53, [], [], [], noW (Det undef), false, [], []⟩, ⟨54, [], [], [], noW (Det undef), false, [], []⟩, ⟨55, [], [], [], noW (Det undef), false, [], []⟩, ⟨56, [], [], [], noW (Det undef), false, [], []⟩, ⟨57, [], [], [], noW (Det undef), false, [], []⟩, ⟨58, [2, 17], [], [], noW (_), false, [], []⟩]) [] [14, 8, 15, 1, 12, 13] [⟨40, [], [], false, [], []⟩, ⟨41, [0], [], false, [], []⟩, ⟨42, [1], [], false, [], []⟩, ⟨43, [], [], false, [], []⟩, ⟨44, [], [], false, [], []⟩, ⟨45, [], [], false, [], []⟩, ⟨46, [], [], false, [], []⟩, ⟨47, [], [], false, [], []⟩, ⟨48, [], [], false, [], []⟩, ⟨49, [], [], false, [], []⟩, ⟨50, [], [], false, [], []⟩, ⟨51, [], [], false, [], []⟩, ⟨52, [], [], false, [], []⟩, ⟨53, [], [], false, [], []⟩, ⟨54, [], [], false, [], []⟩, ⟨55, [], [], false, [], []⟩, ⟨56, [], [], false, [], []⟩, ⟨57, [], [], false, [], []⟩, ⟨58, [2, 17], [], false, [], []⟩] [[], [], [], [], [], [], [], [], [], [], [], [], [], [], [], [], [], [], []] [[], [], [], [], [], [], [], [], [], [], [], [], [], [], [], [], [], [], []] tMixug (fun _ => by rfl) (fun _ => by rfl) (by kernel_rfl) (by kernel_rfl) (by rfl) (by rfl)
              (fun β => ⟨.p rfl (by intro X; exact op_move rfl),
              ⟨.p rfl (by intro X; rintro _ _ ⟨rfl, rfl⟩; exact op_gtr rfl rfl),
              ⟨.p rfl (by intro X; rintro _ _ ⟨rfl, rfl⟩; exact op_move rfl),
              ⟨.u rfl rfl rfl (by rintro _ _ ⟨rfl, rfl⟩; exact congrArg (offB true) (by first | rfl | (exact congrArg Value.bool (decide_eq_true (by omega))) | (exact congrArg Value.bool (decide_eq_false (by omega))) | (simp; done) | (simp; omega) | (simp [*]; done) : _ = Value.bool false)) ⟨rfl, rfl⟩ rfl rfl,
              ⟨.u rfl rfl rfl (by rintro _ _ ⟨rfl, rfl⟩; exact congrArg (offB true) (by first | rfl | (exact congrArg Value.bool (decide_eq_true (by omega))) | (exact congrArg Value.bool (decide_eq_false (by omega))) | (simp; done) | (simp; omega) | (simp [*]; done) : _ = Value.bool false)) ⟨rfl, rfl⟩ rfl rfl,
              ⟨.u rfl rfl rfl (by rintro _ _ ⟨rfl, rfl⟩; exact congrArg (offB true) (by first | rfl | (exact congrArg Value.bool (decide_eq_true (by omega))) | (exact congrArg Value.bool (decide_eq_false (by omega))) | (simp; done) | (simp; omega) | (simp [*]; done) : _ = Value.bool false)) ⟨rfl, rfl⟩ rfl rfl,
              ⟨.u rfl rfl rfl (by rintro _ _ ⟨rfl, rfl⟩; exact congrArg (offB true) (by first | rfl | (exact congrArg Value.bool (decide_eq_true (by omega))) | (exact congrArg Value.bool (decide_eq_false (by omega))) | (simp; done) | (simp; omega) | (simp [*]; done) : _ = Value.bool false)) ⟨rfl, rfl⟩ rfl rfl,
              ⟨.u rfl rfl rfl (by rintro _ _ ⟨rfl, rfl⟩; exact congrArg (offB true) (by first | rfl | (exact congrArg Value.bool (decide_eq_true (by omega))) | (exact congrArg Value.bool (decide_eq_false (by omega))) | (simp; done) | (simp; omega) | (simp [*]; done) : _ = Value.bool false)) ⟨rfl, rfl⟩ rfl rfl,
              ⟨.u rfl rfl rfl (by rintro _ _ ⟨rfl, rfl⟩; exact congrArg (offB true) (by first | rfl | (exact congrArg Value.bool (decide_eq_true (by omega))) | (exact congrArg Value.bool (decide_eq_false (by omega))) | (simp; done) | (simp; omega) | (simp [*]; done) : _ = Value.bool false)) ⟨rfl, rfl⟩ rfl rfl,
              ⟨.u rfl rfl rfl (by rintro _ _ ⟨rfl, rfl⟩; exact congrArg (offB true) (by first | rfl | (exact congrArg Value.bool (decide_eq_true (by omega))) | (exact congrArg Value.bool (decide_eq_false (by omega))) | (simp; done) | (simp; omega) | (simp [*]; done) : _ = Value.bool false)) ⟨rfl, rfl⟩ rfl rfl,
              ⟨.u rfl rfl rfl (by rintro _ _ ⟨rfl, rfl⟩; exact congrArg (offB true) (by first | rfl | (exact congrArg Value.bool (decide_eq_true (by omega))) | (exact congrArg Value.bool (decide_eq_false (by omega))) | (simp; done) | (simp; omega) | (simp [*]; done) : _ = Value.bool false)) ⟨rfl, rfl⟩ rfl rfl,
              ⟨.u rfl rfl rfl (by rintro _ _ ⟨rfl, rfl⟩; exact congrArg (offB true) (by first | rfl | (exact congrArg Value.bool (decide_eq_true (by omega))) | (exact congrArg Value.bool (decide_eq_false (by omega))) | (simp; done) | (simp; omega) | (simp [*]; done) : _ = Value.bool false)) ⟨rfl, rfl⟩ rfl rfl,
              ⟨.u rfl rfl rfl (by rintro _ _ ⟨rfl, rfl⟩; exact congrArg (offB true) (by first | rfl | (exact congrArg Value.bool (decide_eq_true (by omega))) | (exact congrArg Value.bool (decide_eq_false (by omega))) | (simp; done) | (simp; omega) | (simp [*]; done) : _ = Value.bool false)) ⟨rfl, rfl⟩ rfl rfl,
              ⟨.u rfl rfl rfl (by rintro _ _ ⟨rfl, rfl⟩; exact congrArg (offB true) (by first | rfl | (exact congrArg Value.bool (decide_eq_true (by omega))) | (exact congrArg Value.bool (decide_eq_false (by omega))) | (simp; done) | (simp; omega) | (simp [*]; done) : _ = Value.bool false)) ⟨rfl, rfl⟩ rfl rfl,
              ⟨.u rfl rfl rfl (by rintro _ _ ⟨rfl, rfl⟩; exact congrArg (offB true) (by first | rfl | (exact congrArg Value.bool (decide_eq_true (by omega))) | (exact congrArg Value.bool (decide_eq_false (by omega))) | (simp; done) | (simp; omega) | (simp [*]; done) : _ = Value.bool false)) ⟨rfl, rfl⟩ rfl rfl,
              ⟨.u rfl rfl rfl (by rintro _ _ ⟨rfl, rfl⟩; exact congrArg (offB true) (by first | rfl | (exact congrArg Value.bool (decide_eq_true (by omega))) | (exact congrArg Value.bool (decide_eq_false (by omega))) | (simp; done) | (simp; omega) | (simp [*]; done) : _ = Value.bool false)) ⟨rfl, rfl⟩ rfl rfl,
              ⟨.u rfl rfl rfl (by rintro _ _ ⟨rfl, rfl⟩; exact congrArg (offB true) (by first | rfl | (exact congrArg Value.bool (decide_eq_true (by omega))) | (exact congrArg Value.bool (decide_eq_false (by omega))) | (simp; done) | (simp; omega) | (simp [*]; done) : _ = Value.bool false)) ⟨rfl, rfl⟩ rfl rfl,
              ⟨.u rfl rfl rfl (by rintro _ _ ⟨rfl, rfl⟩; exact congrArg (offB true) (by first | rfl | (exact congrArg Value.bool (decide_eq_true (by omega))) | (exact congrArg Value.bool (decide_eq_false (by omega))) | (simp; done) | (simp; omega) | (simp [*]; done) : _ = Value.bool false)) ⟨rfl, rfl⟩ rfl rfl,
              ⟨.p rfl (by intro X; rintro _ _ ⟨rfl, rfl⟩ _ _ ⟨rfl, rfl⟩; exact op_pick_f (by first | rfl | (show some (Value.bool (decide _)) = _; rw [decide_eq_true (by omega)]) | (show some (Value.bool (decide _)) = _; rw [decide_eq_false (by omega)]) | (simp [ev, lk]; done) | (simp [ev, lk]; omega) | (simp [ev, lk, *]; done)) rfl),
              trivial⟩⟩⟩⟩⟩⟩⟩⟩⟩⟩⟩⟩⟩⟩⟩⟩⟩⟩⟩)
              (fun β β' => ⟨fun _ => by rfl, ⟨fun _ => by rfl, ⟨fun _ => by rfl, ⟨fun _ => by rfl, ⟨fun _ => by rfl, ⟨fun _ => by rfl, ⟨fun _ => by rfl, ⟨fun _ => by rfl, ⟨fun _ => by rfl, ⟨fun _ => by rfl, ⟨fun _ => by rfl, ⟨fun _ => by rfl, ⟨fun _ => by rfl, ⟨fun _ => by rfl, ⟨fun _ => by rfl, ⟨fun _ => by rfl, ⟨fun _ => by rfl, ⟨fun _ => by rfl, ⟨fun _ => by rfl, trivial⟩⟩⟩⟩⟩⟩⟩⟩⟩⟩⟩⟩⟩⟩⟩⟩⟩⟩⟩) ?_
          intro β
          rintro _ _ ⟨rfl, rfl⟩ _ _ ⟨rfl, rfl⟩ _ _ ⟨rfl, rfl⟩ _ _ ⟨rfl, rfl⟩ _ _ ⟨rfl, rfl⟩ _ _ ⟨rfl, rfl⟩ _ _ ⟨rfl, rfl⟩ _ _ ⟨rfl, rfl⟩ _ _ ⟨rfl, rfl⟩ _ _ ⟨rfl, rfl⟩ _ _ ⟨rfl, rfl⟩ _ _ ⟨rfl, rfl⟩ _ _ ⟨rfl, rfl⟩ _ _ ⟨rfl, rfl⟩ _ _ ⟨rfl, rfl⟩ _ _ ⟨rfl, rfl⟩ _ _ ⟨rfl, rfl⟩ _ _ ⟨rfl, rfl⟩ _ _ ⟨rfl, rfl⟩
          refine wl_norm (e' := [(0, _), (1, _), (2, _), (8, _), (9, _), (10, _), (11, _), (12, _), (13, _), (14, _), (15, _), (31, _), (32, _), (33, _), (58, _)]) (.cons rfl (.cons rfl (.cons rfl (.cons rfl (.cons rfl (.cons rfl (.cons rfl (.cons rfl (.cons rfl (.cons rfl (.cons rfl (.cons rfl (.cons rfl (.cons rfl (.cons rfl (.nil _)))))))))))))))) (by dsimp only [cond_false, cond_true, List.nil_append, List.cons_append]) ?_
          refine wl_nil (st_tn ?_)
          exact cut_done1 [13, 605, 8, 20, 21, 12, 30] hK rfl (by first | (rw [decide_eq_decide]; omega) | (symm; rw [decide_eq_false_iff_not]; omega) | (symm; rw [decide_eq_true_iff]; omega) | (simp; done) | (simp; omega) | (simp [*]; done) | (simp [*]; omega)) (by rfl) rfl rfl
      · -- behind r13
        show W _ _ _ _ _ [(58, _), (0, _), (1, _), (2, _), (8, _), (9, _), (10, _), (11, _), (12, _), (13, _), (14, _), (15, _), (31, _), (32, _), (33, _)] [(13, _), (605, _), (8, _), (20, _), (21, _), (12, _), (30, _)] _
        refine w_cond_d rfl (fun hc58 => ?_) (fun hc58 => ?_)
        · -- c58.t
          refine w_exit (st_te ?_)
          refine st_be (st_tn (w_region (zd rfl (op_add' rfl rfl (by omega)) ?_)))
          refine zm rfl (wl_nil ?_)
          refine st_roundQ (x := (asked2, j, fnd, P2)) ((asked2 + 1, j + 1, fnd, P2)) [13, 605, 8, 20, 21, 12, 30] rfl (rfl) (.cons rfl (.cons rfl (.nil _))) (.cons rfl (.cons rfl (.cons rfl (.cons rfl (.cons rfl (.cons rfl (.cons rfl (.cons rfl (.cons rfl (.cons rfl (.nil _))))))))))) (by
              try dsimp only
              exact ⟨⟨by omega, by omega, by omega⟩, by rw [hsn, hpk, if_neg (by omega), if_neg (by omega)]; exact (hst none 0).2.1 hc58.2, hfn, hin2, hin0'⟩) (by
              try dsimp only
              omega)
        · -- c58.f
          refine w_skip (st_tn (w_seq ?_))
          refine w_drawW (fun β => [⟨59, [], [], [], noW (_), false, [], []⟩, ⟨60, [], [], [], noW (_), false, [], []⟩, ⟨61, [0, 1], [], [], noW (_), false, [], []⟩, ⟨62, [2], [], [], noW (_), false, [], []⟩, ⟨63, [], [], [], noW (_), false, [], []⟩, ⟨64, [], [], [], noW (_), false, [], []⟩, ⟨65, [], [], [], noW (_), false, [], []⟩, ⟨66, [], [], [], noW (_), false, [], []⟩, ⟨67, [6, 7], [], [], noW (_), false, [], []⟩, ⟨68, [8], [], [], noW (_), false, [], []⟩, ⟨69, [5, 9], [], [], noW (_), false, [], []⟩, ⟨70, [3, 4, 10], [], [], fun w => AndW _ (DetW _ _), false, [], []⟩, ⟨16, [], [], [], fun w => DetW _ _, false, [], []⟩]) [] [8, 15, 1, 12] [⟨59, [], [], false, [], []⟩, ⟨60, [], [], false, [], []⟩, ⟨61, [0, 1], [], false, [], []⟩, ⟨62, [2], [], false, [], []⟩, ⟨63, [], [], false, [], []⟩, ⟨64, [], [], false, [], []⟩, ⟨65, [], [], false, [], []⟩, ⟨66, [], [], false, [], []⟩, ⟨67, [6, 7], [], false, [], []⟩, ⟨68, [8], [], false, [], []⟩, ⟨69, [5, 9], [], false, [], []⟩, ⟨70, [3, 4, 10], [], false, [], []⟩, ⟨16, [], [], false, [], []⟩] [[], [], [], [], [], [], [], [], [], [], [], [], []] [[], [], [], [], [], [], [], [], [], [], [], [], []] tMixug (fun _ => by rfl) (fun _ => by rfl) (by kernel_rfl) (by kernel_rfl) (by rfl) (by rfl)
              (fun β => ⟨.p rfl (by intro X; exact op_load1 rfl tO112ug (Ent.lab (l := 8) rfl (says_cel 0))),
              ⟨.p rfl (by intro X; exact op_move rfl),
              ⟨.p rfl (by intro X; rintro _ _ ⟨rfl, rfl⟩ _ _ ⟨rfl, rfl⟩; exact op_idx rfl rfl tS112ug (Sl.ent (Sl.lab 20 rfl (by unfold maxLen; omega))) (by omega)),
              ⟨.p rfl (by intro X; rintro _ _ ⟨rfl, rfl⟩; exact op_ldxA rfl tA139ug (Sl.lab 20 rfl (by unfold maxLen; omega)) (by assumption) (by rfl) (by rfl)),
              ⟨.p rfl (by intro X; exact op_move rfl),
              ⟨.p rfl (by intro X; exact op_move rfl),
              ⟨.p rfl (by intro X; exact op_load1 rfl tO36ug (Ent.lab (l := 12) rfl (says_cel 0))),
              ⟨.p rfl (by intro X; exact op_move rfl),
              ⟨.p rfl (by intro X; rintro _ _ ⟨rfl, rfl⟩ _ _ ⟨rfl, rfl⟩; exact op_idx rfl rfl tS36ug (Sl.ent (Sl.lab 30 rfl (by unfold maxLen; omega))) (by omega)),
              ⟨.p rfl (by intro X; rintro _ _ ⟨rfl, rfl⟩; exact op_ldx rfl tO3ug (Sl.lab 30 rfl (by unfold maxLen; omega)) (by assumption) (by rfl)),
              ⟨.p rfl (by intro X; rintro _ _ ⟨rfl, rfl⟩ _ _ ⟨rfl, rfl⟩; exact op_add' rfl rfl (by omega)),
              ⟨.px rfl (by intro X; rintro _ _ ⟨rfl, rfl⟩ _ _ ⟨rfl, rfl⟩ _ _ ⟨rfl, rfl⟩; refine OpT.mono (op_fn Tryz.func70 rfl rfl rfl (afterS (x := x) (s := s) (pen + segC pts s (k + 1)) 70 (hxin.sl 605 rfl (by omega)) (by omega) (by omega) (by omega))) ?_; rintro _ _ ⟨a70, c70, h70, rfl, rfl⟩; obtain ⟨w, rfl, rfl⟩ : ∃ w : Wt, w.a = a70 ∧ w.c = c70 := ⟨{ a := a70, c := c70 }, rfl, rfl⟩; exact ⟨w, h70, rfl, rfl⟩),
              ⟨.px rfl (by intro X; refine OpT.mono (op_alloc (l := 16) tN139ug) ?_; rintro _ _ ⟨b16, rfl, rfl⟩; obtain ⟨w, rfl⟩ : ∃ w : Wt, w.b = b16 := ⟨{ b := b16 }, rfl⟩; exact ⟨w, rfl, rfl⟩),
              trivial⟩⟩⟩⟩⟩⟩⟩⟩⟩⟩⟩⟩⟩)
              (fun β β' => ⟨fun _ => by rfl, ⟨fun _ => by rfl, ⟨fun _ => by rfl, ⟨fun _ => by rfl, ⟨fun _ => by rfl, ⟨fun _ => by rfl, ⟨fun _ => by rfl, ⟨fun _ => by rfl, ⟨fun _ => by rfl, ⟨fun _ => by rfl, ⟨fun _ => by rfl, ⟨fun _ => by rfl, ⟨fun _ => by rfl, trivial⟩⟩⟩⟩⟩⟩⟩⟩⟩⟩⟩⟩⟩) ?_
          intro β
          rintro _ _ ⟨rfl, rfl⟩ _ _ ⟨rfl, rfl⟩ _ _ ⟨rfl, rfl⟩ _ _ ⟨rfl, rfl⟩ _ _ ⟨rfl, rfl⟩ _ _ ⟨rfl, rfl⟩ _ _ ⟨rfl, rfl⟩ _ _ ⟨rfl, rfl⟩ _ _ ⟨rfl, rfl⟩ _ _ ⟨rfl, rfl⟩ _ _ ⟨rfl, rfl⟩ _ _ ⟨h70, rfl, rfl⟩ _ _ ⟨rfl, rfl⟩
          generalize (β 11).a = a70 at h70 ⊢
          generalize (β 11).c = c70 at h70 ⊢
          generalize (β 12).b = b16 at h70 ⊢
          refine wl_norm (e' := [(0, _), (1, _), (2, _), (8, _), (9, _), (10, _), (11, _), (12, _), (13, _), (14, _), (16, _), (31, _), (32, _), (33, _), (70, _)]) (.cons rfl (.cons rfl (.cons rfl (.cons rfl (.cons rfl (.cons rfl (.cons rfl (.cons rfl (.cons rfl (.cons rfl (.cons rfl (.cons rfl (.cons rfl (.cons rfl (.cons rfl (.nil _)))))))))))))))) (by dsimp only [cond_false, cond_true, List.nil_append, List.cons_append]) ?_
          refine wl_op0 [16] rfl rfl rfl (op_store rfl rfl tZ139ug (by rfl) (by rfl) (by exact Nat.le_of_ble_eq_true rfl)) ?_
          rintro _ _ ⟨rfl, rfl⟩
          refine wl_nil (st_tn (w_seq (w_star 70 605 605 rfl ?_)))
          refine w_wk 605 (poolZ (((if s > 0 then Value.slice a70 (x.cuts.length + 1) c70 else .slice none 0 0), (if s > 0 then x.cuts ++ [(s : Int)] else [])) :: P2)) rfl (fun _ h => h) ?_
          refine w_wk 16 (cel b16 (encBst (aftV x s (pen + segC pts s (k + 1)) a70 c70)) 139) rfl (fun _ h => h) ?_
          have hy := hxin.aft (cost := pen + segC pts s (k + 1)) h70
          have hyc : (aftV x s (pen + segC pts s (k + 1)) a70 c70).cuts.length ≤ 200 := by
            unfold aftV; dsimp only
            by_cases h0 : s > 0
            · rw [if_pos h0, List.length_append, List.length_singleton]; omega
            · rw [if_neg h0]; omega
          have hyb : -1000000000 ≤ (aftV x s (pen + segC pts s (k + 1)) a70 c70).tot ∧ (aftV x s (pen + segC pts s (k + 1)) a70 c70).tot ≤ 1000000000 := by unfold aftV; dsimp only; omega
          refine w_cutL [(77, .bool (decide (j = 0 ∨ btr (keyB (aftV x s (pen + segC pts s (k + 1)) a70 c70)) (keyB fnd) = true)))] [0, 1, 2, 8, 9, 10, 11, 12, 13, 16, 31, 32, 33] [8, 20, 21, 12, 30, 13, 16, 605] rfl (fun K' hK => ?_) ?_
          · -- cut r15
            refine w_region (zm rfl (zd rfl (op_eql rfl rfl) (zm rfl (wl_gsplit (t := 73) rfl (fun hg73 => ?_) (fun hg73 => ?_)))))
            · -- 73 is True
              refine wl_unwanted rfl rfl rfl rfl rfl rfl rfl rfl (wl_unwanted rfl rfl rfl rfl rfl rfl rfl rfl (wl_unwanted rfl rfl rfl rfl rfl rfl rfl rfl (zd rfl (op_pick_t rfl rfl) (wl_nil (st_tn ?_)))))
              exact cut_done1 [8, 20, 21, 12, 30, 13, 16, 605] hK rfl (by first | (symm; rw [decide_eq_true_iff]; exact .inl (by omega)) | (simp [show ¬ j = 0 by omega]; done)) (by rfl) rfl rfl
            · -- 73 is False
              refine wl_wanted_det rfl rfl rfl rfl rfl rfl rfl (op_loadA rfl tA139ug (Ent.lab (l := 16) rfl (says_cel 0)) (Nat.le_of_ble_eq_true rfl)) (wl_wanted_det rfl rfl rfl rfl rfl rfl rfl (op_loadA rfl tA139ug (Ent.lab (l := 13) rfl (says_cel 0)) (Nat.le_of_ble_eq_true rfl)) (wl_wanted_det rfl rfl rfl rfl rfl rfl rfl (op_fn Tryz.func71 rfl rfl rfl (betterS (hy.sl 605 rfl (by omega)) ((hfn.1.more _).sl 605 rfl (by omega)))) ?_))
              refine zd rfl (op_pick_f rfl rfl) (wl_nil (st_tn ?_))
              exact cut_done1 [8, 20, 21, 12, 30, 13, 16, 605] hK rfl (by first | (symm; rw [decide_eq_true_iff]; exact .inl (by omega)) | (simp [show ¬ j = 0 by omega]; done)) (by rfl) rfl rfl
          · -- behind r15
            show W _ _ _ _ _ [(77, _), (0, _), (1, _), (2, _), (8, _), (9, _), (10, _), (11, _), (12, _), (13, _), (16, _), (31, _), (32, _), (33, _)] [(8, _), (20, _), (21, _), (12, _), (30, _), (13, _), (16, _), (605, _)] _
            refine w_cond_d rfl (fun hc77 => ?_) (fun hc77 => ?_)
            · -- c77.t
              refine w_region (zd rfl (op_loadA rfl tA139ug (Ent.lab (l := 16) rfl (says_cel 0)) (Nat.le_of_ble_eq_true rfl)) (wl_op0 [13] rfl rfl rfl (op_store rfl rfl tZ139ug (by rfl) (by rfl) (by exact Nat.le_of_ble_eq_true rfl)) ?_))
              rintro _ _ ⟨rfl, rfl⟩
              refine wl_nil (st_bn (st_tn (w_wk 13 (cel b13 (encBst (aftV x s (pen + segC pts s (k + 1)) a70 c70)) 139) rfl (fun _ h => h) ?_)))
              refine w_region (zd rfl (op_add' rfl rfl (by omega)) ?_)
              refine zm rfl (wl_nil ?_)
              refine st_roundQ (x := (asked2, j, fnd, P2)) ((asked2 + 1, j + 1, aftV x s (pen + segC pts s (k + 1)) a70 c70, ((if s > 0 then Value.slice a70 (x.cuts.length + 1) c70 else .slice none 0 0), (if s > 0 then x.cuts ++ [(s : Int)] else [])) :: P2)) [13, 605, 8, 20, 21, 12, 30] rfl (rfl) (.cons rfl (.cons rfl (.nil _))) (.cons rfl (.cons rfl (.cons rfl (.cons rfl (.cons rfl (.cons rfl (.cons rfl (.cons rfl (.cons rfl (.cons rfl (.nil _))))))))))) (by
                  try dsimp only
                  refine ⟨⟨by omega, by omega, by omega⟩, ?_, ⟨hy, hyc, hyb⟩, fun x hx => (hin2 x hx).more _, hin0'.more _⟩
                  rw [hsn, hpk, if_neg (show ¬ j + 1 = 0 by omega)]
                  by_cases hj0 : j = 0
                  · rw [if_pos hj0]; exact (hst a70 c70).1
                  · rw [if_neg hj0]; exact (hst a70 c70).2.2.1 (fun h => hc58 ⟨by omega, h⟩) (hc77.resolve_left hj0)) (by
                  try dsimp only
                  omega)
            · -- c77.f
              refine w_skip (st_bn (st_tn (w_region (zd rfl (op_add' rfl rfl (by omega)) ?_))))
              refine zm rfl (wl_nil ?_)
              refine st_roundQ (x := (asked2, j, fnd, P2)) ((asked2 + 1, j + 1, fnd, ((if s > 0 then Value.slice a70 (x.cuts.length + 1) c70 else .slice none 0 0), (if s > 0 then x.cuts ++ [(s : Int)] else [])) :: P2)) [13, 605, 8, 20, 21, 12, 30] rfl (rfl) (.cons rfl (.cons rfl (.nil _))) (.cons rfl (.cons rfl (.cons rfl (.cons rfl (.cons rfl (.cons rfl (.cons rfl (.cons rfl (.cons rfl (.cons rfl (.nil _))))))))))) (by
                  try dsimp only
                  refine ⟨⟨by omega, by omega, by omega⟩, ?_, ⟨hfn.1.more _, hfn.2⟩, fun x hx => (hin2 x hx).more _, hin0'.more _⟩
                  have hj0 : ¬ j = 0 := fun h => hc77 (.inl h)
                  rw [hsn, hpk, if_neg (show ¬ j + 1 = 0 by omega), if_neg hj0]
                  exact (hst a70 c70).2.2.2 (fun h => hc58 ⟨by omega, h⟩) (fun h => hc77 (.inr h))) (by
                  try dsimp only
                  omega)
    · -- c34.f
      refine w_exit (st_te ?_)
      refine st_te ?_
      refine st_be (st_tn (w_seq ?_))
      have hjn : j = (allN (segC pts) pen prune k).2.length := by omega
      have hjp : 0 < (allN (segC pts) pen prune k).2.length := List.length_pos_of_mem (cand_last (segC pts) pen prune k)
      rw [hjn, List.take_of_length_le (Nat.le_refl _), if_neg (by omega)] at hpk
      have hfnd : fndN (segC pts) pen prune k = keyB fnd := by unfold fndN; rw [hpk]; rfl
      have hal2 : (al ++ [fnd]).map keyB = (allN (segC pts) pen prune (k + 1)).1 := by rw [List.map_append, hal, all_succ, hfnd]; rfl
      have hin3 : ∀ x ∈ al ++ [fnd], InZ P2 x := fun x hx => by
        rcases List.mem_append.1 hx with hx | hx
        · exact hin2 x hx
        · rw [List.mem_singleton] at hx; subst hx; exact hfn.1
      clear hin2
      have hin2 := hin3
      refine w_region (zd rfl (op_load1 rfl tO112ug (Ent.lab (l := 8) rfl (says_cel 0))) (zd rfl (op_loadA rfl tA139ug (Ent.lab (l := 13) rfl (says_cel 0)) (Nat.le_of_ble_eq_true rfl)) (wl_op [] rfl rfl rfl rfl (op_buildSlice (enc := encBst) (l := [fnd]) (lab := 82) tL112_1ug rfl rfl (fun _ => rfl) rfl) ?_)))
      rintro _ _ ⟨a82, c82, rfl, rfl⟩
      refine wl_op [20] rfl rfl rfl rfl (op_append (lab := 20) (lab' := 83) rfl rfl tP112ug enc1Bst (Sl.lab 82 rfl (by simp [maxLen])) (by first | omega | (simp; done) | (simp; omega) | (simp [*]; omega)) (by first | omega | (simp; done) | (simp; omega) | (simp [*]; omega))) ?_
      rintro _ _ ⟨a83, c83, rfl, rfl⟩
      refine wl_op0 [8] rfl rfl rfl (op_store rfl rfl tZ112ug (by rfl) (by rfl) (by exact Nat.le_of_ble_eq_true rfl)) ?_
      rintro _ _ ⟨rfl, rfl⟩
      refine wl_nil (st_tn (w_seq (w_seq (w_wk 8 (cel b8 [.slice a83 (al ++ [fnd]).length c83] 112) rfl (fun _ h => h) ?_))))
      refine w_region (zm rfl (wl_nil (st_tn (w_cond rfl (fun hc84 => ?_) (fun hc84 => ?_)))))
      · -- c84.t
        refine w_region (zm rfl (zd rfl (op_makeFunc rfl rfl) ?_))
        refine wl_op [21] rfl rfl rfl rfl (op_fn Tryz.func72 rfl rfl rfl (delFuncR (fs := []) (cs := [.pointer (some ⟨b8, 0, none⟩), .pointer (some ⟨b12, 0, none⟩), .pointer (some ⟨b13, 0, none⟩)]) (p := prnP (al ++ [fnd]) (costsL pts (k + 1)) fnd) 21 87 (by omega) Tryz.func73 rfl rfl (fun X r hr => by
  rw [hcz] at hr
  obtain ⟨s, hs, rfl⟩ := List.mem_map.1 hr
  have hsk := cand_sub (segC pts) pen prune k s hs
  obtain ⟨x, hx, hxk, hxb, hxc⟩ := al_get hp (segC_pos pts hb) (by omega) hal hsk
  have hco := costs_get pts (show s < k + 1 by omega)
  have hvb := segC_pos pts hb s (k + 1)
  have hx2 : (al ++ [fnd])[s]? = some x := by rw [List.getElem?_append_left (by omega)]; exact hx
  rw [show prnP (al ++ [fnd]) (costsL pts (k + 1)) fnd (ofN s) = decide (x.tot + segC pts s (k + 1) > fnd.tot) from prn_eq hx2 hco]
  exact solve1S (q8 := ⟨b8, 0, none⟩) (q12 := ⟨b12, 0, none⟩) (q13 := ⟨b13, 0, none⟩) (Ent.app (Ent.lab (l := 8) rfl (says_cel 0)) X) (Sl.app (Sl.lab 83 rfl (by rw [List.length_append, List.length_singleton]; unfold maxLen; omega)) X) (Ent.app (Ent.lab (l := 12) rfl (says_cel 0)) X) (Sl.app (Sl.lab 30 rfl (by unfold maxLen; omega)) X) (Ent.app (Ent.lab (l := 13) rfl (says_cel 0)) X) hx2 hco (by omega) (by omega)))) ?_
        rintro _ _ ⟨a87, c87, rfl, rfl⟩
        refine za rfl (wl_nil (st_tn ?_))
        have hcz2 : (cz.filter fun x => !prnP (al ++ [fnd]) (costsL pts (k + 1)) fnd x) ++ [((k + 1 : Nat) : Int)] = (allN (segC pts) pen prune (k + 1)).2.map ofN := by
          rw [cand_succ, if_pos hc84, List.map_append, hcz, List.filter_map]
          refine congrArg (fun q => List.map ofN q ++ [((k + 1 : Nat) : Int)]) (List.filter_congr fun s hs => ?_)
          have hsk := cand_sub (segC pts) pen prune k s hs
          obtain ⟨x, hx, hxk, hxb, hxc⟩ := al_get hp (segC_pos pts hb) (by omega) hal hsk
          have hco := costs_get pts (show s < k + 1 by omega)
          have hx2 : (al ++ [fnd])[s]? = some x := by rw [List.getElem?_append_left (by omega)]; exact hx
          show (!prnP (al ++ [fnd]) (costsL pts (k + 1)) fnd (ofN s)) = _
          rw [prn_eq hx2 hco, all_bst (segC pts) pen prune hsk, ← hxk, hfnd]; rfl
        have hfl := List.length_filter_le (fun x => !prnP (al ++ [fnd]) (costsL pts (k + 1)) fnd x) cz
        refine w_region (zm rfl (zm rfl (wl_op [] rfl rfl rfl rfl (op_buildSlice (enc := SL.encZ) (l := [((k + 1 : Nat) : Int)]) (lab := 90) tL36_1ug rfl rfl (fun _ => rfl) rfl) ?_)))
        rintro _ _ ⟨a90, c90, rfl, rfl⟩
        refine wl_op [87] rfl rfl rfl rfl (op_append (lab := 87) (lab' := 91) rfl rfl tP36ug SL.enc1Z (Sl.lab 90 rfl (by simp [maxLen])) (by first | omega | (simp; done) | (simp; omega) | (simp [*]; omega)) (by first | omega | (simp; done) | (simp; omega) | (simp [*]; omega))) ?_
        rintro _ _ ⟨a91, c91, rfl, rfl⟩
        refine za rfl (wl_nil (st_bn (st_tn (w_region (zm rfl (zd rfl (op_add' rfl rfl (by omega)) ?_))))))
        refine za rfl (wl_nil ?_)
        refine st_roundQ (x := (al, a_al, c_al, cz, a_cz, c_cz, asked, k, P)) ((_, _, _, _, _, _, asked2, k + 1, P2)) [83, 8, 91, 605] rfl (rfl) (.cons rfl (.cons rfl (.cons rfl (.nil _)))) (.cons rfl (.cons rfl (.cons rfl (.cons rfl (.nil _))))) (by
            try dsimp only
            exact ⟨⟨by omega, by omega, by omega⟩, hal2, hcz2, hin2, hin0'⟩) (by
            try dsimp only
            omega)
      · -- c84.f
        refine w_skip (st_tn ?_)
        have hcz2 : cz ++ [((k + 1 : Nat) : Int)] = (allN (segC pts) pen prune (k + 1)).2.map ofN := by
          rw [cand_succ, if_neg (by rw [hc84]; decide), List.map_append, hcz]; rfl
        refine w_region (zm rfl (zm rfl (wl_op [] rfl rfl rfl rfl (op_buildSlice (enc := SL.encZ) (l := [((k + 1 : Nat) : Int)]) (lab := 90) tL36_1ug rfl rfl (fun _ => rfl) rfl) ?_)))
        rintro _ _ ⟨a90, c90, rfl, rfl⟩
        refine wl_op [21] rfl rfl rfl rfl (op_append (lab := 21) (lab' := 91) rfl rfl tP36ug SL.enc1Z (Sl.lab 90 rfl (by simp [maxLen])) (by first | omega | (simp; done) | (simp; omega) | (simp [*]; omega)) (by first | omega | (simp; done) | (simp; omega) | (simp [*]; omega))) ?_
        rintro _ _ ⟨a91, c91, rfl, rfl⟩
        refine za rfl (wl_nil (st_bn (st_tn (w_region (zm rfl (zd rfl (op_add' rfl rfl (by omega)) ?_))))))
        refine za rfl (wl_nil ?_)
        refine st_roundQ (x := (al, a_al, c_al, cz, a_cz, c_cz, asked, k, P)) ((_, _, _, _, _, _, asked2, k + 1, P2)) [83, 8, 91, 605] rfl (rfl) (.cons rfl (.cons rfl (.cons rfl (.nil _)))) (.cons rfl (.cons rfl (.cons rfl (.cons rfl (.nil _))))) (by
            try dsimp only
            exact ⟨⟨by omega, by omega, by omega⟩, hal2, hcz2, hin2, hin0'⟩) (by
            try dsimp only
            omega)
  · -- c25.f
    refine w_exit (st_te ?_)
    refine st_te ?_
    refine st_be (st_tn (w_seq (w_region (zd rfl (op_load1 rfl tO112ug (Ent.lab (l := 8) rfl (says_cel 0))) (zm rfl (za rfl (za rfl (wl_nil (st_tn (w_ret (st_ret (vs := [_, _]) [20, 605] Tryz.results51 ⟨rfl, ⟨rfl, trivial⟩⟩ rfl ?_)))))))))))
    refine ⟨[(lab1, _), (lab2, _)], rfl, ?_⟩
    have hkn : k = pts.length := by omega
    rw [hkn] at hal
    exact ⟨al, P, _, _, asked, hal, hin, rfl, rfl⟩
end Go.Proofs.YtecmigildpkigaaGreat
namespace Go.Proofs.YtecmigildpkigaaGreat
open Go Go.SL Go.RowKit Go.SegP
set_option linter.unusedVariables false
set_option linter.unusedSimpArgs false
theorem tA139uh : aggB Tryz.prog 139 2 = true := by kernel_rfl
theorem tA84uh : aggB Tryz.prog 84 2 = true := by kernel_rfl
theorem tB84uh : placesB Tryz.prog 84 = some ([(0, 1), (1, 1)], [Value.slice none 0 0, Value.int .i64 0]) := by kernel_rfl
theorem tF139_0uh : fieldB Tryz.prog 139 0 0 = true := by kernel_rfl
theorem tF139_1uh : fieldB Tryz.prog 139 1 1 = true := by kernel_rfl
theorem tMixuh : Tryz.prog.follows .mixedOrders = true := by kernel_rfl
theorem tN139uh : (Tryz.prog.info? 139).bind (·.zero) = some (Value.agg #[Value.int .i64 0, Value.slice none 0 0]) := by kernel_rfl
theorem tN84uh : (Tryz.prog.info? 84).bind (·.zero) = some (Value.agg #[Value.slice none 0 0, Value.int .i64 0]) := by kernel_rfl
theorem tO3uh : oneB Tryz.prog 3 = true := by kernel_rfl
theorem tO36uh : oneB Tryz.prog 36 = true := by kernel_rfl
theorem tS112uh : sliceB Tryz.prog 112 139 2 = true := by kernel_rfl
theorem tZ139uh : (Tryz.prog.info? 139).map (·.size) = some 2 := by kernel_rfl
theorem tZ84uh : (Tryz.prog.info? 84).map (·.size) = some 2 := by kernel_rfl
set_option maxHeartbeats 600000 in
set_option maxRecDepth 100000 in
theorem segS {σ : World} {F : List Res} {a : Option Addr} {c : Nat} {al : List BstV} {x : BstV} (lab : Nat) (g : Sl σ F encBst 2 (.slice a al.length c) al) (hx : al[al.length - 1]? = some x) (gx : Sl σ F SL.encZ 1 (.slice x.a x.cuts.length x.c) x.cuts) (hl : x.cuts.length ≤ 1000) :
    FnT Tryz.prog σ F 52 [.slice a al.length c] [] (fun u ρ => ∃ (a' : Option Addr) (c' : Nat), u = .agg #[.slice a' x.cuts.length c', .int .i64 x.tot] ∧ ρ = [(lab, slW 3 SL.encZ 1 (.slice a' x.cuts.length c') x.cuts)]) := by
  refine fn_of 16 Tryz.func52 rfl Tryz.ntmps52 rfl ?_
  have hle := g.i64
  have hlt := (List.getElem?_eq_some_iff.1 hx).1
  refine w_seq (w_region (wl_op [] rfl rfl rfl rfl (op_alloc (l := 2) tN84uh) ?_))
  rintro _ _ ⟨b2, rfl, rfl⟩
  refine wl_nil (st_tn (w_seq (w_region (zm rfl (zm rfl (zd rfl (op_lenT rfl tS112uh (Sl.ent (g.app _))) (zd rfl (op_val (v' := .int .i64 ((al.length - 1 : Nat) : Int)) (by rw [show ((al.length - 1 : Nat) : Int) = (al.length : Int) - 1 by omega]) (op_sub' rfl rfl (by omega))) ?_)))))))
  refine zd rfl (op_idx rfl rfl tS112uh (Sl.ent (g.app _)) (by omega)) ?_
  refine zd rfl (op_ldxA rfl tA139uh (g.app _) hx (by rfl) (by rfl)) ?_
  refine wl_op [] rfl rfl rfl rfl (op_alloc (l := 3) tN139uh) ?_
  rintro _ _ ⟨b3, rfl, rfl⟩
  refine wl_op0 [3] rfl rfl rfl (op_store rfl rfl tZ139uh (by rfl) (by rfl) (by exact Nat.le_of_ble_eq_true rfl)) ?_
  rintro _ _ ⟨rfl, rfl⟩
  refine wl_nil (st_tn (w_seq ?_))
  refine w_drawW (fun β => [⟨10, [], [], [], noW (_), false, [], []⟩, ⟨11, [0], [], [], noW (_), false, [], []⟩, ⟨12, [1], [], [], fun w => DetW _ _, false, [], []⟩, ⟨13, [], [], [], noW (_), false, [], []⟩, ⟨14, [3], [], [], noW (_), false, [], []⟩]) [] [3] [⟨10, [], [], false, [], []⟩, ⟨11, [0], [], false, [], []⟩, ⟨12, [1], [], false, [], []⟩, ⟨13, [], [], false, [], []⟩, ⟨14, [3], [], false, [], []⟩] [[], [], [], [], []] [[], [], [], [], []] tMixuh (fun _ => by rfl) (fun _ => by rfl) (by kernel_rfl) (by kernel_rfl) (by rfl) (by rfl)
      (fun β => ⟨.p rfl (by intro X; exact op_fieldAddr (off := 1) rfl tF139_1uh),
      ⟨.p rfl (by intro X; rintro _ _ ⟨rfl, rfl⟩; exact op_load1 rfl tO36uh (Ent.lab (l := 3) rfl (says_cel 1))),
      ⟨.px rfl (by intro X; rintro _ _ ⟨rfl, rfl⟩; refine OpT.mono (op_fn Tryz.func33 rfl rfl rfl (cloneI (rl := x.cuts) 12 (Sl.app (Sl.app gx X) _) (by omega))) ?_; rintro _ _ ⟨a12, c12, rfl, rfl⟩; obtain ⟨w, rfl, rfl⟩ : ∃ w : Wt, w.a = a12 ∧ w.c = c12 := ⟨{ a := a12, c := c12 }, rfl, rfl⟩; exact ⟨w, rfl, rfl⟩),
      ⟨.p rfl (by intro X; exact op_fieldAddr (off := 0) rfl tF139_0uh),
      ⟨.p rfl (by intro X; rintro _ _ ⟨rfl, rfl⟩; exact op_load1 rfl tO3uh (Ent.lab (l := 3) rfl (says_cel 0))),
      trivial⟩⟩⟩⟩⟩)
      (fun β β' => ⟨fun _ => by rfl, ⟨fun _ => by rfl, ⟨fun _ => by rfl, ⟨fun _ => by rfl, ⟨fun _ => by rfl, trivial⟩⟩⟩⟩⟩) ?_
  intro β
  rintro _ _ ⟨rfl, rfl⟩ _ _ ⟨rfl, rfl⟩ _ _ ⟨rfl, rfl⟩ _ _ ⟨rfl, rfl⟩ _ _ ⟨rfl, rfl⟩
  generalize (β 2).a = a12
  generalize (β 2).c = c12
  refine wl_norm (e' := [(2, _), (12, _), (14, _)]) (.cons rfl (.cons rfl (.cons rfl (.nil _)))) (by dsimp only [cond_false, cond_true, List.nil_append, List.cons_append]) ?_
  refine zd rfl (op_build tB84uh rfl rfl) (wl_op0 [2] rfl rfl rfl (op_store rfl rfl tZ84uh (by rfl) (by rfl) (by exact Nat.le_of_ble_eq_true rfl)) ?_)
  rintro _ _ ⟨rfl, rfl⟩
  refine wl_nil (st_tn (w_ret (st_ret (vs := [_]) [12] Tryz.results52 ⟨⟨_, rfl, Ent.mono (Ent.lab (l := 2) rfl (says_cel 0)) (fun _ h => run_load_agg tA84uh h (Nat.le_of_ble_eq_true rfl))⟩, trivial⟩ rfl ?_)))
  refine ⟨[(lab, _)], rfl, ?_⟩
  exact ⟨_, _, rfl, rfl⟩
theorem al_last {C : Nat → Nat → Int} {pen : Int} {prune : Bool} {n : Nat} {al : List BstV} (hp : 0 ≤ pen ∧ pen ≤ 1000) (hC : ∀ s t, 0 ≤ C s t ∧ C s t ≤ 200000) (hk : n ≤ 100) (h : al.map keyB = (allN C pen prune n).1) : al.length = n + 1 ∧ ∃ x, al[al.length - 1]? = some x ∧ x.tot = (bstN C pen prune n).1 ∧ x.cuts = (bstN C pen prune n).2 ∧ x.cuts.length ≤ 100 ∧ x ∈ al := by
  have hl : al.length = n + 1 := by have h9 := congrArg List.length h; rw [List.length_map, all_len] at h9; exact h9
  obtain ⟨x, h1, h2, h3, h4⟩ := al_get hp hC hk h (Nat.le_refl n)
  refine ⟨hl, x, by rw [hl]; exact h1, ?_, ?_, h4, List.mem_of_getElem? h1⟩
  · rw [← h2]; rfl
  · rw [← h2]; rfl
set_option maxHeartbeats 1000000 in
set_option maxRecDepth 100000 in
theorem bestS {σ : World} {F : List Res} {a : Option Addr} {c : Nat} {pts : List Int} (pen : Int) (lab : Nat) (g : Sl σ F SL.encZ 1 (.slice a pts.length c) pts) (hb : PtsB pts) (h1 : 1 ≤ pts.length) (hp : 0 ≤ pen ∧ pen ≤ 1000) :
    FnT Tryz.prog σ F 35 [.slice a pts.length c, .int .i64 pen] [] (fun u ρ => ∃ (a' : Option Addr) (c' : Nat), u = .tuple #[.agg #[.slice a' (bstN (segC pts) pen false pts.length).2.length c', .int .i64 (bstN (segC pts) pen false pts.length).1], .int .i64 0] ∧ ρ = [(lab, slW 3 SL.encZ 1 (.slice a' (bstN (segC pts) pen false pts.length).2.length c') (bstN (segC pts) pen false pts.length).2)]) := by
  refine fn_of 24 Tryz.func35 rfl Tryz.ntmps35 rfl ?_
  have hle := hb.len
  refine w_seq (w_region (wl_op [] rfl rfl rfl rfl (op_alloc (l := 4) tN84uh) ?_))
  rintro _ _ ⟨b4, rfl, rfl⟩
  refine za rfl (wl_nil (st_tn (w_seq (w_seq (w_region (zm rfl (zm rfl (zd rfl (op_fn Tryz.func34 rfl rfl rfl (checkS pen (g.app _) hb h1 hp)) (za rfl (wl_nil (st_tn (w_seq (w_region ?_)))))))))))))
  refine zm rfl (zd rfl (op_val (v' := .bool false) (by rfl) (op_neq rfl rfl)) ?_)
  refine wl_nil (st_tn (w_cond_f (rfl) ?_))
  refine w_skip (st_tn (w_seq (w_region (zm rfl (zm rfl (wl_op [] rfl rfl rfl rfl (op_fn Tryz.func51 rfl rfl rfl (solveS pen false 71 72 (g.app _) hb hp)) ?_))))))
  rintro _ _ ⟨al, P, a19, c19, asked, hal, hin, rfl, rfl⟩
  refine zm rfl (zd rfl (op_extract rfl rfl) (zd rfl (op_extract rfl rfl) (za rfl (za rfl (wl_nil (st_tn (w_seq ?_)))))))
  obtain ⟨hall, x, hx, hxt, hxc, hxl, hxm⟩ := al_last hp (segC_pos pts hb) hle hal
  refine w_region (zm rfl (wl_op [] rfl rfl rfl rfl (op_fn Tryz.func52 rfl rfl rfl (segS 23 (Sl.lab 71 rfl (by unfold maxLen; omega)) hx ((hin x hxm).sl 72 rfl (by omega)) (by omega))) ?_))
  rintro _ _ ⟨a23, c23, rfl, rfl⟩
  refine wl_op0 [4] rfl rfl rfl (op_store rfl rfl tZ84uh (by rfl) (by rfl) (by exact Nat.le_of_ble_eq_true rfl)) ?_
  rintro _ _ ⟨rfl, rfl⟩
  refine za rfl (wl_nil (st_tn (w_ret (st_ret (vs := [_, _]) [23] Tryz.results35 ⟨⟨_, rfl, Ent.mono (Ent.lab (l := 4) rfl (says_cel 0)) (fun _ h => run_load_agg tA84uh h (Nat.le_of_ble_eq_true rfl))⟩, ⟨rfl, trivial⟩⟩ rfl ?_))))
  refine ⟨[(lab, _)], rfl, ?_⟩
  rw [← hxt, ← hxc]; exact ⟨_, _, rfl, rfl⟩
end Go.Proofs.YtecmigildpkigaaGreat
namespace Go.Proofs.YtecmigildpkigaaGreat
open Go Go.SL Go.RowKit Go.SegP
set_option linter.unusedVariables false
set_option linter.unusedSimpArgs false
theorem tA38va : aggB Tryz.prog 38 7 = true := by kernel_rfl
theorem tB52va : placesB Tryz.prog 52 = some ([(0, 1), (1, 1), (2, 1)], [Value.int .i64 0, Value.int .i64 0, Value.int .i64 0]) := by kernel_rfl
theorem tF38_4va : fieldB Tryz.prog 38 4 5 = true := by kernel_rfl
theorem tF38_5va : fieldB Tryz.prog 38 5 6 = true := by kernel_rfl
theorem tF84_0va : fieldB Tryz.prog 84 0 0 = true := by kernel_rfl
theorem tL36_1va : zerosB Tryz.prog 36 3 1 1 = some [Value.int .i64 0] := by kernel_rfl
theorem tL48_1va : zerosB Tryz.prog 48 52 3 1 = some [Value.int .i64 0, Value.int .i64 0, Value.int .i64 0] := by kernel_rfl
theorem tMixva : Tryz.prog.follows .mixedOrders = true := by kernel_rfl
theorem tN84va : (Tryz.prog.info? 84).bind (·.zero) = some (Value.agg #[Value.slice none 0 0, Value.int .i64 0]) := by kernel_rfl
theorem tO3va : oneB Tryz.prog 3 = true := by kernel_rfl
theorem tO36va : oneB Tryz.prog 36 = true := by kernel_rfl
theorem tP36va : appB Tryz.prog 36 3 1 8 = true := by kernel_rfl
theorem tP48va : appB Tryz.prog 48 52 3 24 = true := by kernel_rfl
theorem tS117va : sliceB Tryz.prog 117 36 1 = true := by kernel_rfl
theorem tS36va : sliceB Tryz.prog 36 3 1 = true := by kernel_rfl
theorem tZ84va : (Tryz.prog.info? 84).map (·.size) = some 2 := by kernel_rfl
def levL (pts cuts : List Int) : List Int := (prt pts.length 0 cuts).map fun p => medZ ((pts.take p.2).drop p.1)
theorem lev_len (pts cuts : List Int) : (levL pts cuts).length = cuts.length + 1 := by unfold levL; rw [List.length_map, prt_len]
set_option maxHeartbeats 1000000 in
set_option maxRecDepth 100000 in
theorem levelsS {σ : World} {F : List Res} {a b : Option Addr} {c d : Nat} {pts cuts : List Int} (lab : Nat) (g : Sl σ F SL.encZ 1 (.slice a pts.length c) pts) (gc : Sl σ F SL.encZ 1 (.slice b cuts.length d) cuts) (hb : PtsB pts) (h1 : 1 ≤ pts.length) (hc : Cuts pts.length 0 cuts) :
    FnT Tryz.prog σ F 36 [.slice a pts.length c, .slice b cuts.length d] [] (fun u ρ => ∃ (a' : Option Addr) (c' : Nat), u = .tuple #[.slice a' (levL pts cuts).length c', .int .i64 0] ∧ ρ = [(lab, slW 3 SL.encZ 1 (.slice a' (levL pts cuts).length c') (levL pts cuts))]) := by
  refine fn_of 37 Tryz.func36 rfl Tryz.ntmps36 rfl ?_
  have hle := hb.len
  have hcl := cuts_len hc
  have hpl := prt_len pts.length 0 cuts
  have hhl : ((prt pts.length 0 cuts).map (hdr a c)).length = cuts.length + 1 := by rw [List.length_map, hpl]
  refine w_seq (w_region (za rfl (za rfl (wl_nil (st_tn (w_seq (w_seq (w_region (zm rfl (zd rfl (op_fn Tryz.func34 rfl rfl rfl (checkS 0 (g.app _) hb h1 (by omega))) ?_))))))))))
  refine za rfl (wl_nil (st_tn (w_seq (w_region (zm rfl (zd rfl (op_val (v' := .bool false) (by rfl) (op_neq rfl rfl)) ?_))))))
  refine wl_nil (st_tn (w_cond_f (rfl) ?_))
  refine w_skip (st_tn (w_seq (w_seq (w_region (zm rfl (zm rfl (zd rfl (op_fn Tryz.func53 rfl rfl rfl (checkCutsS (g.app _) (gc.app _) hc)) (za rfl (wl_nil (st_tn (w_seq (w_region (zm rfl ?_)))))))))))))
  refine zd rfl (op_val (v' := .bool false) (by rfl) (op_neq rfl rfl)) ?_
  refine wl_nil (st_tn (w_cond_f (rfl) ?_))
  refine w_skip (st_tn (w_seq (w_region (za rfl (wl_nil (st_tn (w_seq (w_seq (w_region (zm rfl (zm rfl (wl_op [] rfl rfl rfl rfl (op_fn Tryz.func54 rfl rfl rfl (partsS 31 (g.app _) (gc.app _) hc hle)) ?_))))))))))))
  rintro _ _ ⟨a31, c31, rfl, rfl⟩
  refine zd rfl (op_lenT rfl tS117va (Sl.ent (Sl.lab 31 rfl (by unfold maxLen; omega)))) ?_
  refine zm rfl (wl_nil (st_tn (w_block (w_emp 8 (slO_nil 3 1) ?_))))
  refine w_loopQ (X := List Int × Option Addr × Nat × Nat) (fun z => z.2.2.2 ≤ cuts.length + 1 ∧ z.1 = (levL pts cuts).take z.2.2.2) (fun z => [(8, .slice (z.2.1) (z.1).length (z.2.2.1)), (26, .int .i64 (z.2.2.2))]) (fun z => [(8, slW 3 SL.encZ 1 (.slice (z.2.1) (z.1).length (z.2.2.1)) (z.1))]) (fun z => cuts.length + 1 - z.2.2.2) (([], none, 0, 0)) [(24, _), (25, _)] [(31, _)] [8, 31] rfl (rfl) (.cons rfl (.cons rfl (.nil _))) (.cons rfl (.cons rfl (.nil _))) (by
      try dsimp only
      exact ⟨Nat.zero_le _, rfl⟩) ?_
  rintro ⟨out, a_out, c_out, j⟩ ⟨hj, ho⟩
  refine w_norm2 (by dsimp only [List.cons_append, List.nil_append]) (by dsimp only [List.cons_append, List.nil_append]) ?_
  try dsimp only at hj ho ⊢
  refine w_seq (w_region (zd rfl (op_lss rfl rfl) (wl_nil (st_tn (w_seq (w_cond_d rfl (fun hc27 => ?_) (fun hc27 => ?_)))))))
  · -- c27.t
    obtain ⟨p, hp2⟩ := getE (l := prt pts.length 0 cuts) (i := j) (by omega)
    have hpb := prt_bd hc p (List.mem_of_getElem? hp2)
    have hps : (levL pts cuts)[j]? = some (medZ ((pts.take p.2).drop p.1)) := by unfold levL; rw [List.getElem?_map, hp2]; rfl
    have hhd : ((prt pts.length 0 cuts).map (hdr a c))[j]? = some (hdr a c p) := by rw [List.getElem?_map, hp2]; rfl
    have hpt : ((pts.take p.2).drop p.1).length = p.2 - p.1 := by rw [List.length_drop, List.length_take]; omega
    have hol : out.length ≤ j := by rw [ho, List.length_take]; omega
    refine w_skip (st_tn (w_seq (w_block (w_seq (w_region (zd rfl (op_idx rfl rfl tS117va (Sl.ent (Sl.lab 31 rfl (by unfold maxLen; omega))) (by omega)) ?_))))))
    refine zd rfl (op_ldx rfl tO36va (Sl.lab 31 rfl (by unfold maxLen; omega)) hhd (by rfl)) ?_
    refine za rfl (wl_nil (st_tn (w_region (zm rfl (zd rfl (op_val (v' := .slice (SL.sub a c p.1 1) ((pts.take p.2).drop p.1).length (c - p.1)) (by rw [hpt]; rfl) (op_move rfl)) ?_)))))
    refine zd rfl (op_fn Tryz.func55 rfl rfl rfl (medianS (l := (pts.take p.2).drop p.1) (by rw [hpt]; exact (g.sub (by omega) (by omega)).app _) (by omega) (by omega))) ?_
    refine wl_op [] rfl rfl rfl rfl (op_buildSlice (enc := SL.encZ) (l := [medZ ((pts.take p.2).drop p.1)]) (lab := 33) tL36_1va rfl rfl (fun _ => rfl) rfl) ?_
    rintro _ _ ⟨a33, c33, rfl, rfl⟩
    refine wl_op [8] rfl rfl rfl rfl (op_append (lab := 8) (lab' := 34) rfl rfl tP36va SL.enc1Z (Sl.lab 33 rfl (by simp [maxLen])) (by first | omega | (simp; done) | (simp; omega) | (simp [*]; omega)) (by first | omega | (simp; done) | (simp; omega) | (simp [*]; omega))) ?_
    rintro _ _ ⟨a34, c34, rfl, rfl⟩
    refine za rfl (wl_nil (st_bn (st_tn (w_region (zd rfl (op_add' rfl rfl (by omega)) ?_)))))
    refine zm rfl (wl_nil ?_)
    refine st_roundQ (x := (out, a_out, c_out, j)) ((_, _, _, j + 1)) [34, 31] rfl (rfl) (.cons rfl (.cons rfl (.nil _))) (.cons rfl (.cons rfl (.nil _))) (by
        try dsimp only
        exact ⟨by omega, by rw [take_snocS hps, ← ho]⟩) (by
        try dsimp only
        omega)
  · -- c27.f
    refine w_exit (st_te ?_)
    refine st_te ?_
    refine st_be (st_tn (w_seq (w_region (zm rfl (za rfl (za rfl (wl_nil (st_tn (w_ret (st_ret (vs := [_, _]) [8] Tryz.results36 ⟨rfl, ⟨rfl, trivial⟩⟩ rfl ?_))))))))))
    refine ⟨[(lab, _)], rfl, ?_⟩
    have hjn : (levL pts cuts).take j = levL pts cuts := List.take_of_length_le (by rw [lev_len]; omega)
    rw [hjn] at ho
    subst ho; exact ⟨_, _, rfl, rfl⟩
abbrev ChV := Int × Int × Int
def encCh (x : ChV) : List Value := [.int .i64 x.1, .int .i64 x.2.1, .int .i64 x.2.2]
theorem enc1Ch : Enc1 encCh 3 := ⟨fun _ => rfl, fun a u h => by simp only [encCh, List.mem_cons, List.not_mem_nil, or_false] at h; rcases h with rfl | rfl | rfl <;> rfl⟩
def chgL (fr : Int) (cuts lv : List Int) : List ChV := (List.range cuts.length).map fun i => (fr + cuts.getD i 0, lv.getD i 0, lv.getD (i + 1) 0)
theorem chg_len (fr : Int) (cuts lv : List Int) : (chgL fr cuts lv).length = cuts.length := by unfold chgL; simp
theorem chg_get {fr : Int} {cuts lv : List Int} {i : Nat} {x y z : Int} (hx : cuts[i]? = some x) (hy : lv[i]? = some y) (hz : lv[i + 1]? = some z) : (chgL fr cuts lv)[i]? = some (fr + x, y, z) := by
  unfold chgL
  rw [List.getElem?_map, List.getElem?_range (List.getElem?_eq_some_iff.1 hx).1, Option.map_some, List.getD_eq_getElem?_getD, List.getD_eq_getElem?_getD, List.getD_eq_getElem?_getD, hx, hy, hz]; rfl
def chgR (fr : Int) (pts : List Int) (pen : Int) : List ChV := chgL fr (bstN (segC pts) pen false pts.length).2 (levL pts (bstN (segC pts) pen false pts.length).2)
set_option maxHeartbeats 2000000 in
set_option maxRecDepth 100000 in
theorem changeOfS {σ : World} {F : List Res} {a : Option Addr} {c : Nat} {pts : List Int} (lab : Nat) (k : Ser.SK) (fr pen : Int) (g : Sl σ F SL.encZ 1 (.slice a pts.length c) pts) (hchk : Ser.chkE k fr pts = 0) (hs : k.svc.size ≤ maxLen) (ho : k.op.size ≤ maxLen) (hx : -9223372036854775808 ≤ k.qn ∧ k.qn ≤ 9223372036854775807) (hy : -9223372036854775808 ≤ k.qd ∧ k.qd ≤ 9223372036854775807) (hfr : 0 ≤ fr ∧ fr ≤ 1048576) (hb : PtsB pts) (h1 : 1 ≤ pts.length) (hp : 0 ≤ pen ∧ pen ≤ 1000) :
    FnT Tryz.prog σ F 13 [Ser.sr k fr (.slice a pts.length c), .int .i64 pen] [] (fun u ρ => ∃ (a' : Option Addr) (c' : Nat), u = .tuple #[.slice a' (chgR fr pts pen).length c', .int .i64 0] ∧ ρ = [(lab, slW 52 encCh 3 (.slice a' (chgR fr pts pen).length c') (chgR fr pts pen))]) := by
  refine fn_of 74 Tryz.func13 rfl Tryz.ntmps13 rfl ?_
  have hle := hb.len
  have hbc := (bst_cuts (segC pts) pen false pts.length h1).1
  unfold chgR
  obtain ⟨bt, hbt⟩ : ∃ b, b = bstN (segC pts) pen false pts.length := ⟨_, rfl⟩
  rw [← hbt] at hbc ⊢
  have hcl := cuts_len hbc
  have hll := lev_len pts bt.2
  refine w_seq (w_region (wl_op [] rfl rfl rfl rfl (op_box (T := 38) (l := 2) rfl) ?_))
  rintro _ _ ⟨b2, rfl, rfl⟩
  refine za rfl (za rfl (wl_nil (st_tn (w_seq (w_seq (w_region (zd rfl (op_loadA rfl tA38va (Ent.lab (l := 2) rfl (says_cel 0)) (Nat.le_of_ble_eq_true rfl)) (zd rfl (op_fn Tryz.func17 rfl rfl rfl (fn_imp (Ser.check_any k fr (g.app _) hs ho hx hy) (fun u ρ hu => (by rw [hchk] at hu; exact hu : u = .int .i64 0 ∧ ρ = [])))) ?_))))))))
  refine za rfl (wl_nil (st_tn (w_seq (w_region (zm rfl (zd rfl (op_val (v' := .bool false) (by rfl) (op_neq rfl rfl)) ?_))))))
  refine wl_nil (st_tn (w_cond_f (rfl) ?_))
  refine w_skip (st_tn (w_seq (w_seq (w_region (zd rfl (op_fieldAddr (off := 6) rfl tF38_5va) (zd rfl (op_load1 rfl tO36va (Ent.lab (l := 2) rfl (says_cel 6))) (zm rfl (zd rfl (op_fn Tryz.func34 rfl rfl rfl (checkS pen (g.app _) hb h1 hp)) (za rfl (wl_nil (st_tn (w_seq (w_region ?_)))))))))))))
  refine zm rfl (zd rfl (op_val (v' := .bool false) (by rfl) (op_neq rfl rfl)) ?_)
  refine wl_nil (st_tn (w_cond_f (rfl) ?_))
  refine w_skip (st_tn (w_seq (w_region (zd rfl (op_fieldAddr (off := 6) rfl tF38_5va) (zd rfl (op_load1 rfl tO36va (Ent.lab (l := 2) rfl (says_cel 6))) (zm rfl (wl_op [] rfl rfl rfl rfl (op_fn Tryz.func35 rfl rfl rfl (fn_imp (bestS pen 30 (g.app _) hb h1 hp) (fun u ρ hu => (by rw [← hbt] at hu; exact hu : ∃ (a' : Option Addr) (c' : Nat), u = .tuple #[.agg #[.slice a' bt.2.length c', .int .i64 bt.1], .int .i64 0] ∧ ρ = [(30, slW 3 SL.encZ 1 (.slice a' bt.2.length c') bt.2)])))) ?_)))))))
  rintro _ _ ⟨a30, c30, rfl, rfl⟩
  refine zm rfl (zd rfl (op_extract rfl rfl) (zd rfl (op_extract rfl rfl) (wl_op [] rfl rfl rfl rfl (op_alloc (l := 8) tN84va) ?_)))
  rintro _ _ ⟨b8, rfl, rfl⟩
  refine wl_op0 [8] rfl rfl rfl (op_store rfl rfl tZ84va (by rfl) (by rfl) (by exact Nat.le_of_ble_eq_true rfl)) ?_
  rintro _ _ ⟨rfl, rfl⟩
  refine za rfl (wl_nil (st_tn (w_seq (w_seq (w_wk 8 (cel b8 [.slice a30 bt.2.length c30, .int .i64 bt.1] 84) rfl (fun _ h => h) ?_)))))
  refine w_region (zm rfl (zd rfl (op_val (v' := .bool false) (by rfl) (op_neq rfl rfl)) ?_))
  refine wl_nil (st_tn (w_cond_f (rfl) ?_))
  refine w_skip (st_tn (w_seq (w_region (zd rfl (op_fieldAddr (off := 6) rfl tF38_5va) (zd rfl (op_load1 rfl tO36va (Ent.lab (l := 2) rfl (says_cel 6))) (zd rfl (op_fieldAddr (off := 0) rfl tF84_0va) (zd rfl (op_load1 rfl tO36va (Ent.lab (l := 8) rfl (says_cel 0))) (wl_op [] rfl rfl rfl rfl (op_fn Tryz.func36 rfl rfl rfl (levelsS 41 (g.app _) (Sl.lab 30 rfl (by unfold maxLen; omega)) hb h1 hbc)) ?_))))))))
  rintro _ _ ⟨a41, c41, rfl, rfl⟩
  refine zm rfl (zd rfl (op_extract rfl rfl) (zd rfl (op_extract rfl rfl) (za rfl (za rfl (wl_nil (st_tn (w_seq (w_seq (w_region (zm rfl (zd rfl (op_val (v' := .bool false) (by rfl) (op_neq rfl rfl)) ?_)))))))))))
  refine wl_nil (st_tn (w_cond_f (rfl) ?_))
  refine w_skip (st_tn (w_seq (w_region (za rfl (wl_nil (st_tn (w_seq (w_seq (w_region (zd rfl (op_fieldAddr (off := 0) rfl tF84_0va) (zd rfl (op_load1 rfl tO36va (Ent.lab (l := 8) rfl (says_cel 0))) (zd rfl (op_lenT rfl tS36va (Sl.ent (Sl.lab 30 rfl (by unfold maxLen; omega)))) ?_))))))))))))
  refine zm rfl (wl_nil (st_tn (w_block (w_emp 11 (slO_nil 52 3) ?_))))
  refine w_loopQ (X := List ChV × Option Addr × Nat × Nat) (fun z => z.2.2.2 ≤ bt.2.length ∧ z.1 = (chgL fr bt.2 (levL pts bt.2)).take z.2.2.2) (fun z => [(11, .slice (z.2.1) (z.1).length (z.2.2.1)), (50, .int .i64 (z.2.2.2))]) (fun z => [(11, slW 52 encCh 3 (.slice (z.2.1) (z.1).length (z.2.2.1)) (z.1))]) (fun z => bt.2.length - z.2.2.2) (([], none, 0, 0)) [(2, _), (10, _), (48, _), (49, _)] [(2, _), (30, _), (41, _)] [11, 2, 30, 41] rfl (rfl) (.cons rfl (.cons rfl (.nil _))) (.cons rfl (.cons rfl (.cons rfl (.cons rfl (.nil _))))) (by
      try dsimp only
      exact ⟨Nat.zero_le _, rfl⟩) ?_
  rintro ⟨out, a_out, c_out, j⟩ ⟨hj, hout⟩
  refine w_norm2 (by dsimp only [List.cons_append, List.nil_append]) (by dsimp only [List.cons_append, List.nil_append]) ?_
  try dsimp only at hj hout ⊢
  refine w_seq (w_region (zd rfl (op_lss rfl rfl) (wl_nil (st_tn (w_seq (w_cond_d rfl (fun hc51 => ?_) (fun hc51 => ?_)))))))
  · -- c51.t
    obtain ⟨z, hz⟩ := getE (l := bt.2) (i := j) (by omega)
    obtain ⟨y1, hy1⟩ := getE (l := levL pts bt.2) (i := j) (by omega)
    obtain ⟨y2, hy2⟩ := getE (l := levL pts bt.2) (i := j + 1) (by omega)
    have hzb := cuts_le hbc z (List.mem_of_getElem? hz)
    have hol : out.length ≤ j := by rw [hout, List.length_take]; omega
    refine w_skip (st_tn (w_seq (w_block (w_seq (w_region (zm rfl (zd rfl (op_idx rfl rfl tS36va (Sl.ent (Sl.lab 30 rfl (by unfold maxLen; omega))) (by omega)) ?_)))))))
    refine zd rfl (op_ldx rfl tO3va (Sl.lab 30 rfl (by unfold maxLen; omega)) hz (by rfl)) ?_
    refine za rfl (za rfl (wl_nil (st_tn ?_)))
    refine w_drawW (fun β => [⟨55, [], [], [], noW (_), false, [], []⟩, ⟨56, [], [], [], noW (_), false, [], []⟩, ⟨57, [1], [], [], noW (_), false, [], []⟩, ⟨58, [], [], [], noW (_), false, [], []⟩, ⟨59, [2, 3], [], [], noW (_), false, [], []⟩, ⟨60, [], [], [], noW (_), false, [], []⟩, ⟨61, [], [], [], noW (_), false, [], []⟩, ⟨62, [5, 6], [], [], noW (_), false, [], []⟩, ⟨63, [7], [], [], noW (_), false, [], []⟩, ⟨64, [], [], [], noW (_), false, [], []⟩, ⟨65, [], [], [], noW (_), false, [], []⟩, ⟨66, [10], [], [], noW (_), false, [], []⟩, ⟨67, [9, 11], [], [], noW (_), false, [], []⟩, ⟨68, [12], [], [], noW (_), false, [], []⟩, ⟨69, [4, 8, 13], [], [], noW (_), false, [], []⟩, ⟨70, [14], [], [], fun w => DetW _ _, false, [], []⟩]) [] [11, 2, 13, 10, 12] [⟨55, [], [], false, [], []⟩, ⟨56, [], [], false, [], []⟩, ⟨57, [1], [], false, [], []⟩, ⟨58, [], [], false, [], []⟩, ⟨59, [2, 3], [], false, [], []⟩, ⟨60, [], [], false, [], []⟩, ⟨61, [], [], false, [], []⟩, ⟨62, [5, 6], [], false, [], []⟩, ⟨63, [7], [], false, [], []⟩, ⟨64, [], [], false, [], []⟩, ⟨65, [], [], false, [], []⟩, ⟨66, [10], [], false, [], []⟩, ⟨67, [9, 11], [], false, [], []⟩, ⟨68, [12], [], false, [], []⟩, ⟨69, [4, 8, 13], [], false, [], []⟩, ⟨70, [14], [], false, [], []⟩] [[], [], [], [], [], [], [], [], [], [], [], [], [], [], [], []] [[], [], [], [], [], [], [], [], [], [], [], [], [], [], [], []] tMixva (fun _ => by rfl) (fun _ => by rfl) (by kernel_rfl) (by kernel_rfl) (by rfl) (by rfl)
        (fun β => ⟨.p rfl (by intro X; exact op_move rfl),
        ⟨.p rfl (by intro X; exact op_fieldAddr (off := 5) rfl tF38_4va),
        ⟨.p rfl (by intro X; rintro _ _ ⟨rfl, rfl⟩; exact op_load1 rfl tO3va (Ent.lab (l := 2) rfl (says_cel 5))),
        ⟨.p rfl (by intro X; exact op_move rfl),
        ⟨.p rfl (by intro X; rintro _ _ ⟨rfl, rfl⟩ _ _ ⟨rfl, rfl⟩; exact op_add' rfl rfl (by omega)),
        ⟨.p rfl (by intro X; exact op_move rfl),
        ⟨.p rfl (by intro X; exact op_move rfl),
        ⟨.p rfl (by intro X; rintro _ _ ⟨rfl, rfl⟩ _ _ ⟨rfl, rfl⟩; exact op_idx rfl rfl tS36va (Sl.ent (Sl.lab 41 rfl (by unfold maxLen; omega))) (by omega)),
        ⟨.p rfl (by intro X; rintro _ _ ⟨rfl, rfl⟩; exact op_ldx rfl tO3va (Sl.lab 41 rfl (by unfold maxLen; omega)) hy1 (by rfl)),
        ⟨.p rfl (by intro X; exact op_move rfl),
        ⟨.p rfl (by intro X; exact op_move rfl),
        ⟨.p rfl (by intro X; rintro _ _ ⟨rfl, rfl⟩; exact op_add' rfl rfl (by omega)),
        ⟨.p rfl (by intro X; rintro _ _ ⟨rfl, rfl⟩ _ _ ⟨rfl, rfl⟩; exact op_idx (i := j + 1) rfl rfl tS36va (Sl.ent (Sl.lab 41 rfl (by unfold maxLen; omega))) (by omega)),
        ⟨.p rfl (by intro X; rintro _ _ ⟨rfl, rfl⟩; exact op_ldx rfl tO3va (Sl.lab 41 rfl (by unfold maxLen; omega)) hy2 (by rfl)),
        ⟨.p rfl (by intro X; rintro _ _ ⟨rfl, rfl⟩ _ _ ⟨rfl, rfl⟩ _ _ ⟨rfl, rfl⟩; exact op_build tB52va rfl rfl),
        ⟨.px rfl (by intro X; rintro _ _ ⟨rfl, rfl⟩; refine OpT.mono (op_buildSlice (enc := encCh) (l := [(fr + z, y1, y2)]) (lab := 70) tL48_1va rfl rfl (fun _ => rfl) rfl) ?_; rintro _ _ ⟨a70, c70, rfl, rfl⟩; obtain ⟨w, rfl, rfl⟩ : ∃ w : Wt, w.a = a70 ∧ w.c = c70 := ⟨{ a := a70, c := c70 }, rfl, rfl⟩; exact ⟨w, rfl, rfl⟩),
        trivial⟩⟩⟩⟩⟩⟩⟩⟩⟩⟩⟩⟩⟩⟩⟩⟩)
        (fun β β' => ⟨fun _ => by rfl, ⟨fun _ => by rfl, ⟨fun _ => by rfl, ⟨fun _ => by rfl, ⟨fun _ => by rfl, ⟨fun _ => by rfl, ⟨fun _ => by rfl, ⟨fun _ => by rfl, ⟨fun _ => by rfl, ⟨fun _ => by rfl, ⟨fun _ => by rfl, ⟨fun _ => by rfl, ⟨fun _ => by rfl, ⟨fun _ => by rfl, ⟨fun _ => by rfl, ⟨fun _ => by rfl, trivial⟩⟩⟩⟩⟩⟩⟩⟩⟩⟩⟩⟩⟩⟩⟩⟩) ?_
    intro β
    rintro _ _ ⟨rfl, rfl⟩ _ _ ⟨rfl, rfl⟩ _ _ ⟨rfl, rfl⟩ _ _ ⟨rfl, rfl⟩ _ _ ⟨rfl, rfl⟩ _ _ ⟨rfl, rfl⟩ _ _ ⟨rfl, rfl⟩ _ _ ⟨rfl, rfl⟩ _ _ ⟨rfl, rfl⟩ _ _ ⟨rfl, rfl⟩ _ _ ⟨rfl, rfl⟩ _ _ ⟨rfl, rfl⟩ _ _ ⟨rfl, rfl⟩ _ _ ⟨rfl, rfl⟩ _ _ ⟨rfl, rfl⟩ _ _ ⟨rfl, rfl⟩
    generalize (β 15).a = a70
    generalize (β 15).c = c70
    refine wl_norm (e' := [(2, _), (10, _), (48, _), (49, _), (50, _), (55, _), (70, _)]) (.cons rfl (.cons rfl (.cons rfl (.cons rfl (.cons rfl (.cons rfl (.cons rfl (.nil _)))))))) (by dsimp only [cond_false, cond_true, List.nil_append, List.cons_append]) ?_
    refine wl_op [11] rfl rfl rfl rfl (op_append (lab := 11) (lab' := 71) rfl rfl tP48va enc1Ch (Sl.lab 70 rfl (by simp [maxLen])) (by first | omega | (simp; done) | (simp; omega) | (simp [*]; omega)) (by first | omega | (simp; done) | (simp; omega) | (simp [*]; omega))) ?_
    rintro _ _ ⟨a71, c71, rfl, rfl⟩
    refine za rfl (wl_nil (st_bn (st_tn (w_region (zd rfl (op_add' rfl rfl (by omega)) ?_)))))
    refine zm rfl (wl_nil ?_)
    refine st_roundQ (x := (out, a_out, c_out, j)) ((_, _, _, j + 1)) [71, 2, 30, 41] rfl (rfl) (.cons rfl (.cons rfl (.nil _))) (.cons rfl (.cons rfl (.cons rfl (.cons rfl (.nil _))))) (by
        try dsimp only
        exact ⟨by omega, by rw [take_snocS (chg_get hz hy1 hy2), ← hout]⟩) (by
        try dsimp only
        omega)
  · -- c51.f
    refine w_exit (st_te ?_)
    refine st_te ?_
    refine st_be (st_tn (w_seq (w_region (zm rfl (za rfl (za rfl (wl_nil (st_tn (w_ret (st_ret (vs := [_, _]) [11] Tryz.results13 ⟨rfl, ⟨rfl, trivial⟩⟩ rfl ?_))))))))))
    refine ⟨[(lab, _)], rfl, ?_⟩
    have hjn : (chgL fr bt.2 (levL pts bt.2)).take j = chgL fr bt.2 (levL pts bt.2) := List.take_of_length_le (by rw [chg_len]; omega)
    rw [hjn] at hout
    subst hout; exact ⟨_, _, rfl, rfl⟩
end Go.Proofs.YtecmigildpkigaaGreat
namespace Go.Proofs.YtecmigildpkigaaGreat
open Go Go.SL Go.RowKit Go.SegP
set_option linter.unusedVariables false
set_option linter.unusedSimpArgs false
theorem tA38vb : aggB Tryz.prog 38 7 = true := by kernel_rfl
theorem tB38vb : placesB Tryz.prog 38 = some ([(0, 1), (1, 1), (2, 1), (3, 2), (5, 1), (6, 1)], [Value.string .empty, Value.string .empty, Value.int .i64 0, Value.int .i64 0, Value.int .i64 0, Value.int .i64 0, Value.slice none 0 0]) := by kernel_rfl
theorem tF38_5vb : fieldB Tryz.prog 38 5 6 = true := by kernel_rfl
theorem tF52_1vb : fieldB Tryz.prog 52 1 1 = true := by kernel_rfl
theorem tF52_2vb : fieldB Tryz.prog 52 2 2 = true := by kernel_rfl
theorem tL36_1vb : zerosB Tryz.prog 36 3 1 1 = some [Value.int .i64 0] := by kernel_rfl
theorem tMixvb : Tryz.prog.follows .mixedOrders = true := by kernel_rfl
theorem tN38vb : (Tryz.prog.info? 38).bind (·.zero) = some (Value.agg #[Value.string .empty, Value.string .empty, Value.int .i64 0, Value.int .i64 0, Value.int .i64 0, Value.int .i64 0, Value.slice none 0 0]) := by kernel_rfl
theorem tO3vb : oneB Tryz.prog 3 = true := by kernel_rfl
theorem tO36vb : oneB Tryz.prog 36 = true := by kernel_rfl
theorem tO5vb : oneB Tryz.prog 5 = true := by kernel_rfl
theorem tP36vb : appB Tryz.prog 36 3 1 8 = true := by kernel_rfl
theorem tS117vb : sliceB Tryz.prog 117 36 1 = true := by kernel_rfl
theorem tS36vb : sliceB Tryz.prog 36 3 1 = true := by kernel_rfl
theorem tS90vb : sliceB Tryz.prog 90 5 1 = true := by kernel_rfl
theorem tZ36vb : (Tryz.prog.info? 36).map (·.size) = some 1 := by kernel_rfl
theorem tZ38vb : (Tryz.prog.info? 38).map (·.size) = some 7 := by kernel_rfl
def encY8 (x : Int) : List Value := [.int .u8 x]
theorem slnilZ {σ : World} {F : List Res} : Sl σ F SL.encZ 1 (.slice none 0 0) [] := ⟨fun w hw => ⟨by simp, by simp, .inl ⟨_, _, rfl, rfl⟩⟩, by simp [maxLen]⟩
set_option maxHeartbeats 400000 in
set_option maxRecDepth 100000 in
theorem grow_any {σ : World} {F : List Res} (n lab : Nat) (hn : n ≤ 1048576) :
    FnT Tryz.prog σ F 74 [.slice none 0 0, .int .i64 n] [] (fun u ρ => ∃ a c, u = .slice a 0 c ∧ ρ = [(lab, slW 3 SL.encZ 1 (.slice a 0 c) [])]) := by
  refine fn_of 27 Tryz.func74 rfl Tryz.ntmps74 rfl ?_
  refine w_seq (w_region (za rfl (wl_nil (st_tn (w_seq (w_seq (w_region (zm rfl (zd rfl (op_lss rfl rfl) (wl_nil (st_tn (w_cond_d rfl (fun hc6 => ?_) (fun hc6 => ?_)))))))))))))
  · -- c6.t
    omega
  · -- c6.f
    refine w_skip (st_tn (w_seq (w_seq (w_region (zm rfl (zm rfl (zd rfl (op_cap rfl tS36vb) (zm rfl (zd rfl (op_val (v' := .int .i64 0) rfl (op_lenT rfl tS36vb (Sl.ent slnilZ))) (zd rfl (op_sub' rfl rfl (by omega)) ?_))))))))))
    refine zd rfl (op_val (v' := .int .i64 (n : Int)) (by simp) (op_sub' rfl rfl (by omega))) ?_
    refine za rfl (wl_nil (st_tn (w_seq (w_region (zm rfl (zd rfl (op_gtr rfl rfl) (wl_nil (st_tn (w_cond_d rfl (fun hc16 => ?_) (fun hc16 => ?_))))))))))
    · -- c16.t
      refine w_region (zm rfl (zm rfl (zd rfl (op_cap rfl tS36vb) (zd rfl (op_slice00 rfl rfl tS36vb (.inl rfl)) (zm rfl (wl_op [] rfl rfl rfl rfl (op_appendMake0 (enc := SL.encZ) (lab := 22) rfl rfl tP36vb Tryz.underlying3 (by omega) (by omega) (by unfold maxLen; omega)) ?_))))))
      rintro _ _ ⟨g22, c22, rfl, rfl⟩
      refine zm rfl (zd rfl (op_val (v' := .int .i64 0) rfl (op_lenT rfl tS36vb (Sl.ent slnilZ))) (zd rfl (op_slice00 rfl rfl tS36vb (.inr ⟨_, rfl⟩)) (za rfl (wl_nil (st_tn (w_seq (w_region (zm rfl (za rfl (wl_nil (st_tn (w_ret (st_ret (vs := [_]) [22] Tryz.results74 ⟨rfl, trivial⟩ rfl ?_)))))))))))))
      refine ⟨[(lab, _)], rfl, ?_⟩
      exact ⟨_, _, rfl, rfl⟩
    · -- c16.f
      refine w_emp 22 (slO_nil 3 1) ?_
      refine w_skip (st_tn (w_seq (w_region (zm rfl (za rfl (wl_nil (st_tn (w_ret (st_ret (vs := [_]) [22] Tryz.results74 ⟨rfl, trivial⟩ rfl ?_)))))))))
      refine ⟨[(lab, _)], rfl, ?_⟩
      exact ⟨_, _, rfl, rfl⟩
abbrev Hd := Option Addr × Nat × List Int
def hv (p : Hd) : Value := .slice p.1 p.2.2.length p.2.1
def encH (p : Hd) : List Value := [hv p]
def tot (ss : List Hd) : Nat := (ss.map fun p => p.2.2.length).sum
def cat (ss : List Hd) : List Int := (ss.map fun p => p.2.2).flatten
theorem tot_snoc {ss : List Hd} {i : Nat} {p : Hd} (h : ss[i]? = some p) : tot (ss.take (i + 1)) = tot (ss.take i) + p.2.2.length := by rw [take_snocS h]; unfold tot; rw [List.map_append, List.sum_append]; simp
theorem cat_snoc {ss : List Hd} {i : Nat} {p : Hd} (h : ss[i]? = some p) : cat (ss.take (i + 1)) = cat (ss.take i) ++ p.2.2 := by rw [take_snocS h]; unfold cat; rw [List.map_append, List.flatten_append]; simp
theorem cat_len (ss : List Hd) : (cat ss).length = tot ss := by unfold cat tot; rw [List.length_flatten, List.map_map]; rfl
theorem tot_take (ss : List Hd) (i : Nat) : tot (ss.take i) ≤ tot ss := by
  have : tot ss = tot (ss.take i) + tot (ss.drop i) := by
    conv => lhs; rw [← List.take_append_drop i ss]
    unfold tot; rw [List.map_append, List.sum_append]
  omega
set_option maxHeartbeats 1000000 in
set_option maxRecDepth 100000 in
theorem concat_any {σ : World} {F : List Res} {v : Value} {ss : List Hd} (lab : Nat) (h : Sl σ F encH 1 v ss) (hs : ∀ p ∈ ss, Sl σ F SL.encZ 1 (hv p) p.2.2) (ht : tot ss ≤ 1048576) :
    FnT Tryz.prog σ F 57 [v] [] (NewI (cat ss) lab) := by
  refine fn_of 36 Tryz.func57 rfl Tryz.ntmps57 rfl ?_
  have hle := h.i64
  refine w_seq (w_region (za rfl (wl_nil (st_tn (w_seq (w_region (za rfl (wl_nil (st_tn (w_seq (w_seq (w_region (zm rfl ?_)))))))))))))
  refine zd rfl (op_lenT rfl tS117vb (Sl.ent (by first | exact Sl.app (by assumption) _ | exact Sl.app (Sl.app (by assumption) _) _))) ?_
  refine zm rfl (wl_nil (st_tn (w_block ?_)))
  refine w_loopQ (X := Nat × Nat) (fun z => z.2 ≤ ss.length ∧ z.1 = tot (ss.take z.2)) (fun z => [(3, .int .i64 (z.1)), (11, .int .i64 (z.2))]) (fun _ => []) (fun z => ss.length - z.2) ((0, 0)) [(0, _), (9, _), (10, _)] [] [] rfl (rfl) (.cons rfl (.cons rfl (.nil _))) (.cons rfl (.cons rfl (.cons rfl (.nil _)))) (by
      try dsimp only
      exact ⟨Nat.zero_le _, rfl⟩) ?_
  rintro ⟨s, i⟩ ⟨hi, hsm⟩
  refine w_norm2 (by dsimp only [List.cons_append, List.nil_append]) (by dsimp only [List.cons_append, List.nil_append]) ?_
  try dsimp only at hi hsm ⊢
  refine w_seq (w_region (zd rfl (op_lss rfl rfl) (wl_nil (st_tn (w_seq (w_cond_d rfl (fun hc12 => ?_) (fun hc12 => ?_)))))))
  · -- c12.t
    obtain ⟨p, hp⟩ := getE (l := ss) (i := i) (by omega)
    have hlt := ltE hp
    have hps := hs p (List.mem_of_getElem? hp)
    have h1 := tot_snoc hp
    have h2 := tot_take ss (i + 1)
    refine w_skip (st_tn (w_seq (w_block (w_seq (w_region (zd rfl (op_idx rfl rfl tS117vb (Sl.ent (by first | exact Sl.app (by assumption) _ | exact Sl.app (Sl.app (by assumption) _) _)) (by omega)) ?_))))))
    refine zd rfl (op_ldx rfl tO36vb (by first | exact Sl.app (by assumption) _ | exact Sl.app (Sl.app (by assumption) _) _) (by assumption) (by rfl)) ?_
    refine za rfl (wl_nil (st_tn (w_seq (w_region (zm rfl (zm rfl (zd rfl (op_lenT rfl tS36vb (Sl.ent (Sl.app hps _))) (zd rfl (op_add' rfl rfl (by omega)) ?_))))))))
    refine za rfl (wl_nil (st_tn (w_seq (w_region (zm rfl (zd rfl (op_lss rfl rfl) (wl_nil (st_tn (w_cond_d rfl (fun hc20 => ?_) (fun hc20 => ?_))))))))))
    · -- c20.t
      omega
    · -- c20.f
      refine w_skip (st_bn (st_tn (w_region (zd rfl (op_add' rfl rfl (by omega)) ?_))))
      refine zm rfl (wl_nil ?_)
      refine st_roundQ (x := (s, i)) ((s + p.2.2.length, i + 1)) [] rfl (rfl) (.cons rfl (.cons rfl (.nil _))) (.cons rfl (.cons rfl (.cons rfl (.nil _)))) (by
          try dsimp only
          exact ⟨by omega, by rw [tot_snoc hp, hsm]⟩) (by
          try dsimp only
          omega)
  · -- c12.f
    refine w_exit (st_te ?_)
    refine st_te ?_
    refine st_be (st_tn (w_seq ?_))
    rw [take_allS (by omega)] at hsm
    subst hsm
    refine w_region (zm rfl (wl_op [] rfl rfl rfl rfl (op_fn Tryz.func74 rfl rfl rfl (grow_any _ 24 ht)) ?_))
    rintro _ _ ⟨a24, c24, rfl, rfl⟩
    refine za rfl (wl_nil (st_tn (w_seq (w_seq (w_region (zm rfl (zd rfl (op_lenT rfl tS117vb (Sl.ent (by first | exact Sl.app (by assumption) _ | exact Sl.app (Sl.app (by assumption) _) _))) ?_)))))))
    refine zm rfl (wl_nil (st_tn (w_block ?_)))
    refine w_loopQ (X := Nat × List Int × Option Addr × Nat) (fun z => z.1 ≤ ss.length ∧ z.2.1 = cat (ss.take z.1)) (fun z => [(27, .int .i64 (z.1)), (6, .slice (z.2.2.1) (z.2.1).length (z.2.2.2))]) (fun z => [(24, slW 3 SL.encZ 1 (.slice (z.2.2.1) (z.2.1).length (z.2.2.2)) (z.2.1))]) (fun z => ss.length - z.1) ((0, [], _, _)) [(25, _), (26, _)] [] [24] rfl (rfl) (.cons rfl (.cons rfl (.nil _))) (.cons rfl (.cons rfl (.nil _))) (by
        try dsimp only
        exact ⟨Nat.zero_le _, rfl⟩) ?_
    rintro ⟨i, out, a_out, c_out⟩ ⟨hi, ho⟩
    refine w_norm2 (by dsimp only [List.cons_append, List.nil_append]) (by dsimp only [List.cons_append, List.nil_append]) ?_
    try dsimp only at hi ho ⊢
    refine w_seq (w_region (zd rfl (op_lss rfl rfl) (wl_nil (st_tn (w_seq (w_cond_d rfl (fun hc28 => ?_) (fun hc28 => ?_)))))))
    · -- c28.t
      obtain ⟨p, hp⟩ := getE (l := ss) (i := i) (by omega)
      have hlt := ltE hp
      have hps := hs p (List.mem_of_getElem? hp)
      have h1 := tot_snoc hp
      have h2 := tot_take ss (i + 1)
      have h3 := cat_len (ss.take i)
      refine w_skip (st_tn (w_seq (w_block (w_seq (w_region (zd rfl (op_idx rfl rfl tS117vb (Sl.ent (by first | exact Sl.app (by assumption) _ | exact Sl.app (Sl.app (by assumption) _) _)) (by omega)) ?_))))))
      refine zd rfl (op_ldx rfl tO36vb (by first | exact Sl.app (by assumption) _ | exact Sl.app (Sl.app (by assumption) _) _) (by assumption) (by rfl)) ?_
      refine za rfl (wl_nil (st_tn (w_region (zm rfl (zm rfl (wl_op [24] rfl rfl rfl rfl (op_append (lab := 24) (lab' := 33) rfl rfl tP36vb SL.enc1Z (Sl.app hps _) (by subst ho; omega) (by subst ho; omega)) ?_))))))
      rintro _ _ ⟨a33, c33, rfl, rfl⟩
      refine za rfl (wl_nil (st_bn (st_tn (w_region (zd rfl (op_add' rfl rfl (by omega)) ?_)))))
      refine zm rfl (wl_nil ?_)
      refine st_roundQ (x := (i, out, a_out, c_out)) ((i + 1, _, _, _)) [33] rfl (rfl) (.cons rfl (.cons rfl (.nil _))) (.cons rfl (.cons rfl (.nil _))) (by
          try dsimp only
          exact ⟨by omega, by rw [cat_snoc hp, ho]⟩) (by
          try dsimp only
          omega)
    · -- c28.f
      refine w_exit (st_te ?_)
      refine st_te ?_
      refine st_be (st_tn (w_seq ?_))
      rw [take_allS (by omega)] at ho
      refine w_region (zm rfl (za rfl (wl_nil (st_tn (w_ret (st_ret (vs := [_]) [24] Tryz.results57 ⟨rfl, trivial⟩ rfl ?_))))))
      refine ⟨[(lab, _)], rfl, ?_⟩
      rw [← ho]; exact ⟨_, _, rfl, rfl⟩
set_option maxHeartbeats 400000 in
set_option maxRecDepth 100000 in
theorem absS {σ : World} {F : List Res} (x : Int) (hx : -1000000000 ≤ x ∧ x ≤ 1000000000) : FnT Tryz.prog σ F 58 [.int .i64 x] [] (fun u ρ => u = .int .i64 (max x (-x)) ∧ ρ = []) := by
  refine fn_of 7 Tryz.func58 rfl Tryz.ntmps58 rfl ?_
  refine w_seq (w_region (za rfl (wl_nil (st_tn (w_seq (w_region (zm rfl (zm rfl (zd rfl (op_neg rfl (by omega)) ?_)))))))))
  refine zd rfl (op_max rfl rfl) (za rfl (wl_nil (st_tn (w_ret (st_ret (vs := [_]) [] Tryz.results58 ⟨rfl, trivial⟩ rfl ?_)))))
  refine ⟨_, rfl, ?_⟩
  exact ⟨rfl, rfl⟩
set_option maxHeartbeats 400000 in
set_option maxRecDepth 100000 in
theorem dirS {σ : World} {F : List Res} (x : ChV) : FnT Tryz.prog σ F 60 [.agg (encCh x).toArray] [] (fun u ρ => u = .int .i64 (if x.2.2 < x.2.1 then -1 else if x.2.2 > x.2.1 then 1 else 0) ∧ ρ = []) := by
  refine fn_of 8 Tryz.func60 rfl Tryz.ntmps60 rfl ?_
  refine w_seq (w_region (wl_op [] rfl rfl rfl rfl (op_box (T := 52) (l := 1) rfl) ?_))
  rintro _ _ ⟨b1, rfl, rfl⟩
  refine za rfl (wl_nil (st_tn (w_seq (w_region (zd rfl (op_fieldAddr (off := 2) rfl tF52_2vb) (zd rfl (op_load1 rfl tO3vb (Ent.lab (l := 1) rfl (says_cel 2))) (zd rfl (op_fieldAddr (off := 1) rfl tF52_1vb) (zd rfl (op_load1 rfl tO3vb (Ent.lab (l := 1) rfl (says_cel 1))) (zd rfl (op_fn Tryz.func76 rfl rfl rfl (compareI x.2.2 x.2.1)) (za rfl (wl_nil (st_tn (w_ret ?_)))))))))))))
  refine st_ret (vs := [_]) [] Tryz.results60 ⟨rfl, trivial⟩ rfl ?_
  refine ⟨_, rfl, ?_⟩
  exact ⟨rfl, rfl⟩
set_option maxHeartbeats 600000 in
set_option maxRecDepth 100000 in
theorem relS {σ : World} {F : List Res} (x : ChV) (h1 : -1000000 ≤ x.2.1 ∧ x.2.1 ≤ 1000000) (h2 : -1000000 ≤ x.2.2 ∧ x.2.2 ≤ 1000000) : FnT Tryz.prog σ F 40 [.agg (encCh x).toArray] [] (fun u ρ => u = .int .i64 (min (max (x.2.2 - x.2.1) (-(x.2.2 - x.2.1)) * 1000000 / max (max x.2.1 (-x.2.1)) 1) 1000000000) ∧ ρ = []) := by
  refine fn_of 16 Tryz.func40 rfl Tryz.ntmps40 rfl ?_
  refine w_seq (w_region (wl_op [] rfl rfl rfl rfl (op_box (T := 52) (l := 1) rfl) ?_))
  rintro _ _ ⟨b1, rfl, rfl⟩
  refine za rfl (wl_nil (st_tn (w_seq ?_)))
  refine w_drawW (fun β => [⟨3, [], [], [], noW (_), false, [], []⟩, ⟨4, [0], [], [], noW (_), false, [], []⟩, ⟨5, [], [], [], noW (_), false, [], []⟩, ⟨6, [2], [], [], noW (_), false, [], []⟩, ⟨7, [1, 3], [], [], noW (_), false, [], []⟩, ⟨8, [4], [], [], noW (_), false, [], []⟩, ⟨9, [5], [], [], noW (_), false, [], []⟩, ⟨10, [], [], [], noW (_), false, [], []⟩, ⟨11, [7], [], [], noW (_), false, [], []⟩, ⟨12, [8], [], [], noW (_), false, [], []⟩, ⟨13, [9], [], [], noW (_), false, [], []⟩]) [] [1] [⟨3, [], [], false, [], []⟩, ⟨4, [0], [], false, [], []⟩, ⟨5, [], [], false, [], []⟩, ⟨6, [2], [], false, [], []⟩, ⟨7, [1, 3], [], false, [], []⟩, ⟨8, [4], [], false, [], []⟩, ⟨9, [5], [], false, [], []⟩, ⟨10, [], [], false, [], []⟩, ⟨11, [7], [], false, [], []⟩, ⟨12, [8], [], false, [], []⟩, ⟨13, [9], [], false, [], []⟩] [[], [], [], [], [], [], [], [], [], [], []] [[], [], [], [], [], [], [], [], [], [], []] tMixvb (fun _ => by rfl) (fun _ => by rfl) (by kernel_rfl) (by kernel_rfl) (by rfl) (by rfl)
      (fun β => ⟨.p rfl (by intro X; exact op_fieldAddr (off := 2) rfl tF52_2vb),
      ⟨.p rfl (by intro X; rintro _ _ ⟨rfl, rfl⟩; exact op_load1 rfl tO3vb (Ent.lab (l := 1) rfl (says_cel 2))),
      ⟨.p rfl (by intro X; exact op_fieldAddr (off := 1) rfl tF52_1vb),
      ⟨.p rfl (by intro X; rintro _ _ ⟨rfl, rfl⟩; exact op_load1 rfl tO3vb (Ent.lab (l := 1) rfl (says_cel 1))),
      ⟨.p rfl (by intro X; rintro _ _ ⟨rfl, rfl⟩ _ _ ⟨rfl, rfl⟩; exact op_sub' rfl rfl (by omega)),
      ⟨.p rfl (by intro X; rintro _ _ ⟨rfl, rfl⟩; exact op_fn Tryz.func58 rfl rfl rfl (absS (x.2.2 - x.2.1) (by omega))),
      ⟨.p rfl (by intro X; rintro _ _ ⟨rfl, rfl⟩; exact op_mul' rfl rfl (by omega)),
      ⟨.p rfl (by intro X; exact op_fieldAddr (off := 1) rfl tF52_1vb),
      ⟨.p rfl (by intro X; rintro _ _ ⟨rfl, rfl⟩; exact op_load1 rfl tO3vb (Ent.lab (l := 1) rfl (says_cel 1))),
      ⟨.p rfl (by intro X; rintro _ _ ⟨rfl, rfl⟩; exact op_fn Tryz.func58 rfl rfl rfl (absS x.2.1 (by omega))),
      ⟨.p rfl (by intro X; rintro _ _ ⟨rfl, rfl⟩; exact op_max rfl rfl),
      trivial⟩⟩⟩⟩⟩⟩⟩⟩⟩⟩⟩)
      (fun β β' => ⟨fun _ => by rfl, ⟨fun _ => by rfl, ⟨fun _ => by rfl, ⟨fun _ => by rfl, ⟨fun _ => by rfl, ⟨fun _ => by rfl, ⟨fun _ => by rfl, ⟨fun _ => by rfl, ⟨fun _ => by rfl, ⟨fun _ => by rfl, ⟨fun _ => by rfl, trivial⟩⟩⟩⟩⟩⟩⟩⟩⟩⟩⟩) ?_
  intro β
  rintro _ _ ⟨rfl, rfl⟩ _ _ ⟨rfl, rfl⟩ _ _ ⟨rfl, rfl⟩ _ _ ⟨rfl, rfl⟩ _ _ ⟨rfl, rfl⟩ _ _ ⟨rfl, rfl⟩ _ _ ⟨rfl, rfl⟩ _ _ ⟨rfl, rfl⟩ _ _ ⟨rfl, rfl⟩ _ _ ⟨rfl, rfl⟩ _ _ ⟨rfl, rfl⟩
  refine wl_norm (e' := [(9, _), (13, _)]) (.cons rfl (.cons rfl (.nil _))) (by dsimp only [cond_false, cond_true, List.nil_append, List.cons_append]) ?_
  refine zd rfl (op_quoN rfl rfl (by omega) (by omega) (by omega)) ?_
  refine zd rfl (op_min rfl rfl) (za rfl (wl_nil (st_tn (w_ret (st_ret (vs := [_]) [] Tryz.results40 ⟨rfl, trivial⟩ rfl ?_)))))
  refine ⟨_, rfl, ?_⟩
  exact ⟨rfl, rfl⟩
set_option maxHeartbeats 400000 in
set_option maxRecDepth 100000 in
theorem orS {σ : World} {F : List Res} {a : Option Addr} {c : Nat} (x y : Int) (h : Sl σ F SL.encZ 1 (.slice a 2 c) [x, y]) : FnT Tryz.prog σ F 75 [.slice a 2 c] [] (fun u ρ => u = .int .i64 (if x ≠ 0 then x else y) ∧ ρ = []) := by
  refine fn_of 18 Tryz.func75 rfl Tryz.ntmps75 rfl ?_
  have hl2 : [x, y].length = 2 := rfl
  refine w_seq (w_region (za rfl (wl_nil (st_tn (w_seq (w_region (za rfl (wl_nil (st_tn (w_seq (w_seq (w_region (zm rfl ?_)))))))))))))
  refine zd rfl (op_lenT rfl tS36vb (Sl.ent (h.app _))) (zm rfl (wl_nil (st_tn (w_block ?_))))
  refine w_loopQ (X := Nat) (fun z => z ≤ 2 ∧ (0 < z → x = 0) ∧ (1 < z → y = 0)) (fun z => [(8, .int .i64 (z))]) (fun _ => []) (fun z => 2 - z) (0) [(3, _), (6, _), (7, _)] [] [] rfl (rfl) (.cons rfl (.nil _)) (.cons rfl (.cons rfl (.cons rfl (.nil _)))) (by
      try dsimp only
      exact ⟨Nat.zero_le _, fun h => absurd h (by omega), fun h => absurd h (by omega)⟩) ?_
  rintro i ⟨hi, h0, h1⟩
  refine w_norm2 (by dsimp only [List.cons_append, List.nil_append]) (by dsimp only [List.cons_append, List.nil_append]) ?_
  try dsimp only at hi h0 h1 ⊢
  refine w_seq (w_region (zd rfl (op_lss rfl rfl) (wl_nil (st_tn (w_seq (w_cond_d rfl (fun hc9 => ?_) (fun hc9 => ?_)))))))
  · -- c9.t
    obtain ⟨z, hz⟩ := getE (l := [x, y]) (i := i) (by omega)
    refine w_skip (st_tn (w_seq (w_block (w_seq (w_region (zd rfl (op_idx rfl rfl tS36vb (Sl.ent (h.app _)) (by omega)) ?_))))))
    refine zd rfl (op_ldx rfl tO3vb (h.app _) (by assumption) (by rfl)) ?_
    refine za rfl (wl_nil (st_tn (w_seq (w_region (zm rfl (zm rfl (zd rfl (op_neq rfl rfl) (wl_nil (st_tn (w_cond_d rfl (fun hc14 => ?_) (fun hc14 => ?_)))))))))))
    · -- c14.t
      refine w_seq (w_region (zm rfl (za rfl (wl_nil (st_tn (w_ret (st_br (st_tr (st_tr (st_br (st_tr (st_ret (vs := [_]) [] Tryz.results75 ⟨rfl, trivial⟩ rfl ?_))))))))))))
      refine ⟨_, rfl, ?_⟩
      refine ⟨?_, rfl⟩
      by_cases hi0 : i = 0
      · subst hi0; have hzx : z = x := by simpa using hz.symm
        subst hzx; rw [if_pos hc14]; rfl
      · have hi1 : i = 1 := by omega
        subst hi1; have hzy : z = y := by simpa using hz.symm
        subst hzy; rw [if_neg (by have := h0 (by omega); omega)]; rfl
    · -- c14.f
      refine w_skip (st_bn (st_tn (w_region (zd rfl (op_add' rfl rfl (by omega)) ?_))))
      refine zm rfl (wl_nil ?_)
      refine st_roundQ (x := i) (i + 1) [] rfl (rfl) (.cons rfl (.nil _)) (.cons rfl (.cons rfl (.cons rfl (.nil _)))) (by
          try dsimp only
          refine ⟨by omega, fun _ => ?_, fun hq => ?_⟩
          · by_cases hi0 : i = 0
            · subst hi0; have : z = x := by simpa using hz.symm
              omega
            · exact h0 (by omega)
          · have hi1 : i = 1 := by omega
            subst hi1; have : z = y := by simpa using hz.symm
            omega) (by
          try dsimp only
          omega)
  · -- c9.f
    refine w_exit (st_te ?_)
    refine st_te ?_
    refine st_be (st_tn (w_seq (w_region (zm rfl (za rfl (wl_nil (st_tn (w_ret (st_ret (vs := [_]) [] Tryz.results75 ⟨rfl, trivial⟩ rfl ?_)))))))))
    refine ⟨_, rfl, ?_⟩
    refine ⟨?_, rfl⟩
    have e1 := h0 (by omega)
    have e2 := h1 (by omega)
    rw [if_neg (by omega), e2]; rfl
def lessN (l : List Int) (v : Int) : Int := ((l.filter fun w => decide (w < v)).length : Int)
def sameN (l : List Int) (v : Int) : Int := ((l.filter fun w => decide (w = v)).length : Int)
def rankL (l : List Int) : List Int := l.map fun v => 2 * lessN l v + sameN l v + 1
theorem less_snoc {l : List Int} {i : Nat} {w v : Int} (h : l[i]? = some w) : lessN (l.take (i + 1)) v = lessN (l.take i) v + if w < v then 1 else 0 := by
  unfold lessN
  rw [take_snocS h, List.filter_append]
  by_cases hq : w < v <;> simp [hq]
theorem same_snoc {l : List Int} {i : Nat} {w v : Int} (h : l[i]? = some w) : sameN (l.take (i + 1)) v = sameN (l.take i) v + if w = v then 1 else 0 := by
  unfold sameN
  rw [take_snocS h, List.filter_append]
  by_cases hq : w = v <;> simp [hq]
set_option maxHeartbeats 1000000 in
set_option maxRecDepth 100000 in
theorem ranksS {σ : World} {F : List Res} {a : Option Addr} {c : Nat} {l : List Int} (lab : Nat) (g : Sl σ F SL.encZ 1 (.slice a l.length c) l) (hl : l.length ≤ 100) :
    FnT Tryz.prog σ F 56 [.slice a l.length c] [] (NewI (rankL l) lab) := by
  refine fn_of 45 Tryz.func56 rfl Tryz.ntmps56 rfl ?_
  refine w_seq (w_region (za rfl (wl_nil (st_tn (w_seq (w_region (za rfl (wl_nil (st_tn (w_seq (w_seq (w_region (zm rfl ?_)))))))))))))
  refine zd rfl (op_lenT rfl tS36vb (Sl.ent (g.app _))) (zm rfl (wl_nil (st_tn (w_block (w_emp 3 (slO_nil 3 1) ?_)))))
  refine w_loopQ (X := List Int × Option Addr × Nat × Nat) (fun z => z.2.2.2 ≤ l.length ∧ z.1 = (rankL l).take z.2.2.2) (fun z => [(3, .slice (z.2.1) (z.1).length (z.2.2.1)), (12, .int .i64 (z.2.2.2))]) (fun z => [(3, slW 3 SL.encZ 1 (.slice (z.2.1) (z.1).length (z.2.2.1)) (z.1))]) (fun z => l.length - z.2.2.2) (([], none, 0, 0)) [(0, _), (10, _), (11, _)] [] [3] rfl (rfl) (.cons rfl (.cons rfl (.nil _))) (.cons rfl (.cons rfl (.cons rfl (.nil _)))) (by
      try dsimp only
      exact ⟨Nat.zero_le _, rfl⟩) ?_
  rintro ⟨out, a_out, c_out, i⟩ ⟨hi, ho⟩
  refine w_norm2 (by dsimp only [List.cons_append, List.nil_append]) (by dsimp only [List.cons_append, List.nil_append]) ?_
  try dsimp only at hi ho ⊢
  refine w_seq (w_region (zd rfl (op_lss rfl rfl) (wl_nil (st_tn (w_seq (w_cond_d rfl (fun hc13 => ?_) (fun hc13 => ?_)))))))
  · -- c13.t
    obtain ⟨v, hv⟩ := getE (l := l) (i := i) (by omega)
    have hv2 : (rankL l)[i]? = some (2 * lessN l v + sameN l v + 1) := by unfold rankL; rw [List.getElem?_map, hv]; rfl
    have hol : out.length ≤ i := by rw [ho, List.length_take]; omega
    refine w_skip (st_tn (w_seq (w_block (w_seq (w_region (zd rfl (op_idx rfl rfl tS36vb (Sl.ent (g.app _)) (by omega)) ?_))))))
    refine zd rfl (op_ldx rfl tO3vb (g.app _) (by assumption) (by rfl)) ?_
    refine za rfl (wl_nil (st_tn (w_seq (w_region (za rfl (za rfl (wl_nil (st_tn (w_seq (w_seq (w_region (zm rfl (zd rfl (op_lenT rfl tS36vb (Sl.ent (g.app _))) ?_)))))))))))))
    refine zm rfl (wl_nil (st_tn (w_block ?_)))
    refine w_loopQ (X := Int × Int × Nat) (fun z => z.2.2 ≤ l.length ∧ (z.1 = lessN (l.take z.2.2) v ∧ z.2.1 = sameN (l.take z.2.2) v) ∧ (0 ≤ z.1 ∧ 0 ≤ z.2.1) ∧ z.1 + z.2.1 ≤ z.2.2) (fun z => [(6, .int .i64 (z.1)), (7, .int .i64 (z.2.1)), (18, .int .i64 (z.2.2))]) (fun _ => []) (fun z => l.length - z.2.2) ((0, 0, 0)) [(0, _), (3, _), (5, _), (10, _), (11, _), (12, _), (16, _), (17, _)] [(3, _)] [3] rfl (rfl) (.cons rfl (.cons rfl (.cons rfl (.nil _)))) (.cons rfl (.cons rfl (.cons rfl (.cons rfl (.cons rfl (.cons rfl (.cons rfl (.cons rfl (.nil _))))))))) (by
        try dsimp only
        exact ⟨Nat.zero_le _, ⟨rfl, rfl⟩, ⟨Int.le_refl _, Int.le_refl _⟩, Int.le_refl _⟩) ?_
    rintro ⟨ls, sm, j⟩ ⟨hj, ⟨hls, hsm⟩, hb0, hb1⟩
    refine w_norm2 (by dsimp only [List.cons_append, List.nil_append]) (by dsimp only [List.cons_append, List.nil_append]) ?_
    try dsimp only at hj hls hsm hb0 hb1 ⊢
    refine w_seq (w_region (zd rfl (op_lss rfl rfl) (wl_nil (st_tn (w_seq (w_cond_d rfl (fun hc19 => ?_) (fun hc19 => ?_)))))))
    · -- c19.t
      obtain ⟨w, hw⟩ := getE (l := l) (i := j) (by omega)
      refine w_skip (st_tn (w_seq (w_block (w_seq (w_region (zd rfl (op_idx rfl rfl tS36vb (Sl.ent (g.app _)) (by omega)) ?_))))))
      refine zd rfl (op_ldx rfl tO3vb (g.app _) (by assumption) (by rfl)) ?_
      refine za rfl (wl_nil (st_tn (w_block (w_seq (w_region (zm rfl (zm rfl (zd rfl (op_lss rfl rfl) (za rfl (wl_nil (st_tn (w_cond_d rfl (fun hc22 => ?_) (fun hc22 => ?_)))))))))))))
      · -- c22.t
        refine w_region (zm rfl (zd rfl (op_add' rfl rfl (by omega)) ?_))
        refine za rfl (wl_nil (st_bn (st_bn (st_tn (w_region (zd rfl (op_add' rfl rfl (by omega)) ?_))))))
        refine zm rfl (wl_nil ?_)
        refine st_roundQ (x := (ls, sm, j)) ((ls + 1, sm, j + 1)) [3] rfl (rfl) (.cons rfl (.cons rfl (.cons rfl (.nil _)))) (.cons rfl (.cons rfl (.cons rfl (.cons rfl (.cons rfl (.cons rfl (.cons rfl (.cons rfl (.nil _))))))))) (by
            try dsimp only
            exact ⟨by omega, ⟨by rw [less_snoc hw, if_pos hc22, hls], by rw [same_snoc hw, if_neg (by omega), hsm]; omega⟩, by omega, by omega⟩) (by
            try dsimp only
            omega)
      · -- c22.f
        refine w_seq (w_region (zm rfl (zm rfl (zd rfl (op_eql rfl rfl) (za rfl (wl_nil (st_tn (w_cond_d rfl (fun hc28 => ?_) (fun hc28 => ?_)))))))))
        · -- c28.t
          refine w_region (zm rfl (zd rfl (op_add' rfl rfl (by omega)) ?_))
          refine za rfl (wl_nil (st_bn (st_bn (st_tn (w_region (zd rfl (op_add' rfl rfl (by omega)) ?_))))))
          refine zm rfl (wl_nil ?_)
          refine st_roundQ (x := (ls, sm, j)) ((ls, sm + 1, j + 1)) [3] rfl (rfl) (.cons rfl (.cons rfl (.cons rfl (.nil _)))) (.cons rfl (.cons rfl (.cons rfl (.cons rfl (.cons rfl (.cons rfl (.cons rfl (.cons rfl (.nil _))))))))) (by
              try dsimp only
              exact ⟨by omega, ⟨by rw [less_snoc hw, if_neg hc22, hls]; omega, by rw [same_snoc hw, if_pos hc28, hsm]⟩, by omega, by omega⟩) (by
              try dsimp only
              omega)
        · -- c28.f
          refine w_skip (st_bn (st_bn (st_tn (w_region (zd rfl (op_add' rfl rfl (by omega)) ?_)))))
          refine zm rfl (wl_nil ?_)
          refine st_roundQ (x := (ls, sm, j)) ((ls, sm, j + 1)) [3] rfl (rfl) (.cons rfl (.cons rfl (.cons rfl (.nil _)))) (.cons rfl (.cons rfl (.cons rfl (.cons rfl (.cons rfl (.cons rfl (.cons rfl (.cons rfl (.nil _))))))))) (by
              try dsimp only
              exact ⟨by omega, ⟨by rw [less_snoc hw, if_neg hc22, hls]; omega, by rw [same_snoc hw, if_neg hc28, hsm]; omega⟩, by omega, by omega⟩) (by
              try dsimp only
              omega)
    · -- c19.f
      refine w_exit (st_te ?_)
      refine st_te ?_
      refine st_be (st_tn ?_)
      rw [take_allS (show ¬ j < l.length by omega)] at hls hsm
      refine w_region (zm rfl (zm rfl (zd rfl (op_mul' rfl rfl (by omega)) ?_)))
      refine zm rfl (zd rfl (op_add' rfl rfl (by omega)) ?_)
      refine zd rfl (op_add' rfl rfl (by omega)) ?_
      refine wl_op [] rfl rfl rfl rfl (op_buildSlice (enc := SL.encZ) (l := [2 * ls + sm + 1]) (lab := 41) tL36_1vb rfl rfl (fun _ => rfl) rfl) ?_
      rintro _ _ ⟨a41, c41, rfl, rfl⟩
      refine wl_op [3] rfl rfl rfl rfl (op_append (lab := 3) (lab' := 42) rfl rfl tP36vb SL.enc1Z (Sl.lab 41 rfl (by simp [maxLen])) (by first | omega | (simp; done) | (simp; omega) | (simp [*]; omega)) (by first | omega | (simp; done) | (simp; omega) | (simp [*]; omega))) ?_
      rintro _ _ ⟨a42, c42, rfl, rfl⟩
      refine za rfl (wl_nil (st_bn (st_tn (w_region (zd rfl (op_add' rfl rfl (by omega)) ?_)))))
      refine zm rfl (wl_nil ?_)
      refine st_roundQ (x := (out, a_out, c_out, i)) ((_, _, _, i + 1)) [42] rfl (rfl) (.cons rfl (.cons rfl (.nil _))) (.cons rfl (.cons rfl (.cons rfl (.nil _)))) (by
          try dsimp only
          exact ⟨by omega, by rw [take_snocS hv2, ← ho, hls, hsm]⟩) (by
          try dsimp only
          omega)
  · -- c13.f
    refine w_exit (st_te ?_)
    refine st_te ?_
    refine st_be (st_tn (w_seq (w_region (zm rfl (za rfl (wl_nil (st_tn (w_ret (st_ret (vs := [_]) [3] Tryz.results56 ⟨rfl, trivial⟩ rfl ?_)))))))))
    refine ⟨[(lab, _)], rfl, ?_⟩
    have hin : (rankL l).take i = rankL l := List.take_of_length_le (by unfold rankL; rw [List.length_map]; omega)
    rw [hin] at ho
    subst ho; exact ⟨_, _, rfl, rfl⟩
set_option maxHeartbeats 1000000 in
set_option maxRecDepth 100000 in
theorem pointsS {σ : World} {F : List Res} {a : Option Addr} {c : Nat} {l : List Int} (lab : Nat) (fr : Int) (hf : 0 ≤ fr ∧ fr ≤ 255) (g : Sl σ F encY8 1 (.slice a l.length c) l) (hl : l.length ≤ 14) (hb : ∀ x ∈ l, 0 ≤ x ∧ x ≤ 255) :
    FnT Tryz.prog σ F 37 [.int .u8 fr, .slice a l.length c] [] (fun u ρ => ∃ (a' : Option Addr) (c' : Nat), u = Ser.sr ⟨⟨#[97, 112, 105]⟩, ⟨#[]⟩, 1, 0, 0⟩ fr (.slice a' l.length c') ∧ ρ = [(lab, slW 3 SL.encZ 1 (.slice a' l.length c') l)]) := by
  refine fn_of 31 Tryz.func37 rfl Tryz.ntmps37 rfl ?_
  refine w_seq (w_region (wl_op [] rfl rfl rfl rfl (op_alloc (l := 4) tN38vb) ?_))
  rintro _ _ ⟨b4, rfl, rfl⟩
  refine wl_nil (st_tn (w_seq (w_region (zm rfl (zd rfl (op_convI64 rfl (by rw [Tryz.underlying5]; rfl) Tryz.underlying3 (by omega)) ?_)))))
  refine zd rfl (op_build tB38vb rfl rfl) (wl_op [] rfl rfl rfl rfl (op_alloc (l := 5) tN38vb) ?_)
  rintro _ _ ⟨b5, rfl, rfl⟩
  refine wl_op0 [5] rfl rfl rfl (op_store rfl rfl tZ38vb (by rfl) (by rfl) (by exact Nat.le_of_ble_eq_true rfl)) ?_
  rintro _ _ ⟨rfl, rfl⟩
  refine wl_nil (st_tn (w_seq (w_seq (w_wk 5 (cel b5 [.string ⟨#[97, 112, 105]⟩, .string ⟨#[]⟩, .int .i64 1, .int .i64 0, .int .i64 0, .int .i64 fr, .slice none 0 0] 38) rfl (fun _ h => h) ?_))))
  refine w_region (za rfl (wl_nil (st_tn (w_block (w_emp 95 (slO_nil 3 1) ?_)))))
  refine w_loopQ (X := Nat × List Int × Option Addr × Nat) (fun z => z.1 ≤ l.length ∧ z.2.1 = l.take z.1) (fun z => [(6, .int .i64 (z.1))]) (fun z => [(95, slW 3 SL.encZ 1 (.slice (z.2.2.1) (z.2.1).length (z.2.2.2)) (z.2.1)), (5, cel b5 [.string ⟨#[97, 112, 105]⟩, .string ⟨#[]⟩, .int .i64 1, .int .i64 0, .int .i64 0, .int .i64 fr, .slice (z.2.2.1) (z.2.1).length (z.2.2.2)] 38)]) (fun z => l.length - z.1) ((0, [], none, 0)) [(1, _), (4, _), (5, _)] [(4, _)] [95, 5, 4] rfl (rfl) (.cons rfl (.nil _)) (.cons rfl (.cons rfl (.cons rfl (.nil _)))) (by
      try dsimp only
      exact ⟨Nat.zero_le _, rfl⟩) ?_
  rintro ⟨i, er, a_er, c_er⟩ ⟨hi, he⟩
  refine w_norm2 (by dsimp only [List.cons_append, List.nil_append]) (by dsimp only [List.cons_append, List.nil_append]) ?_
  try dsimp only at hi he ⊢
  refine w_seq (w_seq (w_cutL [(17, .bool (decide ((i : Int) < l.length ∧ (i : Int) < 14)))] [1, 4, 5, 6] [95, 5, 4] rfl (fun K' hK => ?_) ?_))
  · -- cut r3
    refine w_region (zm rfl (zm rfl (zd rfl (op_lenT rfl tS90vb (Sl.ent (g.app _))) (zd rfl (op_lss rfl rfl) (zm rfl (wl_gsplit (t := 14) rfl (fun hg14 => ?_) (fun hg14 => ?_)))))))
    · -- 14 is True
      refine wl_wanted_det rfl rfl rfl rfl rfl rfl rfl (op_move rfl) (wl_wanted_det rfl rfl rfl rfl rfl rfl rfl (op_lss rfl rfl) (zd rfl (op_pick_t rfl rfl) (wl_nil (st_tn ?_))))
      exact cut_done1 [95, 5, 4] hK rfl (by first | (rw [decide_eq_decide]; omega) | (symm; rw [decide_eq_false_iff_not]; omega) | (symm; rw [decide_eq_true_iff]; omega) | (simp; done) | (simp; omega) | (simp [*]; done) | (simp [*]; omega)) (by rfl) rfl rfl
    · -- 14 is False
      refine wl_unwanted rfl rfl rfl rfl rfl rfl rfl rfl (wl_unwanted rfl rfl rfl rfl rfl rfl rfl rfl (zd rfl (op_pick_f rfl rfl) (wl_nil (st_tn ?_))))
      exact cut_done1 [95, 5, 4] hK rfl (by first | (rw [decide_eq_decide]; omega) | (symm; rw [decide_eq_false_iff_not]; omega) | (symm; rw [decide_eq_true_iff]; omega) | (simp; done) | (simp; omega) | (simp [*]; done) | (simp [*]; omega)) (by rfl) rfl rfl
  · -- behind r3
    show W _ _ _ _ _ [(17, _), (1, _), (4, _), (5, _), (6, _)] [(95, _), (5, _), (4, _)] _
    refine w_cond_d rfl (fun hc17 => ?_) (fun hc17 => ?_)
    · -- c17.t
      obtain ⟨x, hx⟩ := getE (l := l) (i := i) (by omega)
      have hxb := hb x (List.mem_of_getElem? hx)
      have hel : er.length ≤ i := by rw [he, List.length_take]; omega
      refine w_skip (st_tn (w_seq (w_block ?_)))
      refine w_drawW (fun β => [⟨20, [], [], [], noW (_), false, [], []⟩, ⟨21, [0], [], [], noW (_), false, [], []⟩, ⟨22, [], [], [], noW (_), false, [], []⟩, ⟨23, [], [], [], noW (_), false, [], []⟩, ⟨24, [2, 3], [], [], noW (_), false, [], []⟩, ⟨25, [4], [], [], noW (_), false, [], []⟩, ⟨26, [5], [], [], noW (_), false, [], []⟩, ⟨27, [6], [], [], fun w => DetW _ _, false, [], []⟩]) [] [5, 1, 6] [⟨20, [], [], false, [], []⟩, ⟨21, [0], [], false, [], []⟩, ⟨22, [], [], false, [], []⟩, ⟨23, [], [], false, [], []⟩, ⟨24, [2, 3], [], false, [], []⟩, ⟨25, [4], [], false, [], []⟩, ⟨26, [5], [], false, [], []⟩, ⟨27, [6], [], false, [], []⟩] [[], [], [], [], [], [], [], []] [[], [], [], [], [], [], [], []] tMixvb (fun _ => by rfl) (fun _ => by rfl) (by kernel_rfl) (by kernel_rfl) (by rfl) (by rfl)
          (fun β => ⟨.p rfl (by intro X; exact op_fieldAddr (off := 6) rfl tF38_5vb),
          ⟨.p rfl (by intro X; rintro _ _ ⟨rfl, rfl⟩; exact op_load1 rfl tO36vb (Ent.lab (l := 5) rfl (says_cel 6))),
          ⟨.p rfl (by intro X; exact op_move rfl),
          ⟨.p rfl (by intro X; exact op_move rfl),
          ⟨.p rfl (by intro X; rintro _ _ ⟨rfl, rfl⟩ _ _ ⟨rfl, rfl⟩; exact op_idx rfl rfl tS90vb (Sl.ent (Sl.app (Sl.app g _) _)) (by omega)),
          ⟨.p rfl (by intro X; rintro _ _ ⟨rfl, rfl⟩; exact op_ldx rfl tO5vb (Sl.app (Sl.app g _) _) (by assumption) (by rfl)),
          ⟨.p rfl (by intro X; rintro _ _ ⟨rfl, rfl⟩; exact op_convI64 rfl (by rw [Tryz.underlying5]; rfl) Tryz.underlying3 (by omega)),
          ⟨.px rfl (by intro X; rintro _ _ ⟨rfl, rfl⟩; refine OpT.mono (op_buildSlice (enc := SL.encZ) (l := [x]) (lab := 27) tL36_1vb rfl rfl (fun _ => rfl) rfl) ?_; rintro _ _ ⟨a27, c27, rfl, rfl⟩; obtain ⟨w, rfl, rfl⟩ : ∃ w : Wt, w.a = a27 ∧ w.c = c27 := ⟨{ a := a27, c := c27 }, rfl, rfl⟩; exact ⟨w, rfl, rfl⟩),
          trivial⟩⟩⟩⟩⟩⟩⟩⟩)
          (fun β β' => ⟨fun _ => by rfl, ⟨fun _ => by rfl, ⟨fun _ => by rfl, ⟨fun _ => by rfl, ⟨fun _ => by rfl, ⟨fun _ => by rfl, ⟨fun _ => by rfl, ⟨fun _ => by rfl, trivial⟩⟩⟩⟩⟩⟩⟩⟩) ?_
      intro β
      rintro _ _ ⟨rfl, rfl⟩ _ _ ⟨rfl, rfl⟩ _ _ ⟨rfl, rfl⟩ _ _ ⟨rfl, rfl⟩ _ _ ⟨rfl, rfl⟩ _ _ ⟨rfl, rfl⟩ _ _ ⟨rfl, rfl⟩ _ _ ⟨rfl, rfl⟩
      generalize (β 7).a = a27
      generalize (β 7).c = c27
      refine wl_norm (e' := [(1, _), (4, _), (5, _), (6, _), (21, _), (27, _)]) (.cons rfl (.cons rfl (.cons rfl (.cons rfl (.cons rfl (.cons rfl (.nil _))))))) (by dsimp only [cond_false, cond_true, List.nil_append, List.cons_append]) ?_
      refine wl_op [95] rfl rfl rfl rfl (op_append (lab := 95) (lab' := 28) rfl rfl tP36vb SL.enc1Z (Sl.lab 27 rfl (by simp [maxLen])) (by first | omega | (simp; done) | (simp; omega) | (simp [*]; omega)) (by first | omega | (simp; done) | (simp; omega) | (simp [*]; omega))) ?_
      rintro _ _ ⟨a28, c28, rfl, rfl⟩
      refine zd rfl (op_fieldAddr (off := 6) rfl tF38_5vb) (wl_op0 [5] rfl rfl rfl (op_store rfl rfl tZ36vb (by rfl) (by rfl) (by exact Nat.le_of_ble_eq_true rfl)) ?_)
      rintro _ _ ⟨rfl, rfl⟩
      refine wl_nil (st_bn (st_tn (w_region (zm rfl (zd rfl (op_add' rfl rfl (by omega)) ?_)))))
      refine za rfl (wl_nil ?_)
      refine st_roundQ (x := (i, er, a_er, c_er)) ((i + 1, _, _, _)) [28, 5, 4] rfl (rfl) (.cons rfl (.nil _)) (.cons rfl (.cons rfl (.cons rfl (.nil _)))) (by
          try dsimp only
          exact ⟨by omega, by rw [take_snocS hx, ← he]⟩) (by
          try dsimp only
          omega)
    · -- c17.f
      refine w_exit (st_te ?_)
      refine st_te ?_
      refine st_be (st_tn (w_seq (w_region (zd rfl (op_loadA rfl tA38vb (Ent.lab (l := 5) rfl (says_cel 0)) (Nat.le_of_ble_eq_true rfl)) (wl_op0 [4] rfl rfl rfl (op_store rfl rfl tZ38vb (by rfl) (by rfl) (by exact Nat.le_of_ble_eq_true rfl)) ?_)))))
      rintro _ _ ⟨rfl, rfl⟩
      refine wl_nil (st_tn (w_ret (st_ret (vs := [_]) [95] Tryz.results37 ⟨⟨_, rfl, Ent.mono (Ent.lab (l := 4) rfl (says_cel 0)) (fun _ h => run_load_agg tA38vb h (Nat.le_of_ble_eq_true rfl))⟩, trivial⟩ rfl ?_)))
      refine ⟨[(lab, _)], rfl, ?_⟩
      have hin : l.take i = l := take_allS (by omega)
      rw [hin] at he
      subst he; exact ⟨_, _, rfl, rfl⟩
end Go.Proofs.YtecmigildpkigaaGreat
namespace Go.Proofs.YtecmigildpkigaaGreat
open Go Go.SL Go.RowKit Go.SegP
set_option linter.unusedVariables false
set_option linter.unusedSimpArgs false
section
variable {P : Program} {σ : World} {n : Nat} {F : List Res} {e : Env} {dst : Option Tmp} {ty : TypeId} {pos : String} {after : Array Edge} {guard : Option (Nat × Bool)}
theorem op_indexArr {x y : Operand} {cs : List Value} {v : Value} {T E len i : Nat} (hx : ev e x = some (.agg cs.toArray)) (hy : ev e y = some (.int .i64 i)) (hu : P.underlying T = some (.array len E)) (hE : ∀ w, (isAgg E).run P w = .ok false w) (hz : ∀ w, (sizeOf E).run P w = .ok 1 w) (hi : i < len) (hv : cs[i]? = some v) : OpT P σ n F ⟨dst, .index T x y, ty, pos, after, guard⟩ e [] (Det v) :=
  opt_run fun a w hr ho => by
    simp [execOp, hr.ev hx, hr.ev hy, Instr.index, asIntOf, run_underlying hu, Sem.run_bind, hz, part, hE, hv, hi]
end
abbrev Wf := Nat → Nat → Int
def HoldsW (A : List Int) (W : Wf) : Prop := A.length = 34881 ∧ ∀ k s, k < 33 → s < 1057 → A[k * 1057 + s]? = some (W k s)
theorem HoldsW.congr {A : List Int} {W W' : Wf} (h : HoldsW A W) (he : ∀ k s, W k s = W' k s) : HoldsW A W' := ⟨h.1, fun k s h1 h2 => by rw [h.2 k s h1 h2, he]⟩
theorem HoldsW.upd {A : List Int} {W : Wf} (h : HoldsW A W) {k s : Nat} (hk : k < 33) (hs : s < 1057) (v : Int) : HoldsW (A.set (k * 1057 + s) v) (fun k' s' => if k' = k ∧ s' = s then v else W k' s') := by
  refine ⟨by rw [List.length_set]; exact h.1, fun k' s' h1 h2 => ?_⟩
  by_cases e : k' = k ∧ s' = s
  · obtain ⟨rfl, rfl⟩ := e
    have h3 := h.1
    rw [List.getElem?_set_self (by omega)]
    simp
  · have h3 := h.2 k' s' h1 h2
    rw [List.getElem?_set_ne (by omega), h3]
    simp [e]
def W0 : Wf := fun k s => if k = 0 ∧ s = 0 then 1 else 0
theorem holds_zero : HoldsW (List.replicate 34881 0) (fun _ _ => 0) := ⟨List.length_replicate, fun k s h1 h2 => by rw [List.getElem?_replicate, if_pos (by omega)]⟩
def rowW (W : Wf) (r km q : Nat) : Wf := fun k s => if (q < k ∧ k ≤ km + 1) ∧ r ≤ s then W k s + W (k - 1) (s - r) else W k s
def celW (W : Wf) (r km q p : Nat) : Wf := fun k s => if k = q ∧ p + r ≤ s then W q s + W (q - 1) (s - r) else rowW W r km q k s
theorem row_start (W : Wf) (r km : Nat) (k s : Nat) : rowW W r km (km + 1) k s = W k s := by unfold rowW; rw [if_neg (by omega)]
theorem cel_start (W : Wf) (r km q : Nat) (k s : Nat) (hs : s < 1057) (hr : r ≤ 1057) : celW W r km q (1057 - r) k s = rowW W r km q k s := by unfold celW; rw [if_neg (by omega)]
theorem cel_end {W : Wf} {r km q : Nat} (hq : q + 1 ≤ km + 1) (k s : Nat) : celW W r km (q + 1) 0 k s = rowW W r km q k s := by
  unfold celW rowW
  by_cases h1 : k = q + 1
  · subst h1
    by_cases h2 : r ≤ s
    · rw [if_pos ⟨rfl, by omega⟩, if_pos ⟨⟨by omega, hq⟩, h2⟩]
    · rw [if_neg (by omega), if_neg (by omega), if_neg (by omega)]
  · rw [if_neg (by omega)]
    by_cases h2 : (q + 1 < k ∧ k ≤ km + 1) ∧ r ≤ s
    · rw [if_pos h2, if_pos ⟨⟨by omega, h2.1.2⟩, h2.2⟩]
    · rw [if_neg h2, if_neg (by omega)]
theorem cel_step {W : Wf} {r km q p : Nat} (k s : Nat) : (if k = q ∧ s = p + r then W q (p + r) + W (q - 1) p else celW W r km q (p + 1) k s) = celW W r km q p k s := by
  unfold celW
  by_cases h1 : k = q ∧ s = p + r
  · obtain ⟨rfl, rfl⟩ := h1
    rw [if_pos ⟨rfl, rfl⟩, if_pos ⟨rfl, Nat.le_refl _⟩, Nat.add_sub_cancel]
  · rw [if_neg h1]
    by_cases h2 : k = q ∧ p + 1 + r ≤ s
    · rw [if_pos h2, if_pos ⟨h2.1, by omega⟩]
    · rw [if_neg h2, if_neg (by omega)]
theorem cel_at {W : Wf} {r km q p : Nat} : celW W r km (q + 1) (p + 1) (q + 1) (p + r) = W (q + 1) (p + r) ∧ celW W r km (q + 1) (p + 1) q p = W q p := by
  unfold celW rowW
  refine ⟨?_, ?_⟩
  · rw [if_neg (by omega), if_neg (by omega)]
  · rw [if_neg (by omega), if_neg (by omega)]
def wayN (l : List Int) (m : Nat) : Nat → Wf
  | 0 => W0
  | i + 1 => rowW (wayN l m i) (l.getD i 0).toNat (min i (m - 1)) 0
theorem way_bd (l : List Int) (m : Nat) : ∀ i k s, 0 ≤ wayN l m i k s ∧ wayN l m i k s ≤ 2 ^ i
  | 0, k, s => by unfold wayN W0; split <;> simp
  | i + 1, k, s => by
    have h1 := way_bd l m i k s
    have h2 := way_bd l m i (k - 1) (s - (l.getD i 0).toNat)
    have h3 : (2 : Int) ^ (i + 1) = 2 ^ i + 2 ^ i := by rw [Int.pow_succ]; omega
    unfold wayN rowW
    rw [h3]
    split <;> omega
theorem pow_bd {i : Nat} (h : i ≤ 32) : (2 : Int) ^ i ≤ 4294967296 := by
  have h1 : (2 : Nat) ^ i ≤ 2 ^ 32 := Nat.pow_le_pow_right (by decide) h
  have h2 : ((2 ^ i : Nat) : Int) ≤ ((2 ^ 32 : Nat) : Int) := Int.ofNat_le.2 h1
  rw [Int.natCast_pow] at h2
  simpa using h2
def sumS (f : Nat → Int) : Nat → Int
  | 0 => 0
  | s + 1 => sumS f s + f s
theorem sumS_bd {f : Nat → Int} {B : Int} (h : ∀ s, 0 ≤ f s ∧ f s ≤ B) : ∀ n : Nat, 0 ≤ sumS f n ∧ sumS f n ≤ B * n
  | 0 => by simp [sumS]
  | n + 1 => by
    have ih := sumS_bd h n
    have := h n
    unfold sumS
    have e : B * ((n + 1 : Nat) : Int) = B * n + B := by rw [Int.natCast_add, Int.mul_add]; simp
    omega
def absZ (x : Int) : Int := max x (-x)
def farZ (l : List Int) (n m : Nat) : Int := -(m : Int) * ((n : Int) + 1) + (l.take m).sum
def totT (l : List Int) (n m : Nat) : Int := sumS (fun s => wayN l m n m s) 1057
def extF (l : List Int) (n m : Nat) (s : Nat) : Int := if absZ ((s : Int) - (m : Int) * ((n : Int) + 1)) ≥ absZ (farZ l n m) then wayN l m n m s else 0
def extT (l : List Int) (n m : Nat) : Int := sumS (extF l n m) 1057
theorem ent_cell {σ : World} {R : RL} {F : List Res} {b q j : Nat} {A : List Int} {z : Int} (hg : getL R 10 = some (cel b (A.map (Value.int .i64)) 122)) (h : A[q * 1057 + j]? = some z) : Ent σ (rs R ++ F) (At (((⟨b, 0, none⟩ : Addr).add (q * 1057)).add (j * 1)) (.int .i64 z :: (A.map (Value.int .i64)).drop (q * 1057 + j + 1))) := by
  have h1 := ((Ent.lab (σ := σ) (F := F) hg (says_cel 0)).fld (q * 1057)).fld (j * 1)
  rw [List.drop_zero, List.drop_drop, Nat.mul_one] at h1
  have h2 : (A.map (Value.int .i64)).drop (q * 1057 + j) = .int .i64 z :: (A.map (Value.int .i64)).drop (q * 1057 + j + 1) := by
    have h3 : (A.map (Value.int .i64))[q * 1057 + j]? = some (.int .i64 z) := by rw [List.getElem?_map, h]; rfl
    obtain ⟨h4, h5⟩ := List.getElem?_eq_some_iff.1 h3
    rw [List.drop_eq_getElem_cons h4, h5]
  rw [h2] at h1
  rw [Nat.mul_one]
  exact h1
theorem set_cell (A : List Int) (o : Nat) (z : Int) : setsL (A.map (Value.int .i64)) o (Value.int .i64 z).cells.toList = (A.set o z).map (Value.int .i64) := by
  show (A.map (Value.int .i64)).set o (.int .i64 z) = _
  rw [List.map_set]
set_option maxRecDepth 1000000 in
theorem zero122a : ((Tryz.prog.info? 122).bind (·.zero)).map (·.cells.toList) = some (List.replicate 34881 (.int .i64 0)) := by kernel_rfl
theorem map_some_inv {α β : Type} {f : α → β} {o : Option α} {b : β} (h : o.map f = some b) : ∃ a, o = some a ∧ f a = b := by
  cases o with
  | none => simp at h
  | some a => exact ⟨a, rfl, Option.some.inj h⟩
theorem zero122 : ∃ (z : Value) (A0 : List Int), (Tryz.prog.info? 122).bind (·.zero) = some z ∧ z.cells.toList = A0.map (Value.int .i64) ∧ HoldsW A0 (fun _ _ => 0) := by
  obtain ⟨z, h1, h2⟩ := map_some_inv zero122a
  exact ⟨z, List.replicate 34881 0, h1, h2.trans List.map_replicate.symm, holds_zero⟩
theorem tRout : arrB Tryz.prog 122 33 1057 = true := by kernel_rfl
theorem tRin : arrB Tryz.prog 121 1057 1 = true := by kernel_rfl
theorem tAin : aggB Tryz.prog 121 1057 = true := by kernel_rfl
theorem tZint : (Tryz.prog.info? 3).map (·.size) = some 1 := by kernel_rfl
end Go.Proofs.YtecmigildpkigaaGreat
namespace Go.Proofs.YtecmigildpkigaaGreat
open Go Go.SL Go.RowKit Go.SegP
set_option linter.unusedVariables false
set_option linter.unusedSimpArgs false
theorem tL117_2vd : zerosB Tryz.prog 117 36 1 2 = some [Value.slice none 0 0, Value.slice none 0 0] := by kernel_rfl
theorem tMixvd : Tryz.prog.follows .mixedOrders = true := by kernel_rfl
theorem tO3vd : oneB Tryz.prog 3 = true := by kernel_rfl
theorem tS36vd : sliceB Tryz.prog 36 3 1 = true := by kernel_rfl
theorem rank_bd {l : List Int} : ∀ v ∈ rankL l, 1 ≤ v ∧ v ≤ 3 * l.length + 1 := fun v hv => by
  unfold rankL at hv
  obtain ⟨w, _, rfl⟩ := List.mem_map.1 hv
  unfold lessN sameN
  have h1 := List.length_filter_le (fun x => decide (x < w)) l
  have h2 := List.length_filter_le (fun x => decide (x = w)) l
  omega
theorem addr2 (b x y : Nat) : ((⟨b, 0, none⟩ : Addr).add x).add y = ⟨b, x + y, none⟩ := by
  unfold Addr.add
  split <;> split <;> simp_all
set_option maxHeartbeats 6000000 in
set_option maxRecDepth 100000 in
theorem testS {σ : World} {F : List Res} {a b : Option Addr} {c d : Nat} {la lb : List Int} (g : Sl σ F SL.encZ 1 (.slice a la.length c) la) (h : Sl σ F SL.encZ 1 (.slice b lb.length d) lb) (h1 : 1 ≤ la.length) (h2 : 1 ≤ lb.length) (h3 : la.length + lb.length ≤ 32) :
    FnT Tryz.prog σ F 38 [.slice a la.length c, .slice b lb.length d] [] (fun u ρ => u = .tuple #[.int .i64 (extT (rankL (la ++ lb)) (la.length + lb.length) la.length), .int .i64 (totT (rankL (la ++ lb)) (la.length + lb.length) la.length), .int .i64 0] ∧ ρ = []) := by
  refine fn_of 126 Tryz.func38 rfl Tryz.ntmps38 rfl ?_
  obtain ⟨m, hm⟩ : ∃ m, m = la.length := ⟨_, rfl⟩
  obtain ⟨n, hn⟩ : ∃ n, n = la.length + lb.length := ⟨_, rfl⟩
  obtain ⟨l, hl⟩ : ∃ l, l = rankL (la ++ lb) := ⟨_, rfl⟩
  have hll : l.length = n := by rw [hl, hn]; unfold rankL; rw [List.length_map, List.length_append]
  have hrb : ∀ v ∈ l, 1 ≤ v ∧ v ≤ 97 := fun v hv => by
    rw [hl] at hv
    have := rank_bd v hv
    rw [List.length_append] at this; omega
  have hcat : cat [((a, c, la) : Hd), (b, d, lb)] = la ++ lb := by simp [cat]
  have htot : tot [((a, c, la) : Hd), (b, d, lb)] ≤ 1048576 := by simp [tot]; omega
  refine Exists.elim zero122 (fun zz hzz => ?_)
  refine Exists.elim hzz (fun A0 hA => ?_)
  have hz0 := hA.1
  have hz1 := hA.2.1
  have hz2 := hA.2.2
  have hmul : 0 ≤ (m : Int) * ((n : Int) + 1) ∧ (m : Int) * ((n : Int) + 1) ≤ 2000 := by
    have e1 : m * (n + 1) ≤ 32 * 33 := Nat.mul_le_mul (by omega) (by omega)
    have e2 : ((m * (n + 1) : Nat) : Int) = (m : Int) * ((n : Int) + 1) := by rw [Int.natCast_mul]; simp
    omega
  have hneg : -(m : Int) * ((n : Int) + 1) = -((m : Int) * ((n : Int) + 1)) := by rw [Int.neg_mul]
  refine w_seq (w_region (za rfl (za rfl (za rfl (wl_nil (st_tn (w_seq (w_region (zm rfl (zd rfl (op_lenT rfl tS36vd (Sl.ent (g.app _))) (zm rfl (zd rfl (op_lenT rfl tS36vd (Sl.ent (h.app _))) (zd rfl (op_val (v' := .int .i64 ((n : Nat) : Int)) (by rw [hn]; rfl) (op_add' rfl rfl (by omega))) ?_)))))))))))))
  refine zm rfl (zd rfl (op_val (v' := .int .i64 ((m : Nat) : Int)) (by rw [hm]) (op_lenT rfl tS36vd (Sl.ent (g.app _)))) ?_)
  refine za rfl (za rfl (wl_nil (st_tn (w_seq (w_block (w_seq (w_region (zm rfl (zd rfl (op_val (v' := .bool false) (by rw [decide_eq_false (by omega)]) (op_eql rfl rfl)) ?_)))))))))
  refine zm rfl (wl_wanted_det rfl rfl rfl rfl rfl rfl rfl (op_move rfl) (wl_wanted_det rfl rfl rfl rfl rfl rfl rfl (op_move rfl) (wl_wanted_det rfl rfl rfl rfl rfl rfl rfl (op_val (v' := .bool false) (by rw [decide_eq_false (by omega)]) (op_eql rfl rfl)) ?_)))
  refine zd rfl (op_pick_f rfl rfl) (za rfl (wl_nil (st_tn (w_cond_f (rfl) ?_))))
  refine w_seq (w_region (zm rfl (zd rfl (op_val (v' := .bool false) (by rw [decide_eq_false (by omega)]) (op_gtr rfl rfl)) ?_)))
  refine za rfl (wl_nil (st_tn (w_cond_f (rfl) ?_)))
  refine w_skip (st_bn (st_tn (w_seq (w_region (zm rfl (zm rfl (wl_op [] rfl rfl rfl rfl (op_buildSlice (enc := encH) (l := [((a, c, la) : Hd), (b, d, lb)]) (lab := 40) tL117_2vd rfl rfl (fun _ => rfl) rfl) ?_)))))))
  rintro _ _ ⟨a40, c40, rfl, rfl⟩
  refine wl_op [] rfl rfl rfl rfl (op_fn Tryz.func57 rfl rfl rfl (fn_imp (concat_any (ss := [((a, c, la) : Hd), (b, d, lb)]) 41 (Sl.lab 40 rfl (by simp [maxLen])) (fun p hp => by
  rcases List.mem_cons.1 hp with rfl | hp
  · exact g.app _
  · rw [List.mem_singleton] at hp; subst hp; exact h.app _) htot) (fun u ρ hu => (by rw [hcat] at hu; exact hu : NewI (la ++ lb) 41 u ρ)))) ?_
  rintro _ _ ⟨a41, c41, rfl, rfl⟩
  refine wl_op [] rfl rfl rfl rfl (op_fn Tryz.func56 rfl rfl rfl (fn_imp (ranksS 42 (Sl.lab 41 rfl (by rw [List.length_append]; unfold maxLen; omega)) (by rw [List.length_append]; omega)) (fun u ρ hu => (by rw [← hl] at hu; exact hu : NewI l 42 u ρ)))) ?_
  rintro _ _ ⟨a42, c42, rfl, rfl⟩
  refine za rfl (wl_nil (st_tn (w_seq (w_region (wl_op [] rfl rfl rfl rfl (op_alloc (l := 10) hz0) ?_)))))
  rintro _ _ ⟨b10, rfl, rfl⟩
  refine wl_nil (st_tn (w_seq (w_wk 10 (cel b10 (A0.map (Value.int .i64)) 122) rfl (fun _ h => by rw [← hz1]; exact h) ?_)))
  refine w_region (zd rfl (op_idxArr (i := 0) rfl rfl tRout (by decide)) ?_)
  refine zd rfl (op_idxArr (i := 0) rfl rfl tRin (by decide)) ?_
  refine wl_op0 [10] rfl rfl rfl (op_store (b := b10) (o := 0) rfl rfl tZint (by rfl) (by rfl) (by rw [List.length_map, hz2.1]; decide)) ?_
  rintro _ _ ⟨rfl, rfl⟩
  refine wl_nil (st_tn (w_seq (w_seq (w_wk 10 (cel b10 ((A0.set 0 1).map (Value.int .i64)) 122) rfl (fun _ h => by rw [← set_cell]; exact h) ?_))))
  refine w_region (zm rfl (zd rfl (op_lenT rfl tS36vd (Sl.ent (Sl.lab 42 rfl (by unfold maxLen; omega)))) ?_))
  refine zm rfl (wl_nil (st_tn (w_block ?_)))
  refine w_loopQ (X := LIn × Nat) (fun z => z.2 ≤ l.length ∧ HoldsW z.1 (wayN l m z.2)) (fun z => [(47, .int .i64 (z.2))]) (fun z => [(10, cel b10 ((z.1).map (Value.int .i64)) 122)]) (fun z => l.length - z.2) ((A0.set 0 1, 0)) [(4, _), (5, _), (7, _), (8, _), (9, _), (10, _), (45, _), (46, _)] [(42, _)] [10, 42] rfl (rfl) (.cons rfl (.nil _)) (.cons rfl (.cons rfl (.cons rfl (.cons rfl (.cons rfl (.cons rfl (.cons rfl (.cons rfl (.nil _))))))))) (by
      try dsimp only
      exact ⟨Nat.zero_le _, (hz2.upd (k := 0) (s := 0) (by decide) (by decide) 1).congr (fun k s => rfl)⟩) ?_
  rintro ⟨A, i⟩ ⟨hi, hA1⟩
  refine w_norm2 (by dsimp only [List.cons_append, List.nil_append]) (by dsimp only [List.cons_append, List.nil_append]) ?_
  try dsimp only at hi hA1 ⊢
  refine w_seq (w_region (zd rfl (op_lss rfl rfl) (wl_nil (st_tn (w_seq (w_cond_d rfl (fun hc48 => ?_) (fun hc48 => ?_)))))))
  · -- c48.t
    refine Exists.elim (getE (l := l) (i := i) (by omega)) (fun r hr => ?_)
    have hrr := hrb r (List.mem_of_getElem? hr)
    refine Exists.elim (⟨r.toNat, by omega⟩ : ∃ rn : Nat, (rn : Int) = r) (fun rn hrn => ?_)
    subst hrn
    have hgr : (l.getD i 0).toNat = rn := by rw [List.getD_eq_getElem?_getD, hr]; simp
    refine Exists.elim (⟨_, rfl⟩ : ∃ km, km = min i (m - 1)) (fun km hkm => ?_)
    refine Exists.elim (⟨_, rfl⟩ : ∃ W, W = wayN l m i) (fun W hW => ?_)
    rw [← hW] at hA1
    have hWb : ∀ k s, 0 ≤ W k s ∧ W k s ≤ 4294967296 := fun k s => by
      have e1 := way_bd l m i k s
      have e2 := pow_bd (i := i) (by omega)
      rw [← hW] at e1; omega
    refine w_skip (st_tn (w_seq (w_block (w_seq (w_region (zm rfl (zd rfl (op_idx rfl rfl tS36vd (Sl.ent (Sl.lab 42 rfl (by unfold maxLen; omega))) (by omega)) ?_)))))))
    refine zd rfl (op_ldx rfl tO3vd (Sl.lab 42 rfl (by unfold maxLen; omega)) hr (by rfl)) ?_
    refine za rfl (za rfl (wl_nil (st_tn (w_seq (w_region (zm rfl (zm rfl (zd rfl (op_sub' rfl rfl (by omega)) ?_))))))))
    refine zd rfl (op_val (v' := .int .i64 (((km + 1 : Nat) : Int) - 1)) (by rw [show (((km + 1 : Nat) : Int) - 1) = min (i : Int) ((m : Int) - 1) by omega]) (op_min rfl rfl)) ?_
    refine za rfl (wl_nil (st_tn (w_block ?_)))
    refine w_loopQ (X := LIn × Nat) (fun z => z.2 ≤ km + 1 ∧ HoldsW z.1 (rowW W rn km z.2)) (fun z => [(13, .int .i64 (((z.2) : Int) - 1))]) (fun z => [(10, cel b10 ((z.1).map (Value.int .i64)) 122)]) (fun z => z.2) ((A, km + 1)) [(4, _), (5, _), (7, _), (8, _), (9, _), (10, _), (12, _), (45, _), (46, _), (47, _)] [(42, _)] [10, 42] rfl (rfl) (.cons rfl (.nil _)) (.cons rfl (.cons rfl (.cons rfl (.cons rfl (.cons rfl (.cons rfl (.cons rfl (.cons rfl (.cons rfl (.cons rfl (.nil _))))))))))) (by
        try dsimp only
        exact ⟨Nat.le_refl _, hA1.congr (fun k s => (row_start W rn km k s).symm)⟩) ?_
    rintro ⟨A2, q⟩ ⟨hq, hA2⟩
    refine w_norm2 (by dsimp only [List.cons_append, List.nil_append]) (by dsimp only [List.cons_append, List.nil_append]) ?_
    try dsimp only at hq hA2 ⊢
    refine w_seq (w_seq (w_region (zm rfl (zd rfl (op_geq rfl rfl) (wl_nil (st_tn (w_cond_d rfl (fun hc57 => ?_) (fun hc57 => ?_))))))))
    · -- c57.t
      refine Exists.elim (⟨q - 1, by omega⟩ : ∃ q', q' + 1 = q) (fun q' hq' => ?_)
      subst hq'
      refine w_skip (st_tn (w_seq (w_block (w_seq (w_region (zm rfl (zd rfl (op_val (v' := .int .i64 (((1057 - rn : Nat) : Int) - 1)) (by rw [show (((1057 - rn : Nat) : Int) - 1) = 1056 - (rn : Int) by omega]) (op_sub' rfl rfl (by omega))) ?_)))))))
      refine za rfl (wl_nil (st_tn (w_block ?_)))
      refine w_loopQ (X := LIn × Nat) (fun z => z.2 ≤ 1057 - rn ∧ HoldsW z.1 (celW W rn km (q' + 1) z.2)) (fun z => [(14, .int .i64 (((z.2) : Int) - 1))]) (fun z => [(10, cel b10 ((z.1).map (Value.int .i64)) 122)]) (fun z => z.2) ((A2, 1057 - rn)) [(4, _), (5, _), (7, _), (8, _), (9, _), (10, _), (12, _), (13, _), (45, _), (46, _), (47, _)] [(42, _)] [10, 42] rfl (rfl) (.cons rfl (.nil _)) (.cons rfl (.cons rfl (.cons rfl (.cons rfl (.cons rfl (.cons rfl (.cons rfl (.cons rfl (.cons rfl (.cons rfl (.cons rfl (.nil _)))))))))))) (by
          try dsimp only
          exact ⟨Nat.le_refl _, hA2.1, fun k s hk hs => by rw [hA2.2 k s hk hs, cel_start W rn km (q' + 1) k s hs (by omega)]⟩) ?_
      rintro ⟨A3, p⟩ ⟨hp, hA3⟩
      refine w_norm2 (by dsimp only [List.cons_append, List.nil_append]) (by dsimp only [List.cons_append, List.nil_append]) ?_
      try dsimp only at hp hA3 ⊢
      refine w_seq (w_seq (w_region (zm rfl (zd rfl (op_geq rfl rfl) (wl_nil (st_tn (w_cond_d rfl (fun hc63 => ?_) (fun hc63 => ?_))))))))
      · -- c63.t
        refine Exists.elim (⟨p - 1, by omega⟩ : ∃ p', p' + 1 = p) (fun p' hp' => ?_)
        subst hp'
        have hc1 := hA3.2 (q' + 1) (p' + rn) (by omega) (by omega)
        have hc2 := hA3.2 q' p' (by omega) (by omega)
        rw [cel_at.1] at hc1
        rw [cel_at.2] at hc2
        have hb1 := hWb (q' + 1) (p' + rn)
        have hb2 := hWb q' p'
        refine w_skip (st_tn (w_seq (w_block ?_)))
        refine w_drawW (fun β => [⟨66, [], [], [], noW (_), false, [], []⟩, ⟨67, [0], [], [], noW (_), false, [], []⟩, ⟨68, [], [], [], noW (_), false, [], []⟩, ⟨69, [], [], [], noW (_), false, [], []⟩, ⟨70, [2, 3], [], [], noW (_), false, [], []⟩, ⟨71, [1], [], [], noW (_), false, [], []⟩, ⟨72, [5, 4], [], [], noW (_), false, [], []⟩, ⟨73, [6], [], [], noW (_), false, [], []⟩, ⟨74, [], [], [], noW (_), false, [], []⟩, ⟨75, [], [], [], noW (_), false, [], []⟩, ⟨76, [8], [], [], noW (_), false, [], []⟩, ⟨77, [10, 9], [], [], noW (_), false, [], []⟩, ⟨78, [11], [], [], noW (_), false, [], []⟩, ⟨79, [7, 12], [], [], noW (_), false, [], []⟩, ⟨80, [1], [], [], noW (_), false, [], []⟩]) [] [13, 14, 12, 10] [⟨66, [], [], false, [], []⟩, ⟨67, [0], [], false, [], []⟩, ⟨68, [], [], false, [], []⟩, ⟨69, [], [], false, [], []⟩, ⟨70, [2, 3], [], false, [], []⟩, ⟨71, [1], [], false, [], []⟩, ⟨72, [5, 4], [], false, [], []⟩, ⟨73, [6], [], false, [], []⟩, ⟨74, [], [], false, [], []⟩, ⟨75, [], [], false, [], []⟩, ⟨76, [8], [], false, [], []⟩, ⟨77, [10, 9], [], false, [], []⟩, ⟨78, [11], [], false, [], []⟩, ⟨79, [7, 12], [], false, [], []⟩, ⟨80, [1], [], false, [], []⟩] [[], [], [], [], [], [], [], [], [], [], [], [], [], [], []] [[], [], [], [], [], [], [], [], [], [], [], [], [], [], []] tMixvd (fun _ => by rfl) (fun _ => by rfl) (by kernel_rfl) (by kernel_rfl) (by rfl) (by rfl)
            (fun β => ⟨.p rfl (by intro X; exact op_move rfl),
            ⟨.p rfl (by intro X; rintro _ _ ⟨rfl, rfl⟩; exact op_val (v' := .int .i64 ((q' + 1 : Nat) : Int)) (by exact congrArg _ (by omega)) (op_add' rfl rfl (by omega))),
            ⟨.p rfl (by intro X; exact op_move rfl),
            ⟨.p rfl (by intro X; exact op_move rfl),
            ⟨.p rfl (by intro X; rintro _ _ ⟨rfl, rfl⟩ _ _ ⟨rfl, rfl⟩; exact op_val (v' := .int .i64 ((p' + rn : Nat) : Int)) (by exact congrArg _ (by omega)) (op_add' rfl rfl (by omega))),
            ⟨.p rfl (by intro X; rintro _ _ ⟨rfl, rfl⟩; exact op_idxArr (i := q' + 1) rfl rfl tRout (by omega)),
            ⟨.p rfl (by intro X; rintro _ _ ⟨rfl, rfl⟩ _ _ ⟨rfl, rfl⟩; exact op_idxArr (i := p' + rn) rfl rfl tRin (by omega)),
            ⟨.p rfl (by intro X; rintro _ _ ⟨rfl, rfl⟩; exact op_load1 rfl tO3vd (ent_cell rfl hc1)),
            ⟨.p rfl (by intro X; exact op_val (v' := .int .i64 ((q' : Nat) : Int)) (by rw [show ((q' : Nat) : Int) = ((q' + 1 : Nat) : Int) - 1 by omega]) (op_move rfl)),
            ⟨.p rfl (by intro X; exact op_val (v' := .int .i64 ((p' : Nat) : Int)) (by rw [show ((p' : Nat) : Int) = ((p' + 1 : Nat) : Int) - 1 by omega]) (op_move rfl)),
            ⟨.p rfl (by intro X; rintro _ _ ⟨rfl, rfl⟩; exact op_idxArr (i := q') rfl rfl tRout (by omega)),
            ⟨.p rfl (by intro X; rintro _ _ ⟨rfl, rfl⟩ _ _ ⟨rfl, rfl⟩; exact op_idxArr (i := p') rfl rfl tRin (by omega)),
            ⟨.p rfl (by intro X; rintro _ _ ⟨rfl, rfl⟩; exact op_load1 rfl tO3vd (ent_cell rfl hc2)),
            ⟨.p rfl (by intro X; rintro _ _ ⟨rfl, rfl⟩ _ _ ⟨rfl, rfl⟩; exact op_add' rfl rfl (by omega)),
            ⟨.p rfl (by intro X; rintro _ _ ⟨rfl, rfl⟩; exact op_idxArr (i := q' + 1) rfl rfl tRout (by omega)),
            trivial⟩⟩⟩⟩⟩⟩⟩⟩⟩⟩⟩⟩⟩⟩⟩)
            (fun β β' => ⟨fun _ => by rfl, ⟨fun _ => by rfl, ⟨fun _ => by rfl, ⟨fun _ => by rfl, ⟨fun _ => by rfl, ⟨fun _ => by rfl, ⟨fun _ => by rfl, ⟨fun _ => by rfl, ⟨fun _ => by rfl, ⟨fun _ => by rfl, ⟨fun _ => by rfl, ⟨fun _ => by rfl, ⟨fun _ => by rfl, ⟨fun _ => by rfl, ⟨fun _ => by rfl, trivial⟩⟩⟩⟩⟩⟩⟩⟩⟩⟩⟩⟩⟩⟩⟩) ?_
        intro β
        rintro _ _ ⟨rfl, rfl⟩ _ _ ⟨rfl, rfl⟩ _ _ ⟨rfl, rfl⟩ _ _ ⟨rfl, rfl⟩ _ _ ⟨rfl, rfl⟩ _ _ ⟨rfl, rfl⟩ _ _ ⟨rfl, rfl⟩ _ _ ⟨rfl, rfl⟩ _ _ ⟨rfl, rfl⟩ _ _ ⟨rfl, rfl⟩ _ _ ⟨rfl, rfl⟩ _ _ ⟨rfl, rfl⟩ _ _ ⟨rfl, rfl⟩ _ _ ⟨rfl, rfl⟩ _ _ ⟨rfl, rfl⟩
        refine wl_norm (e' := [(4, _), (5, _), (7, _), (8, _), (9, _), (10, _), (12, _), (13, _), (14, _), (45, _), (46, _), (47, _), (70, _), (79, _), (80, _)]) (.cons rfl (.cons rfl (.cons rfl (.cons rfl (.cons rfl (.cons rfl (.cons rfl (.cons rfl (.cons rfl (.cons rfl (.cons rfl (.cons rfl (.cons rfl (.cons rfl (.cons rfl (.nil _)))))))))))))))) (by dsimp only [cond_false, cond_true, List.nil_append, List.cons_append]) ?_
        refine zd rfl (op_idxArr (i := p' + rn) rfl rfl tRin (by omega)) ?_
        refine wl_op0 [10] rfl rfl rfl (op_store (b := b10) (o := (q' + 1) * 1057 + (p' + rn)) (by show some (Value.pointer (some (((⟨b10, 0, none⟩ : Addr).add ((q' + 1) * 1057)).add ((p' + rn) * 1)))) = _; rw [addr2, Nat.mul_one]) rfl tZint (by rfl) (by rfl) (by rw [List.length_map, hA3.1]; omega)) ?_
        rintro _ _ ⟨rfl, rfl⟩
        refine wl_nil (st_bn (st_tn (w_wk 10 (cel b10 ((A3.set ((q' + 1) * 1057 + (p' + rn)) (W (q' + 1) (p' + rn) + W q' p')).map (Value.int .i64)) 122) rfl (fun _ h => by rw [← set_cell]; exact h) ?_)))
        refine w_region (zd rfl (op_val (v' := .int .i64 ((p' : Nat) : Int)) (by rw [show ((p' : Nat) : Int) = ((p' + 1 : Nat) : Int) - 1 by omega]) (op_move rfl)) ?_)
        refine zd rfl (op_sub' rfl rfl (by omega)) ?_
        refine za rfl (wl_nil ?_)
        refine st_roundQ (x := (A3, p' + 1)) ((A3.set ((q' + 1) * 1057 + (p' + rn)) (W (q' + 1) (p' + rn) + W q' p'), p')) [10, 42] rfl (rfl) (.cons rfl (.nil _)) (.cons rfl (.cons rfl (.cons rfl (.cons rfl (.cons rfl (.cons rfl (.cons rfl (.cons rfl (.cons rfl (.cons rfl (.cons rfl (.nil _)))))))))))) (by
            try dsimp only
            exact ⟨by omega, (hA3.upd (k := q' + 1) (s := p' + rn) (by omega) (by omega) _).congr (fun k s => cel_step (q := q' + 1) k s)⟩) (by
            try dsimp only
            omega)
      · -- c63.f
        refine w_exit (st_te ?_)
        refine st_te ?_
        refine st_be (st_bn (st_tn ?_))
        have hp0 : p = 0 := by omega
        subst hp0
        have hA4 := hA3.congr (fun k s => cel_end (W := W) (r := rn) (km := km) (q := q') (by omega) k s)
        refine w_region (zd rfl (op_val (v' := .int .i64 ((q' : Nat) : Int)) (by rw [show ((q' : Nat) : Int) = ((q' + 1 : Nat) : Int) - 1 by omega]) (op_move rfl)) ?_)
        refine zd rfl (op_sub' rfl rfl (by omega)) ?_
        refine za rfl (wl_nil ?_)
        refine st_roundQ (x := (A2, q' + 1)) ((A3, q')) [10, 42] rfl (rfl) (.cons rfl (.nil _)) (.cons rfl (.cons rfl (.cons rfl (.cons rfl (.cons rfl (.cons rfl (.cons rfl (.cons rfl (.cons rfl (.cons rfl (.nil _))))))))))) (by
            try dsimp only
            exact ⟨by omega, hA4⟩) (by
            try dsimp only
            omega)
    · -- c57.f
      refine w_exit (st_te ?_)
      refine st_te ?_
      refine st_be (st_bn (st_tn ?_))
      have hq0 : q = 0 := by omega
      subst hq0
      have hfin : HoldsW A2 (wayN l m (i + 1)) := hA2.congr (fun k s => by show _ = rowW (wayN l m i) (l.getD i 0).toNat (min i (m - 1)) 0 k s; rw [hgr, ← hkm, ← hW])
      refine w_region (zd rfl (op_add' rfl rfl (by omega)) ?_)
      refine zm rfl (wl_nil ?_)
      refine st_roundQ (x := (A, i)) ((A2, i + 1)) [10, 42] rfl (rfl) (.cons rfl (.nil _)) (.cons rfl (.cons rfl (.cons rfl (.cons rfl (.cons rfl (.cons rfl (.cons rfl (.cons rfl (.nil _))))))))) (by
          try dsimp only
          exact ⟨by omega, hfin⟩) (by
          try dsimp only
          omega)
  · -- c48.f
    refine w_exit (st_te ?_)
    refine st_te ?_
    refine st_be (st_tn (w_seq ?_))
    have hin : n = i := by omega
    subst hin
    refine Exists.elim (⟨_, rfl⟩ : ∃ W, W = wayN l m l.length) (fun W hW => ?_)
    refine w_region (zm rfl (zd rfl (op_val (v' := .int .i64 (-(m : Int))) (by rfl) (op_neg rfl (by omega))) ?_))
    refine zm rfl (zd rfl (op_add' rfl rfl (by omega)) ?_)
    refine zd rfl (op_mul' rfl rfl (by rw [hneg]; omega)) ?_
    refine za rfl (wl_nil (st_tn (w_seq (w_seq (w_region (zm rfl (zm rfl (zd rfl (op_sliceR rfl rfl tS36vd (Sl.lab 42 rfl (by unfold maxLen; omega)) (by omega)) ?_))))))))
    refine zd rfl (op_val (v' := .int .i64 ((m : Nat) : Int)) (by rw [List.length_drop, List.length_take]; congr 1; omega) (op_lenT rfl tS36vd (Sl.ent ((Sl.lab 42 rfl (by unfold maxLen; omega)).sub (lo := 0) (hi := m) (by omega) (by omega))))) ?_
    refine zm rfl (wl_nil (st_tn (w_block ?_)))
    refine w_loopQ (X := Int × Nat) (fun z => z.2 ≤ m ∧ z.1 = -(m : Int) * ((n : Int) + 1) + ((l.take m).take z.2).sum ∧ -2000 ≤ z.1 ∧ z.1 ≤ 97 * z.2) (fun z => [(15, .int .i64 (z.1)), (92, .int .i64 (z.2))]) (fun _ => []) (fun z => m - z.2) ((_, 0)) [(4, _), (5, _), (7, _), (8, _), (10, _), (90, _), (91, _)] [(10, _), (42, _)] [10, 42] rfl (rfl) (.cons rfl (.cons rfl (.nil _))) (.cons rfl (.cons rfl (.cons rfl (.cons rfl (.cons rfl (.cons rfl (.cons rfl (.nil _)))))))) (by
        try dsimp only
        exact ⟨Nat.zero_le _, by simp, by rw [hneg]; omega, by rw [hneg]; omega⟩) ?_
    rintro ⟨far, j⟩ ⟨hj, hfr, hf1, hf2⟩
    refine w_norm2 (by dsimp only [List.cons_append, List.nil_append]) (by dsimp only [List.cons_append, List.nil_append]) ?_
    try dsimp only at hj hfr hf1 hf2 ⊢
    refine w_seq (w_region (zd rfl (op_lss rfl rfl) (wl_nil (st_tn (w_seq (w_cond_d rfl (fun hc93 => ?_) (fun hc93 => ?_)))))))
    · -- c93.t
      have hjl : ((l.take m).drop 0).length = m := by rw [List.length_drop, List.length_take]; omega
      obtain ⟨v, hv⟩ := getE (l := l.take m) (i := j) (by rw [List.length_take]; omega)
      have hvb := hrb v (List.mem_of_mem_take (List.mem_of_getElem? hv))
      have hv2 : ((l.take m).drop 0)[j]? = some v := by rw [List.drop_zero]; exact hv
      refine w_skip (st_tn (w_seq (w_block (w_seq (w_region (zd rfl (op_idx rfl rfl tS36vd (Sl.ent ((Sl.lab 42 rfl (by unfold maxLen; omega)).sub (lo := 0) (hi := m) (by omega) (by omega))) (by omega)) ?_))))))
      refine zd rfl (op_ldx rfl tO3vd ((Sl.lab 42 rfl (by unfold maxLen; omega)).sub (lo := 0) (hi := m) (by omega) (by omega)) hv2 (by rfl)) ?_
      refine za rfl (wl_nil (st_tn (w_region (zm rfl (zm rfl (zd rfl (op_add' rfl rfl (by omega)) ?_))))))
      refine za rfl (wl_nil (st_bn (st_tn (w_region (zd rfl (op_add' rfl rfl (by omega)) ?_)))))
      refine zm rfl (wl_nil ?_)
      refine st_roundQ (x := (far, j)) ((far + v, j + 1)) [10, 42] rfl (rfl) (.cons rfl (.cons rfl (.nil _))) (.cons rfl (.cons rfl (.cons rfl (.cons rfl (.cons rfl (.cons rfl (.cons rfl (.nil _)))))))) (by
          try dsimp only
          exact ⟨by omega, by rw [take_snocS hv, List.sum_append, hfr]; simp [Int.add_assoc], by omega, by omega⟩) (by
          try dsimp only
          omega)
    · -- c93.f
      refine w_exit (st_te ?_)
      refine st_te ?_
      refine st_be (st_tn (w_seq (w_seq ?_)))
      have hjm : (l.take m).take j = l.take m := List.take_of_length_le (by rw [List.length_take]; omega)
      rw [hjm] at hfr
      have hfz : far = farZ l n m := hfr
      have hrow : ∀ s, s < 1057 → (((A.map (Value.int .i64)).drop (m * 1057)).take 1057)[s]? = some (.int .i64 (wayN l m n m s)) := fun s hs => by
        rw [List.getElem?_take, if_pos hs, List.getElem?_drop, List.getElem?_map, hA1.2 m s (by omega) hs]; rfl
      refine Exists.elim (⟨_, rfl⟩ : ∃ rv, rv = ((A.map (Value.int .i64)).drop (m * 1057)).take 1057) (fun rv hrv => ?_)
      rw [← hrv] at hrow
      have hWb : ∀ s, 0 ≤ wayN l m n m s ∧ wayN l m n m s ≤ 4294967296 := fun s => by
        have e1 := way_bd l m n m s
        have e2 := pow_bd (i := n) (by omega)
        omega
      have hEb : ∀ s, 0 ≤ extF l n m s ∧ extF l n m s ≤ 4294967296 := fun s => by
        have := hWb s
        unfold extF
        split <;> omega
      refine w_region (zm rfl (zd rfl (op_idxArr (i := m) rfl rfl tRout (by omega)) ?_))
      refine zd rfl (op_val (v' := .agg rv.toArray) (by rw [hrv, List.drop_zero]) (op_loadA rfl tAin ((Ent.lab (l := 10) rfl (says_cel 0)).fld (m * 1057)) (by rw [List.length_drop, List.drop_zero, List.length_map, hA1.1]; omega))) ?_
      refine zm rfl (wl_nil (st_tn (w_block ?_)))
      refine w_loopQ (X := Int × Int × Nat) (fun z => z.2.2 ≤ 1057 ∧ z.2.1 = sumS (wayN l m n m) z.2.2 ∧ z.1 = sumS (extF l n m) z.2.2) (fun z => [(4, .int .i64 (z.1)), (5, .int .i64 (z.2.1)), (103, .int .i64 (z.2.2))]) (fun _ => []) (fun z => 1057 - z.2.2) ((0, 0, 0)) [(7, _), (8, _), (15, _), (102, _)] [] [] rfl (rfl) (.cons rfl (.cons rfl (.cons rfl (.nil _)))) (.cons rfl (.cons rfl (.cons rfl (.cons rfl (.nil _))))) (by
          try dsimp only
          exact ⟨Nat.zero_le _, rfl, rfl⟩) ?_
      rintro ⟨ext, tot, s⟩ ⟨hs, htt, hee⟩
      refine w_norm2 (by dsimp only [List.cons_append, List.nil_append]) (by dsimp only [List.cons_append, List.nil_append]) ?_
      try dsimp only at hs htt hee ⊢
      refine w_seq (w_region (zd rfl (op_lss rfl rfl) (wl_nil (st_tn (w_seq (w_cond_d rfl (fun hc104 => ?_) (fun hc104 => ?_)))))))
      · -- c104.t
        have hs9 := hrow s (by omega)
        have hWs := hWb s
        have b1 := sumS_bd hWb s
        have b2 := sumS_bd hEb s
        rw [← htt] at b1
        rw [← hee] at b2
        refine w_skip (st_tn (w_seq (w_block (w_seq (w_region (zm rfl (zd rfl (op_indexArr (cs := rv) (i := s) rfl rfl Tryz.underlying121 Tryz.isAgg3 Tryz.sizeOf3 (by omega) hs9) ?_)))))))
        refine za rfl (za rfl (wl_nil (st_tn (w_seq (w_region (zm rfl (zm rfl (zd rfl (op_add' rfl rfl (by omega)) ?_))))))))
        refine za rfl (wl_nil (st_tn (w_seq (w_region (zm rfl (zm rfl (zm rfl (zd rfl (op_add' rfl rfl (by omega)) ?_))))))))
        refine zd rfl (op_mul' rfl rfl (by omega)) ?_
        refine zd rfl (op_sub' rfl rfl (by omega)) ?_
        refine zd rfl (op_fn Tryz.func58 rfl rfl rfl (absS ((s : Int) - (m : Int) * ((n : Int) + 1)) (by omega))) ?_
        refine zm rfl (zd rfl (op_fn Tryz.func58 rfl rfl rfl (absS far (by omega))) ?_)
        refine zd rfl (op_geq rfl rfl) (wl_nil (st_tn (w_cond_d rfl (fun hc119 => ?_) (fun hc119 => ?_))))
        · -- c119.t
          refine w_region (zm rfl (zm rfl (zd rfl (op_add' rfl rfl (by omega)) ?_)))
          refine za rfl (wl_nil (st_bn (st_tn (w_region (zd rfl (op_add' rfl rfl (by omega)) ?_)))))
          refine zm rfl (wl_nil ?_)
          refine st_roundQ (x := (ext, tot, s)) ((ext + wayN l m n m s, tot + wayN l m n m s, s + 1)) [] rfl (rfl) (.cons rfl (.cons rfl (.cons rfl (.nil _)))) (.cons rfl (.cons rfl (.cons rfl (.cons rfl (.nil _))))) (by
              try dsimp only
              exact ⟨by omega, by rw [sumS, htt], by rw [sumS, hee, show extF l n m s = wayN l m n m s from if_pos (by rw [← hfz]; exact hc119)]⟩) (by
              try dsimp only
              omega)
        · -- c119.f
          refine w_skip (st_bn (st_tn (w_region (zd rfl (op_add' rfl rfl (by omega)) ?_))))
          refine zm rfl (wl_nil ?_)
          refine st_roundQ (x := (ext, tot, s)) ((ext, tot + wayN l m n m s, s + 1)) [] rfl (rfl) (.cons rfl (.cons rfl (.cons rfl (.nil _)))) (.cons rfl (.cons rfl (.cons rfl (.cons rfl (.nil _))))) (by
              try dsimp only
              exact ⟨by omega, by rw [sumS, htt], by rw [sumS, hee, show extF l n m s = 0 from if_neg (by rw [← hfz]; exact hc119), Int.add_zero]⟩) (by
              try dsimp only
              omega)
      · -- c104.f
        refine w_exit (st_te ?_)
        refine st_te ?_
        refine st_be (st_tn (w_seq (w_region (zm rfl (zm rfl (za rfl (za rfl (za rfl (wl_nil (st_tn (w_ret (st_ret (vs := [_, _, _]) [] Tryz.results38 ⟨rfl, ⟨rfl, ⟨rfl, trivial⟩⟩⟩ rfl ?_))))))))))))
        refine ⟨_, rfl, ?_⟩
        have hs7 : s = 1057 := by omega
        subst hs7
        rw [← hl, ← hn, ← hm, htt, hee]; exact ⟨rfl, rfl⟩
end Go.Proofs.YtecmigildpkigaaGreat
namespace Go.Proofs.YtecmigildpkigaaGreat
open Go Go.SL Go.RowKit Go.SegP
set_option linter.unusedVariables false
set_option linter.unusedSimpArgs false
theorem st_rounds {P : Program} {σ : World} {n k : Nat} {c : Code} {Q : Exit → Act → World → Prop} {e : Env} {R : RL} {F : List Res} (h : W P σ n c (Exit.then (Code.rounds P c Q k) Q) e R F) : St σ n (Code.rounds P c Q (k + 1)) e R F := h
theorem w_sub {P : Program} {σ : World} {n : Nat} {c : Code} {Q : Exit → Act → World → Prop} {e e' : Env} {R : RL} {F : List Res} (hs : Sube e e') (h : W P σ n c Q e' R F) : W P σ n c Q e R F := fun a w hr ho => h a w (hr.sub hs) ho
theorem w_rounds {P : Program} {σ : World} {n : Nat} {c : Code} {Q : Exit → Act → World → Prop} {e : Env} {R : RL} {F : List Res} (k : Nat) (h : W P σ n c (Exit.then (Code.rounds P c Q k) Q) e R F) : W P σ n (.loop c) Q e R F := fun a w hr ho => wp_loop_rounds (k + 1) (h a w hr ho)
theorem op_neSame {P : Program} {σ : World} {n : Nat} {e : Env} {F : List Res} {dst : Option Tmp} {ty : TypeId} {pos : String} {after : Array Edge} {guard : Option (Nat × Bool)} {T E k : Nat} {x y : Operand} {a : Addr} {t2 : TypeId} (hx : ev e x = some (.pointer (some a))) (hy : ev e y = some (.pointer (some a))) (hu : P.underlying T = some (.pointer E)) (hz : ∀ w, (sizeOf E).run P w = .ok k w) (hk : k ≠ 0) :
    OpT P σ n F ⟨dst, .binOp .neq T x y t2, ty, pos, after, guard⟩ e [] (Det (.bool false)) :=
  opt_run fun A w hr _ => by
    have h : (Op.equal T (.pointer (some a)) (.pointer (some a))).run P w = .ok true w := by
      show (Op.equalIn (9999 + 1) T _ _).run P w = _
      unfold Op.equalIn
      simp [run_underlying hu, Sem.run_bind, hz, hk, sameAddr]
    simp [execOp, hr.ev hx, hr.ev hy, eqGuard, Sem.run_bind, binOp, h]
theorem sizePart (w : World) : (sizeOf 125).run Tryz.prog w = .ok 5 w := by
  have h : (Tryz.prog.info? 125).map (·.size) = some 5 := by kernel_rfl
  cases hi : Tryz.prog.info? 125 with
  | none => rw [hi] at h; simp at h
  | some i =>
    have h2 : i.size = 5 := by rw [hi] at h; simpa using h
    simp [sizeOf, typeInfo, hi, h2]
def encPart (pp ps i k : Int) (r : Option Addr) : List Value := [.int .i64 pp, .int .i64 ps, .int .i64 i, .int .i64 k, .pointer r]
def cmpZ (x y : Int) : Int := if x < y then -1 else if x > y then 1 else 0
def orZ (x y : Int) : Int := if x ≠ 0 then x else y
theorem tF125_0ve : fieldB Tryz.prog 125 0 0 = true := by kernel_rfl
theorem tF125_1ve : fieldB Tryz.prog 125 1 1 = true := by kernel_rfl
theorem tL36_2ve : zerosB Tryz.prog 36 3 1 2 = some [Value.int .i64 0, Value.int .i64 0] := by kernel_rfl
theorem tMixve : Tryz.prog.follows .mixedOrders = true := by kernel_rfl
theorem tO3ve : oneB Tryz.prog 3 = true := by kernel_rfl
set_option maxHeartbeats 400000 in
set_option maxRecDepth 100000 in
theorem cmpPart {σ : World} {F : List Res} {bp bq : Nat} {pp ps pi pk qp qs qi qk : Int} {pr qr : Option Addr} (hp : Ent σ F (At ⟨bp, 0, none⟩ (encPart pp ps pi pk pr))) (hq : Ent σ F (At ⟨bq, 0, none⟩ (encPart qp qs qi qk qr))) (h : orZ (cmpZ qp pp) (cmpZ ps qs) ≠ 0 ∨ bp = bq) : FnT Tryz.prog σ F 59 [.pointer (some ⟨bp, 0, none⟩), .pointer (some ⟨bq, 0, none⟩)] [] (fun u ρ => u = .int .i64 (orZ (cmpZ qp pp) (cmpZ ps qs)) ∧ ρ = []) := by
  refine fn_of 60 Tryz.func59 rfl Tryz.ntmps59 rfl ?_
  refine w_seq (w_region (za rfl (wl_nil (st_tn (w_seq (w_seq ?_))))))
  refine w_drawW (fun β => [⟨7, [], [], [], noW (_), false, [], []⟩, ⟨8, [0], [], [], noW (_), false, [], []⟩, ⟨9, [1], [], [], noW (_), false, [], []⟩, ⟨10, [2], [], [], noW (_), false, [], []⟩, ⟨11, [], [], [], noW (_), false, [], []⟩, ⟨12, [4], [], [], noW (_), false, [], []⟩, ⟨13, [5], [], [], noW (_), false, [], []⟩, ⟨14, [6], [], [], noW (_), false, [], []⟩, ⟨15, [3, 7], [], [], noW (_), false, [], []⟩, ⟨16, [], [], [], noW (_), false, [], []⟩, ⟨17, [9], [], [], noW (_), false, [], []⟩, ⟨18, [10], [], [], noW (_), false, [], []⟩, ⟨19, [11], [], [], noW (_), false, [], []⟩, ⟨20, [], [], [], noW (_), false, [], []⟩, ⟨21, [13], [], [], noW (_), false, [], []⟩, ⟨22, [14], [], [], noW (_), false, [], []⟩, ⟨23, [15], [], [], noW (_), false, [], []⟩]) [] [1, 0] [⟨7, [], [], false, [], []⟩, ⟨8, [0], [], false, [], []⟩, ⟨9, [1], [], false, [], []⟩, ⟨10, [2], [], false, [], []⟩, ⟨11, [], [], false, [], []⟩, ⟨12, [4], [], false, [], []⟩, ⟨13, [5], [], false, [], []⟩, ⟨14, [6], [], false, [], []⟩, ⟨15, [3, 7], [], false, [], []⟩, ⟨16, [], [], false, [], []⟩, ⟨17, [9], [], false, [], []⟩, ⟨18, [10], [], false, [], []⟩, ⟨19, [11], [], false, [], []⟩, ⟨20, [], [], false, [], []⟩, ⟨21, [13], [], false, [], []⟩, ⟨22, [14], [], false, [], []⟩, ⟨23, [15], [], false, [], []⟩] [[], [], [], [], [], [], [], [], [], [], [], [], [], [], [], [], []] [[], [], [], [], [], [], [], [], [], [], [], [], [], [], [], [], []] tMixve (fun _ => by rfl) (fun _ => by rfl) (by kernel_rfl) (by kernel_rfl) (by rfl) (by rfl)
      (fun β => ⟨.p rfl (by intro X; exact op_move rfl),
      ⟨.p rfl (by intro X; rintro _ _ ⟨rfl, rfl⟩; exact op_nilCheck rfl),
      ⟨.p rfl (by intro X; rintro _ _ ⟨rfl, rfl⟩; exact op_fieldAddr (off := 0) rfl tF125_0ve),
      ⟨.p rfl (by intro X; rintro _ _ ⟨rfl, rfl⟩; exact op_load1 rfl tO3ve (Ent.app (Ent.app (Ent.fld hq 0) X) _)),
      ⟨.p rfl (by intro X; exact op_move rfl),
      ⟨.p rfl (by intro X; rintro _ _ ⟨rfl, rfl⟩; exact op_nilCheck rfl),
      ⟨.p rfl (by intro X; rintro _ _ ⟨rfl, rfl⟩; exact op_fieldAddr (off := 0) rfl tF125_0ve),
      ⟨.p rfl (by intro X; rintro _ _ ⟨rfl, rfl⟩; exact op_load1 rfl tO3ve (Ent.app (Ent.app (Ent.fld hp 0) X) _)),
      ⟨.p rfl (by intro X; rintro _ _ ⟨rfl, rfl⟩ _ _ ⟨rfl, rfl⟩; exact op_fn Tryz.func76 rfl rfl rfl (compareI qp pp)),
      ⟨.p rfl (by intro X; exact op_move rfl),
      ⟨.p rfl (by intro X; rintro _ _ ⟨rfl, rfl⟩; exact op_nilCheck rfl),
      ⟨.p rfl (by intro X; rintro _ _ ⟨rfl, rfl⟩; exact op_fieldAddr (off := 1) rfl tF125_1ve),
      ⟨.p rfl (by intro X; rintro _ _ ⟨rfl, rfl⟩; exact op_load1 rfl tO3ve (Ent.app (Ent.app (Ent.fld hp 1) X) _)),
      ⟨.p rfl (by intro X; exact op_move rfl),
      ⟨.p rfl (by intro X; rintro _ _ ⟨rfl, rfl⟩; exact op_nilCheck rfl),
      ⟨.p rfl (by intro X; rintro _ _ ⟨rfl, rfl⟩; exact op_fieldAddr (off := 1) rfl tF125_1ve),
      ⟨.p rfl (by intro X; rintro _ _ ⟨rfl, rfl⟩; exact op_load1 rfl tO3ve (Ent.app (Ent.app (Ent.fld hq 1) X) _)),
      trivial⟩⟩⟩⟩⟩⟩⟩⟩⟩⟩⟩⟩⟩⟩⟩⟩⟩)
      (fun β β' => ⟨fun _ => by rfl, ⟨fun _ => by rfl, ⟨fun _ => by rfl, ⟨fun _ => by rfl, ⟨fun _ => by rfl, ⟨fun _ => by rfl, ⟨fun _ => by rfl, ⟨fun _ => by rfl, ⟨fun _ => by rfl, ⟨fun _ => by rfl, ⟨fun _ => by rfl, ⟨fun _ => by rfl, ⟨fun _ => by rfl, ⟨fun _ => by rfl, ⟨fun _ => by rfl, ⟨fun _ => by rfl, ⟨fun _ => by rfl, trivial⟩⟩⟩⟩⟩⟩⟩⟩⟩⟩⟩⟩⟩⟩⟩⟩⟩) ?_
  intro β
  rintro _ _ ⟨rfl, rfl⟩ _ _ ⟨rfl, rfl⟩ _ _ ⟨rfl, rfl⟩ _ _ ⟨rfl, rfl⟩ _ _ ⟨rfl, rfl⟩ _ _ ⟨rfl, rfl⟩ _ _ ⟨rfl, rfl⟩ _ _ ⟨rfl, rfl⟩ _ _ ⟨rfl, rfl⟩ _ _ ⟨rfl, rfl⟩ _ _ ⟨rfl, rfl⟩ _ _ ⟨rfl, rfl⟩ _ _ ⟨rfl, rfl⟩ _ _ ⟨rfl, rfl⟩ _ _ ⟨rfl, rfl⟩ _ _ ⟨rfl, rfl⟩ _ _ ⟨rfl, rfl⟩
  refine wl_norm (e' := [(0, _), (1, _), (15, _), (19, _), (23, _)]) (.cons rfl (.cons rfl (.cons rfl (.cons rfl (.cons rfl (.nil _)))))) (by dsimp only [cond_false, cond_true, List.nil_append, List.cons_append]) ?_
  refine zd rfl (op_fn Tryz.func76 rfl rfl rfl (compareI ps qs)) (wl_op [] rfl rfl rfl rfl (op_buildSlice (enc := SL.encZ) (l := [cmpZ qp pp, cmpZ ps qs]) (lab := 25) tL36_2ve rfl rfl (fun _ => rfl) rfl) ?_)
  rintro _ _ ⟨a25, c25, rfl, rfl⟩
  refine zd rfl (op_fn Tryz.func75 rfl rfl rfl (orS (cmpZ qp pp) (cmpZ ps qs) (Sl.lab 25 rfl (by simp [maxLen])))) ?_
  refine za rfl (wl_nil (st_tn (w_seq (w_region (zm rfl (zd rfl (op_neq rfl rfl) (wl_nil (st_tn (w_cond_d rfl (fun hc28 => ?_) (fun hc28 => ?_))))))))))
  · -- c28.t
    refine w_seq (w_region (zm rfl (za rfl (wl_nil (st_tn (w_ret (st_tr (st_ret (vs := [_]) [] Tryz.results59 ⟨rfl, trivial⟩ rfl ?_))))))))
    refine ⟨_, rfl, ?_⟩
    exact ⟨rfl, rfl⟩
  · -- c28.f
    refine w_skip (st_tn (w_seq (w_block (w_rounds 0 ?_))))
    -- round l0.0
    refine w_sub (e' := [(0, _), (1, _)]) (.cons rfl (.cons rfl (.nil _))) ?_
    refine w_seq (w_seq ?_)
    have hpq : bp = bq := h.resolve_left (fun hh => hc28 hh)
    subst hpq
    refine w_region (zm rfl (zm rfl (zd rfl (op_neSame rfl rfl Tryz.underlying123 sizePart (by decide)) ?_)))
    refine zm rfl (wl_unwanted rfl rfl rfl rfl rfl rfl rfl rfl (wl_unwanted rfl rfl rfl rfl rfl rfl rfl rfl (wl_unwanted rfl rfl rfl rfl rfl rfl rfl rfl (wl_unwanted rfl rfl rfl rfl rfl rfl rfl rfl (wl_unwanted rfl rfl rfl rfl rfl rfl rfl rfl (zd rfl (op_pick_f rfl rfl) (wl_nil (st_tn (w_cond_f (rfl) ?_)))))))))
    refine w_exit (st_te ?_)
    refine st_te ?_
    refine st_be (st_tn (w_seq (w_region (za rfl (wl_nil (st_tn (w_ret (st_ret (vs := [_]) [] Tryz.results59 ⟨rfl, trivial⟩ rfl ?_))))))))
    refine ⟨_, rfl, ?_⟩
    exact ⟨congrArg (Value.int .i64) (Decidable.not_not.1 hc28).symm, rfl⟩
end Go.Proofs.YtecmigildpkigaaGreat
