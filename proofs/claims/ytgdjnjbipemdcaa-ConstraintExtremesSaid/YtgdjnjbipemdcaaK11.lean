/- Contracts: lists of numbers, nodes, checks (layer 9). Conditions: none. -/
import Derived.Test.YtgdjnjbipemdcaaK10
namespace Go.Proofs.Ytgdjnjbipemdcaa
open Go Go.SL Go.RowKit Go.ConM
set_option linter.unusedVariables false
set_option linter.unusedSimpArgs false
theorem tL26_1k : zerosB Try.prog 26 3 1 1 = some [Value.int .i64 0] := by kernel_rfl
theorem tMixk : Try.prog.follows .mixedOrders = true := by kernel_rfl
theorem tO3k : oneB Try.prog 3 = true := by kernel_rfl
theorem tP26k : appB Try.prog 26 3 1 8 = true := by kernel_rfl
theorem tS26k : sliceB Try.prog 26 3 1 = true := by kernel_rfl

def SS (l : List Int) : Prop := l.Pairwise (· < ·)
theorem SS.ext : ∀ {a b : List Int}, SS a → SS b → (∀ x, x ∈ a ↔ x ∈ b) → a = b
  | [], [], _, _, _ => rfl
  | [], y :: b, _, _, h => by have := (h y).2 (by simp); simp at this
  | x :: a, [], _, _, h => by have := (h x).1 (by simp); simp at this
  | x :: a, y :: b, ha, hb, h => by
    have ha' := List.pairwise_cons.1 ha
    have hb' := List.pairwise_cons.1 hb
    have hxy : x = y := by
      rcases List.mem_cons.1 ((h x).1 (by simp)) with e | e
      · exact e
      · rcases List.mem_cons.1 ((h y).2 (by simp)) with e' | e'
        · exact e'.symm
        · have := ha'.1 y e'; have := hb'.1 x e; omega
    subst hxy
    congr 1
    refine SS.ext ha'.2 hb'.2 fun z => ⟨fun hz => ?_, fun hz => ?_⟩
    · rcases List.mem_cons.1 ((h z).1 (by simp [hz])) with e | e
      · have := ha'.1 z hz; omega
      · exact e
    · rcases List.mem_cons.1 ((h z).2 (by simp [hz])) with e | e
      · have := hb'.1 z hz; omega
      · exact e
theorem SS.nodup {l : List Int} (h : SS l) : l.Nodup := h.imp fun h e => by omega
theorem srt_le (l : List Int) : (srt l).Pairwise (· ≤ ·) := by
  have := List.pairwise_mergeSort (le := fun x y : Int => decide (x ≤ y)) (fun a b c h1 h2 => by simp at *; omega) (fun a b => by simp; omega) l
  exact this.imp fun h => by simpa using h
theorem srt_ss {l : List Int} (h : l.Nodup) : SS (srt l) := by
  have h1 := srt_le l
  have h2 : (srt l).Nodup := (srt_perm l).nodup_iff.2 h
  exact (h1.and h2).imp fun ⟨h1, h2⟩ => by omega
theorem nodesM_nodup (l : List Con) : ((nodesM l).map Prod.fst).Nodup := by
  have key : ∀ (l : List Con) (m : List (Int × Bool)), (m.map Prod.fst).Nodup → ((l.foldl (fun m c => setK KZ (setK KZ m c.f true) c.t true) m).map Prod.fst).Nodup := by
    intro l
    induction l with
    | nil => intro m h; exact h
    | cons c l ih => intro m h; exact ih _ (nod_set (nod_set h))
  exact key l [] (by simp)
theorem nodes_ss (l : List Con) : SS (nodes l) := srt_ss (nodesM_nodup l)
theorem nodes_eq {l : List Con} {S : List Int} (h : SS S) (hm : ∀ x, x ∈ S ↔ ∃ c ∈ l, x = c.f ∨ x = c.t) : S = nodes l := SS.ext h (nodes_ss l) fun x => (hm x).trans mem_nodes.symm
set_option maxHeartbeats 400000 in
set_option maxRecDepth 100000 in
theorem has_any {σ : World} {F : List Res} {a : Option Addr} {c : Nat} {l : List Int} (x : Int) (h : Sl σ F SL.encZ 1 (.slice a l.length c) l) :
    FnT Try.prog σ F 50 [.slice a l.length c, .int .i64 x] [] (fun u ρ => u = .bool (decide (x ∈ l)) ∧ ρ = []) := by
  refine fn_of 18 Try.func50 rfl Try.ntmps50 rfl ?_
  have hle := h.i64
  refine w_seq ?_
  refine w_region ?_
  refine wl_det rfl rfl rfl (op_assign rfl) ?_
  refine wl_nil ?_
  refine st_tn ?_
  refine w_seq ?_
  refine w_seq ?_
  refine w_region ?_
  refine wl_det rfl rfl rfl (op_assign rfl) ?_
  refine wl_nil ?_
  refine st_tn ?_
  refine w_block ?_
  refine w_loopQ (X := Nat) (fun z => z ≤ l.length ∧ x ∉ l.take z) (fun z => [(5, .int .i64 (z))]) (fun _ => []) (fun z => l.length - z) (0) [(0, _), (1, _)] [] [] rfl (rfl) (.cons rfl (.nil _)) (.cons rfl (.cons rfl (.nil _))) (by
      try dsimp only
      exact ⟨Nat.zero_le _, by simp⟩) ?_
  rintro i ⟨hi, hn⟩
  refine w_norm2 (by dsimp only [List.cons_append, List.nil_append]) (by dsimp only [List.cons_append, List.nil_append]) ?_
  try dsimp only at hi hn ⊢
  refine w_seq ?_
  refine w_seq ?_
  refine w_region ?_
  refine wl_det rfl rfl rfl (op_move rfl) ?_
  refine wl_det rfl rfl rfl (op_move rfl) ?_
  refine wl_det rfl rfl rfl (op_lenT rfl tS26k (Sl.ent (by first | exact Sl.app (by assumption) _ | exact Sl.app (Sl.app (by assumption) _) _))) ?_
  refine wl_det rfl rfl rfl (op_lss rfl rfl) ?_
  refine wl_nil ?_
  refine st_tn ?_
  refine w_cond_d rfl (fun hc9 => ?_) (fun hc9 => ?_)
  · -- c9.t
    obtain ⟨y, hy⟩ := getE (l := l) (i := i) (by omega)
    have hlt := ltE hy
    refine w_skip ?_
    refine st_tn ?_
    refine w_seq ?_
    refine w_block ?_
    refine w_seq ?_
    refine w_region ?_
    refine wl_det rfl rfl rfl (op_move rfl) ?_
    refine wl_det rfl rfl rfl (op_move rfl) ?_
    refine wl_det rfl rfl rfl (op_idx rfl rfl tS26k (Sl.ent (by first | exact Sl.app (by assumption) _ | exact Sl.app (Sl.app (by assumption) _) _)) (by omega)) ?_
    refine wl_det rfl rfl rfl (op_ldx rfl tO3k (by first | exact Sl.app (by assumption) _ | exact Sl.app (Sl.app (by assumption) _) _) (by assumption) (by rfl)) ?_
    refine wl_det rfl rfl rfl (op_move rfl) ?_
    refine wl_det rfl rfl rfl (op_eql rfl rfl) ?_
    refine wl_nil ?_
    refine st_tn ?_
    refine w_cond_d rfl (fun hc17 => ?_) (fun hc17 => ?_)
    · -- c17.t
      refine w_seq ?_
      refine w_region ?_
      refine wl_det rfl rfl rfl (op_assign rfl) ?_
      refine wl_nil ?_
      refine st_tn ?_
      refine w_ret ?_
      refine st_br ?_
      refine st_tr ?_
      refine st_tr ?_
      refine st_br ?_
      refine st_tr ?_
      refine st_ret (vs := [_]) [] Try.results50 ⟨rfl, trivial⟩ rfl ?_
      refine ⟨_, rfl, ?_⟩
      refine ⟨?_, rfl⟩; subst hc17; simp [retv, List.mem_of_getElem? hy]
    · -- c17.f
      refine w_skip ?_
      refine st_bn ?_
      refine st_tn ?_
      refine w_region ?_
      refine wl_det rfl rfl rfl (op_move rfl) ?_
      refine wl_det rfl rfl rfl (op_add' rfl rfl (by omega)) ?_
      refine wl_det rfl rfl rfl (op_assign rfl) ?_
      refine wl_nil ?_
      refine st_roundQ (x := i) (i + 1) [] rfl (rfl) (.cons rfl (.nil _)) (.cons rfl (.cons rfl (.nil _))) (by
          try dsimp only
          exact ⟨by omega, by rw [take_snoc hy]; simp; exact ⟨hn, fun e => hc17 e.symm⟩⟩) (by
          try dsimp only
          omega) 
  · -- c9.f
    refine w_exit ?_
    refine st_te ?_
    refine st_te ?_
    refine st_be ?_
    refine st_tn ?_
    refine w_seq ?_
    refine w_region ?_
    refine wl_det rfl rfl rfl (op_assign rfl) ?_
    refine wl_nil ?_
    refine st_tn ?_
    refine w_ret ?_
    refine st_ret (vs := [_]) [] Try.results50 ⟨rfl, trivial⟩ rfl ?_
    refine ⟨_, rfl, ?_⟩
    refine ⟨?_, rfl⟩; rw [take_all (by omega)] at hn; simp [retv, hn]

set_option maxHeartbeats 2000000 in
set_option maxRecDepth 100000 in
theorem rsorted_any {σ : World} {F : List Res} {a : Option Addr} {c : Nat} {l : List Int} (lab : Nat) (h : Sl σ F SL.encZ 1 (.slice a l.length c) l) (hl : l.length ≤ 1048576) :
    FnT Try.prog σ F 57 [.slice a l.length c] [] (fun u ρ => ∃ S a c, SS S ∧ (∀ x, x ∈ S ↔ x ∈ l) ∧ u = .slice a S.length c ∧ ρ = [(lab, slW 3 SL.encZ 1 (.slice a S.length c) S)]) := by
  refine fn_of 60 Try.func57 rfl Try.ntmps57 rfl ?_
  have hle := h.i64
  refine w_seq ?_
  refine w_region ?_
  refine wl_det rfl rfl rfl (op_assign rfl) ?_
  refine wl_nil ?_
  refine st_tn ?_
  refine w_seq ?_
  refine w_region ?_
  refine wl_det rfl rfl rfl (op_assign rfl) ?_
  refine wl_nil ?_
  refine st_tn ?_
  refine w_seq ?_
  refine w_seq ?_
  refine w_region ?_
  refine wl_det rfl rfl rfl (op_assign rfl) ?_
  refine wl_nil ?_
  refine st_tn ?_
  refine w_block ?_
  refine w_emp 3 (slO_nil 3 1) ?_
  refine w_loopQ (X := Nat × List Int × Option Addr × Nat) (fun z => z.1 ≤ l.length ∧ SS z.2.1 ∧ (∀ x, x ∈ z.2.1 ↔ x ∈ l.take z.1) ∧ z.2.1.length ≤ z.1) (fun z => [(4, .int .i64 (z.1)), (3, .slice (z.2.2.1) (z.2.1).length (z.2.2.2))]) (fun z => [(3, slW 3 SL.encZ 1 (.slice (z.2.2.1) (z.2.1).length (z.2.2.2)) (z.2.1))]) (fun z => l.length - z.1) ((0, [], none, 0)) [(0, _)] [] [3] rfl (rfl) (.cons rfl (.cons rfl (.nil _))) (.cons rfl (.nil _)) (by
      try dsimp only
      exact ⟨Nat.zero_le _, List.Pairwise.nil, by simp, by simp⟩) ?_
  rintro ⟨i, S, a_S, c_S⟩ ⟨hi, hss, hsm, hsl⟩
  refine w_norm2 (by dsimp only [List.cons_append, List.nil_append]) (by dsimp only [List.cons_append, List.nil_append]) ?_
  try dsimp only at hi hss hsm hsl ⊢
  refine w_seq ?_
  refine w_seq ?_
  refine w_region ?_
  refine wl_det rfl rfl rfl (op_move rfl) ?_
  refine wl_det rfl rfl rfl (op_move rfl) ?_
  refine wl_det rfl rfl rfl (op_lenT rfl tS26k (Sl.ent (by first | exact Sl.app (by assumption) _ | exact Sl.app (Sl.app (by assumption) _) _))) ?_
  refine wl_det rfl rfl rfl (op_lss rfl rfl) ?_
  refine wl_nil ?_
  refine st_tn ?_
  refine w_cond_d rfl (fun hc9 => ?_) (fun hc9 => ?_)
  · -- c9.t
    obtain ⟨y, hy⟩ := getE (l := l) (i := i) (by omega)
    have hlt := ltE hy
    refine w_skip ?_
    refine st_tn ?_
    refine w_seq ?_
    refine w_block ?_
    refine w_seq ?_
    refine w_region ?_
    refine wl_det rfl rfl rfl (op_move rfl) ?_
    refine wl_det rfl rfl rfl (op_lenT rfl tS26k (Sl.ent (Sl.lab 3 rfl (by unfold maxLen; omega)))) ?_
    refine wl_det rfl rfl rfl (op_assign rfl) ?_
    refine wl_nil ?_
    refine st_tn ?_
    refine w_seq ?_
    refine w_block ?_
    refine w_loopQ (X := Nat) (fun z => z ≤ S.length ∧ ∀ x ∈ S.drop z, y < x) (fun z => [(5, .int .i64 (z))]) (fun _ => []) (fun z => z) (S.length) [(0, _), (3, _), (4, _)] [(3, _)] [3] rfl (rfl) (.cons rfl (.nil _)) (.cons rfl (.cons rfl (.cons rfl (.nil _)))) (by
        try dsimp only
        exact ⟨Nat.le_refl _, by simp⟩) ?_
    rintro j ⟨hj, hgt⟩
    refine w_norm2 (by dsimp only [List.cons_append, List.nil_append]) (by dsimp only [List.cons_append, List.nil_append]) ?_
    try dsimp only at hj hgt ⊢
    refine w_seq ?_
    refine w_seq ?_
    refine w_cutL [(27, .bool (decide (0 < (j : Int) ∧ y < S.getD (j - 1) 0)))] [0, 3, 4, 5] [3] rfl (fun K' hK => ?_) ?_
    · -- cut r6
      by_cases hq : (0 : Int) < (j : Int)
      · -- hq True
        obtain ⟨z, hz⟩ := getE (l := S) (i := j - 1) (by omega)
        have hz' : S[((j : Int) - 1).toNat]? = some z := by rw [show ((j : Int) - 1).toNat = j - 1 by omega]; exact hz
        have hgd : S.getD (j - 1) 0 = z := by rw [List.getD_eq_getElem?_getD, hz]; rfl
        refine w_drawW (fun β => [⟨14, [], [], [], noW (_), false, [], []⟩, ⟨15, [0], [], [], noW (_), false, [], []⟩, ⟨16, [1], [], [], noW (_), false, [], []⟩, ⟨17, [], [], [], noW (_), false, [], []⟩, ⟨18, [], [], [], noW (_), false, [], []⟩, ⟨19, [4], [], [], noW (_), false, [], []⟩, ⟨20, [3, 5], [], [], noW (_), false, [], []⟩, ⟨21, [6], [], [], noW (_), false, [], []⟩, ⟨22, [], [], [], noW (_), false, [], []⟩, ⟨23, [], [], [], noW (_), false, [], []⟩, ⟨24, [8, 9], [], [], noW (_), false, [], []⟩, ⟨25, [10], [], [], noW (_), false, [], []⟩, ⟨26, [7, 11], [], [], noW (_), false, [], []⟩, ⟨27, [2, 12], [], [], noW (_), false, [], []⟩]) [] [5, 3, 0, 4] [⟨14, [], [], false, [], []⟩, ⟨15, [0], [], false, [], []⟩, ⟨16, [1], [], false, [], []⟩, ⟨17, [], [], false, [], []⟩, ⟨18, [], [], false, [], []⟩, ⟨19, [4], [], false, [], []⟩, ⟨20, [3, 5], [], false, [], []⟩, ⟨21, [6], [], false, [], []⟩, ⟨22, [], [], false, [], []⟩, ⟨23, [], [], false, [], []⟩, ⟨24, [8, 9], [], false, [], []⟩, ⟨25, [10], [], false, [], []⟩, ⟨26, [7, 11], [], false, [], []⟩, ⟨27, [2, 12], [], false, [], []⟩] [[], [], [], [], [], [], [], [], [], [], [], [], [], []] [[], [], [], [], [], [], [], [], [], [], [], [], [], []] tMixk (fun _ => by rfl) (fun _ => by rfl) (by kernel_rfl) (by kernel_rfl) (by rfl) (by rfl)
            (fun β => ⟨.p rfl (by intro X; exact op_move rfl),
            ⟨.p rfl (by intro X; rintro _ _ ⟨rfl, rfl⟩; exact op_gtr rfl rfl),
            ⟨.p rfl (by intro X; rintro _ _ ⟨rfl, rfl⟩; exact op_move rfl),
            ⟨.w rfl rfl rfl (by rintro _ _ ⟨rfl, rfl⟩; first | rfl | (exact congrArg Value.bool (decide_eq_true (by omega))) | (exact congrArg Value.bool (decide_eq_false (by omega))) | (simp; done) | (simp; omega) | (simp [*]; done)) (by intro X; exact op_move rfl),
            ⟨.w rfl rfl rfl (by rintro _ _ ⟨rfl, rfl⟩; first | rfl | (exact congrArg Value.bool (decide_eq_true (by omega))) | (exact congrArg Value.bool (decide_eq_false (by omega))) | (simp; done) | (simp; omega) | (simp [*]; done)) (by intro X; exact op_move rfl),
            ⟨.w rfl rfl rfl (by rintro _ _ ⟨rfl, rfl⟩; first | rfl | (exact congrArg Value.bool (decide_eq_true (by omega))) | (exact congrArg Value.bool (decide_eq_false (by omega))) | (simp; done) | (simp; omega) | (simp [*]; done)) (by intro X; rintro _ _ ⟨rfl, rfl⟩; exact op_sub' rfl rfl (by omega)),
            ⟨.w rfl rfl rfl (by rintro _ _ ⟨rfl, rfl⟩; first | rfl | (exact congrArg Value.bool (decide_eq_true (by omega))) | (exact congrArg Value.bool (decide_eq_false (by omega))) | (simp; done) | (simp; omega) | (simp [*]; done)) (by intro X; rintro _ _ ⟨rfl, rfl⟩ _ _ ⟨rfl, rfl⟩; exact op_idxZ rfl rfl tS26k (Sl.ent (Sl.lab 3 rfl (by unfold maxLen; omega))) (by omega) (by omega)),
            ⟨.w rfl rfl rfl (by rintro _ _ ⟨rfl, rfl⟩; first | rfl | (exact congrArg Value.bool (decide_eq_true (by omega))) | (exact congrArg Value.bool (decide_eq_false (by omega))) | (simp; done) | (simp; omega) | (simp [*]; done)) (by intro X; rintro _ _ ⟨rfl, rfl⟩; exact op_ldx rfl tO3k (Sl.lab 3 rfl (by unfold maxLen; omega)) (by assumption) (by rfl)),
            ⟨.w rfl rfl rfl (by rintro _ _ ⟨rfl, rfl⟩; first | rfl | (exact congrArg Value.bool (decide_eq_true (by omega))) | (exact congrArg Value.bool (decide_eq_false (by omega))) | (simp; done) | (simp; omega) | (simp [*]; done)) (by intro X; exact op_move rfl),
            ⟨.w rfl rfl rfl (by rintro _ _ ⟨rfl, rfl⟩; first | rfl | (exact congrArg Value.bool (decide_eq_true (by omega))) | (exact congrArg Value.bool (decide_eq_false (by omega))) | (simp; done) | (simp; omega) | (simp [*]; done)) (by intro X; exact op_move rfl),
            ⟨.w rfl rfl rfl (by rintro _ _ ⟨rfl, rfl⟩; first | rfl | (exact congrArg Value.bool (decide_eq_true (by omega))) | (exact congrArg Value.bool (decide_eq_false (by omega))) | (simp; done) | (simp; omega) | (simp [*]; done)) (by intro X; rintro _ _ ⟨rfl, rfl⟩ _ _ ⟨rfl, rfl⟩; exact op_idx rfl rfl tS26k (Sl.ent (by first | exact Sl.app (by assumption) _ | exact Sl.app (Sl.app (by assumption) _) _)) (by omega)),
            ⟨.w rfl rfl rfl (by rintro _ _ ⟨rfl, rfl⟩; first | rfl | (exact congrArg Value.bool (decide_eq_true (by omega))) | (exact congrArg Value.bool (decide_eq_false (by omega))) | (simp; done) | (simp; omega) | (simp [*]; done)) (by intro X; rintro _ _ ⟨rfl, rfl⟩; exact op_ldx rfl tO3k (by first | exact Sl.app (by assumption) _ | exact Sl.app (Sl.app (by assumption) _) _) (by assumption) (by rfl)),
            ⟨.w rfl rfl rfl (by rintro _ _ ⟨rfl, rfl⟩; first | rfl | (exact congrArg Value.bool (decide_eq_true (by omega))) | (exact congrArg Value.bool (decide_eq_false (by omega))) | (simp; done) | (simp; omega) | (simp [*]; done)) (by intro X; rintro _ _ ⟨rfl, rfl⟩ _ _ ⟨rfl, rfl⟩; exact op_gtr rfl rfl),
            ⟨.p rfl (by intro X; rintro _ _ ⟨rfl, rfl⟩ _ _ ⟨rfl, rfl⟩; exact op_pick_t (by first | rfl | (show some (Value.bool (decide _)) = _; rw [decide_eq_true (by omega)]) | (show some (Value.bool (decide _)) = _; rw [decide_eq_false (by omega)]) | (simp [ev, lk]; done) | (simp [ev, lk]; omega) | (simp [ev, lk, *]; done)) rfl),
            trivial⟩⟩⟩⟩⟩⟩⟩⟩⟩⟩⟩⟩⟩⟩)
            (fun β β' => ⟨fun _ => by rfl, ⟨fun _ => by rfl, ⟨fun _ => by rfl, ⟨fun _ => by rfl, ⟨fun _ => by rfl, ⟨fun _ => by rfl, ⟨fun _ => by rfl, ⟨fun _ => by rfl, ⟨fun _ => by rfl, ⟨fun _ => by rfl, ⟨fun _ => by rfl, ⟨fun _ => by rfl, ⟨fun _ => by rfl, ⟨fun _ => by rfl, trivial⟩⟩⟩⟩⟩⟩⟩⟩⟩⟩⟩⟩⟩⟩) ?_
        intro β
        rintro _ _ ⟨rfl, rfl⟩ _ _ ⟨rfl, rfl⟩ _ _ ⟨rfl, rfl⟩ _ _ ⟨rfl, rfl⟩ _ _ ⟨rfl, rfl⟩ _ _ ⟨rfl, rfl⟩ _ _ ⟨rfl, rfl⟩ _ _ ⟨rfl, rfl⟩ _ _ ⟨rfl, rfl⟩ _ _ ⟨rfl, rfl⟩ _ _ ⟨rfl, rfl⟩ _ _ ⟨rfl, rfl⟩ _ _ ⟨rfl, rfl⟩ _ _ ⟨rfl, rfl⟩
        refine wl_norm (e' := [(0, _), (3, _), (4, _), (5, _), (27, _)]) (.cons rfl (.cons rfl (.cons rfl (.cons rfl (.cons rfl (.nil _)))))) (by dsimp only [cond_false, cond_true, List.nil_append, List.cons_append]) ?_
        refine wl_nil ?_
        refine st_tn ?_
        exact cut_done1 [3] hK rfl (by first | (rw [decide_eq_decide]; omega) | (symm; rw [decide_eq_false_iff_not]; omega) | (symm; rw [decide_eq_true_iff]; omega) | (simp; done) | (simp; omega) | (simp [*]; done) | (simp [*]; omega)) (by rfl) rfl rfl
      · -- hq False
        refine w_drawW (fun β => [⟨14, [], [], [], noW (_), false, [], []⟩, ⟨15, [0], [], [], noW (_), false, [], []⟩, ⟨16, [1], [], [], noW (_), false, [], []⟩, ⟨17, [], [], [], noW (Det undef), false, [], []⟩, ⟨18, [], [], [], noW (Det undef), false, [], []⟩, ⟨19, [], [], [], noW (Det undef), false, [], []⟩, ⟨20, [], [], [], noW (Det undef), false, [], []⟩, ⟨21, [], [], [], noW (Det undef), false, [], []⟩, ⟨22, [], [], [], noW (Det undef), false, [], []⟩, ⟨23, [], [], [], noW (Det undef), false, [], []⟩, ⟨24, [], [], [], noW (Det undef), false, [], []⟩, ⟨25, [], [], [], noW (Det undef), false, [], []⟩, ⟨26, [], [], [], noW (Det undef), false, [], []⟩, ⟨27, [2, 12], [], [], noW (_), false, [], []⟩]) [] [5, 3, 0, 4] [⟨14, [], [], false, [], []⟩, ⟨15, [0], [], false, [], []⟩, ⟨16, [1], [], false, [], []⟩, ⟨17, [], [], false, [], []⟩, ⟨18, [], [], false, [], []⟩, ⟨19, [], [], false, [], []⟩, ⟨20, [], [], false, [], []⟩, ⟨21, [], [], false, [], []⟩, ⟨22, [], [], false, [], []⟩, ⟨23, [], [], false, [], []⟩, ⟨24, [], [], false, [], []⟩, ⟨25, [], [], false, [], []⟩, ⟨26, [], [], false, [], []⟩, ⟨27, [2, 12], [], false, [], []⟩] [[], [], [], [], [], [], [], [], [], [], [], [], [], []] [[], [], [], [], [], [], [], [], [], [], [], [], [], []] tMixk (fun _ => by rfl) (fun _ => by rfl) (by kernel_rfl) (by kernel_rfl) (by rfl) (by rfl)
            (fun β => ⟨.p rfl (by intro X; exact op_move rfl),
            ⟨.p rfl (by intro X; rintro _ _ ⟨rfl, rfl⟩; exact op_gtr rfl rfl),
            ⟨.p rfl (by intro X; rintro _ _ ⟨rfl, rfl⟩; exact op_move rfl),
            ⟨.u rfl rfl rfl (by rintro _ _ ⟨rfl, rfl⟩; exact congrArg (offB true) (by first | rfl | (exact congrArg Value.bool (decide_eq_true (by omega))) | (exact congrArg Value.bool (decide_eq_false (by omega))) | (simp; done) | (simp; omega) | (simp [*]; done) : _ = Value.bool false)) ⟨rfl, rfl⟩ rfl rfl,
            ⟨.u rfl rfl rfl (by rintro _ _ ⟨rfl, rfl⟩; exact congrArg (offB true) (by first | rfl | (exact congrArg Value.bool (decide_eq_true (by omega))) | (exact congrArg Value.bool (decide_eq_false (by omega))) | (simp; done) | (simp; omega) | (simp [*]; done) : _ = Value.bool false)) ⟨rfl, rfl⟩ rfl rfl,
            ⟨.u rfl rfl rfl (by rintro _ _ ⟨rfl, rfl⟩; exact congrArg (offB true) (by first | rfl | (exact congrArg Value.bool (decide_eq_true (by omega))) | (exact congrArg Value.bool (decide_eq_false (by omega))) | (simp; done) | (simp; omega) | (simp [*]; done) : _ = Value.bool false)) ⟨rfl, rfl⟩ rfl rfl,
            ⟨.u rfl rfl rfl (by rintro _ _ ⟨rfl, rfl⟩; exact congrArg (offB true) (by first | rfl | (exact congrArg Value.bool (decide_eq_true (by omega))) | (exact congrArg Value.bool (decide_eq_false (by omega))) | (simp; done) | (simp; omega) | (simp [*]; done) : _ = Value.bool false)) ⟨rfl, rfl⟩ rfl rfl,
            ⟨.u rfl rfl rfl (by rintro _ _ ⟨rfl, rfl⟩; exact congrArg (offB true) (by first | rfl | (exact congrArg Value.bool (decide_eq_true (by omega))) | (exact congrArg Value.bool (decide_eq_false (by omega))) | (simp; done) | (simp; omega) | (simp [*]; done) : _ = Value.bool false)) ⟨rfl, rfl⟩ rfl rfl,
            ⟨.u rfl rfl rfl (by rintro _ _ ⟨rfl, rfl⟩; exact congrArg (offB true) (by first | rfl | (exact congrArg Value.bool (decide_eq_true (by omega))) | (exact congrArg Value.bool (decide_eq_false (by omega))) | (simp; done) | (simp; omega) | (simp [*]; done) : _ = Value.bool false)) ⟨rfl, rfl⟩ rfl rfl,
            ⟨.u rfl rfl rfl (by rintro _ _ ⟨rfl, rfl⟩; exact congrArg (offB true) (by first | rfl | (exact congrArg Value.bool (decide_eq_true (by omega))) | (exact congrArg Value.bool (decide_eq_false (by omega))) | (simp; done) | (simp; omega) | (simp [*]; done) : _ = Value.bool false)) ⟨rfl, rfl⟩ rfl rfl,
            ⟨.u rfl rfl rfl (by rintro _ _ ⟨rfl, rfl⟩; exact congrArg (offB true) (by first | rfl | (exact congrArg Value.bool (decide_eq_true (by omega))) | (exact congrArg Value.bool (decide_eq_false (by omega))) | (simp; done) | (simp; omega) | (simp [*]; done) : _ = Value.bool false)) ⟨rfl, rfl⟩ rfl rfl,
            ⟨.u rfl rfl rfl (by rintro _ _ ⟨rfl, rfl⟩; exact congrArg (offB true) (by first | rfl | (exact congrArg Value.bool (decide_eq_true (by omega))) | (exact congrArg Value.bool (decide_eq_false (by omega))) | (simp; done) | (simp; omega) | (simp [*]; done) : _ = Value.bool false)) ⟨rfl, rfl⟩ rfl rfl,
            ⟨.u rfl rfl rfl (by rintro _ _ ⟨rfl, rfl⟩; exact congrArg (offB true) (by first | rfl | (exact congrArg Value.bool (decide_eq_true (by omega))) | (exact congrArg Value.bool (decide_eq_false (by omega))) | (simp; done) | (simp; omega) | (simp [*]; done) : _ = Value.bool false)) ⟨rfl, rfl⟩ rfl rfl,
            ⟨.p rfl (by intro X; rintro _ _ ⟨rfl, rfl⟩ _ _ ⟨rfl, rfl⟩; exact op_pick_f (by first | rfl | (show some (Value.bool (decide _)) = _; rw [decide_eq_true (by omega)]) | (show some (Value.bool (decide _)) = _; rw [decide_eq_false (by omega)]) | (simp [ev, lk]; done) | (simp [ev, lk]; omega) | (simp [ev, lk, *]; done)) rfl),
            trivial⟩⟩⟩⟩⟩⟩⟩⟩⟩⟩⟩⟩⟩⟩)
            (fun β β' => ⟨fun _ => by rfl, ⟨fun _ => by rfl, ⟨fun _ => by rfl, ⟨fun _ => by rfl, ⟨fun _ => by rfl, ⟨fun _ => by rfl, ⟨fun _ => by rfl, ⟨fun _ => by rfl, ⟨fun _ => by rfl, ⟨fun _ => by rfl, ⟨fun _ => by rfl, ⟨fun _ => by rfl, ⟨fun _ => by rfl, ⟨fun _ => by rfl, trivial⟩⟩⟩⟩⟩⟩⟩⟩⟩⟩⟩⟩⟩⟩) ?_
        intro β
        rintro _ _ ⟨rfl, rfl⟩ _ _ ⟨rfl, rfl⟩ _ _ ⟨rfl, rfl⟩ _ _ ⟨rfl, rfl⟩ _ _ ⟨rfl, rfl⟩ _ _ ⟨rfl, rfl⟩ _ _ ⟨rfl, rfl⟩ _ _ ⟨rfl, rfl⟩ _ _ ⟨rfl, rfl⟩ _ _ ⟨rfl, rfl⟩ _ _ ⟨rfl, rfl⟩ _ _ ⟨rfl, rfl⟩ _ _ ⟨rfl, rfl⟩ _ _ ⟨rfl, rfl⟩
        refine wl_norm (e' := [(0, _), (3, _), (4, _), (5, _), (27, _)]) (.cons rfl (.cons rfl (.cons rfl (.cons rfl (.cons rfl (.nil _)))))) (by dsimp only [cond_false, cond_true, List.nil_append, List.cons_append]) ?_
        refine wl_nil ?_
        refine st_tn ?_
        exact cut_done1 [3] hK rfl (by first | (rw [decide_eq_decide]; omega) | (symm; rw [decide_eq_false_iff_not]; omega) | (symm; rw [decide_eq_true_iff]; omega) | (simp; done) | (simp; omega) | (simp [*]; done) | (simp [*]; omega)) (by rfl) rfl rfl
    · -- behind r6
      show W _ _ _ _ _ [(27, _), (0, _), (3, _), (4, _), (5, _)] [(3, _)] _
      refine w_cond_d rfl (fun hc27 => ?_) (fun hc27 => ?_)
      · -- c27.t
        obtain ⟨z, hz⟩ := getE (l := S) (i := j - 1) (by omega)
        have hgd : S.getD (j - 1) 0 = z := by rw [List.getD_eq_getElem?_getD, hz]; rfl
        rw [hgd] at hc27
        have hj0 := hc27.1
        replace hc27 := hc27.2
        refine w_skip ?_
        refine st_tn ?_
        refine w_block ?_
        refine w_region ?_
        refine wl_det rfl rfl rfl (op_move rfl) ?_
        refine wl_det rfl rfl rfl (op_val (v' := .int .i64 ((j - 1 : Nat) : Int)) (by congr 1; omega) (op_sub' rfl rfl (by omega))) ?_
        refine wl_det rfl rfl rfl (op_assign rfl) ?_
        refine wl_nil ?_
        refine st_bn ?_
        refine st_roundQ (x := j) (j - 1) [3] rfl (rfl) (.cons rfl (.nil _)) (.cons rfl (.cons rfl (.cons rfl (.nil _)))) (by
            try dsimp only
            exact ⟨by omega, fun x hx => by rw [List.drop_eq_getElem_cons (by omega : j - 1 < S.length)] at hx; rcases List.mem_cons.1 hx with rfl | hx; (· have := (List.getElem?_eq_some_iff.1 hz).2; rw [this]; exact hc27); (· rw [show j - 1 + 1 = j by omega] at hx; exact hgt x hx)⟩) (by
            try dsimp only
            omega) 
      · -- c27.f
        refine w_exit ?_
        refine st_te ?_
        refine st_te ?_
        refine st_be ?_
        refine st_tn ?_
        refine w_seq ?_
        refine w_seq ?_
        refine w_cutL [(43, .bool (decide (0 < (j : Int) ∧ S.getD (j - 1) 0 = y)))] [0, 3, 4, 5] [3] rfl (fun K' hK => ?_) ?_
        · -- cut r8
          by_cases hq : (0 : Int) < (j : Int)
          · -- hq True
            obtain ⟨z, hz⟩ := getE (l := S) (i := j - 1) (by omega)
            have hz' : S[((j : Int) - 1).toNat]? = some z := by rw [show ((j : Int) - 1).toNat = j - 1 by omega]; exact hz
            have hgd : S.getD (j - 1) 0 = z := by rw [List.getD_eq_getElem?_getD, hz]; rfl
            refine w_drawW (fun β => [⟨30, [], [], [], noW (_), false, [], []⟩, ⟨31, [0], [], [], noW (_), false, [], []⟩, ⟨32, [1], [], [], noW (_), false, [], []⟩, ⟨33, [], [], [], noW (_), false, [], []⟩, ⟨34, [], [], [], noW (_), false, [], []⟩, ⟨35, [4], [], [], noW (_), false, [], []⟩, ⟨36, [3, 5], [], [], noW (_), false, [], []⟩, ⟨37, [6], [], [], noW (_), false, [], []⟩, ⟨38, [], [], [], noW (_), false, [], []⟩, ⟨39, [], [], [], noW (_), false, [], []⟩, ⟨40, [8, 9], [], [], noW (_), false, [], []⟩, ⟨41, [10], [], [], noW (_), false, [], []⟩, ⟨42, [7, 11], [], [], noW (_), false, [], []⟩, ⟨43, [2, 12], [], [], noW (_), false, [], []⟩]) [] [5, 3, 0, 4] [⟨30, [], [], false, [], []⟩, ⟨31, [0], [], false, [], []⟩, ⟨32, [1], [], false, [], []⟩, ⟨33, [], [], false, [], []⟩, ⟨34, [], [], false, [], []⟩, ⟨35, [4], [], false, [], []⟩, ⟨36, [3, 5], [], false, [], []⟩, ⟨37, [6], [], false, [], []⟩, ⟨38, [], [], false, [], []⟩, ⟨39, [], [], false, [], []⟩, ⟨40, [8, 9], [], false, [], []⟩, ⟨41, [10], [], false, [], []⟩, ⟨42, [7, 11], [], false, [], []⟩, ⟨43, [2, 12], [], false, [], []⟩] [[], [], [], [], [], [], [], [], [], [], [], [], [], []] [[], [], [], [], [], [], [], [], [], [], [], [], [], []] tMixk (fun _ => by rfl) (fun _ => by rfl) (by kernel_rfl) (by kernel_rfl) (by rfl) (by rfl)
                (fun β => ⟨.p rfl (by intro X; exact op_move rfl),
                ⟨.p rfl (by intro X; rintro _ _ ⟨rfl, rfl⟩; exact op_gtr rfl rfl),
                ⟨.p rfl (by intro X; rintro _ _ ⟨rfl, rfl⟩; exact op_move rfl),
                ⟨.w rfl rfl rfl (by rintro _ _ ⟨rfl, rfl⟩; first | rfl | (exact congrArg Value.bool (decide_eq_true (by omega))) | (exact congrArg Value.bool (decide_eq_false (by omega))) | (simp; done) | (simp; omega) | (simp [*]; done)) (by intro X; exact op_move rfl),
                ⟨.w rfl rfl rfl (by rintro _ _ ⟨rfl, rfl⟩; first | rfl | (exact congrArg Value.bool (decide_eq_true (by omega))) | (exact congrArg Value.bool (decide_eq_false (by omega))) | (simp; done) | (simp; omega) | (simp [*]; done)) (by intro X; exact op_move rfl),
                ⟨.w rfl rfl rfl (by rintro _ _ ⟨rfl, rfl⟩; first | rfl | (exact congrArg Value.bool (decide_eq_true (by omega))) | (exact congrArg Value.bool (decide_eq_false (by omega))) | (simp; done) | (simp; omega) | (simp [*]; done)) (by intro X; rintro _ _ ⟨rfl, rfl⟩; exact op_sub' rfl rfl (by omega)),
                ⟨.w rfl rfl rfl (by rintro _ _ ⟨rfl, rfl⟩; first | rfl | (exact congrArg Value.bool (decide_eq_true (by omega))) | (exact congrArg Value.bool (decide_eq_false (by omega))) | (simp; done) | (simp; omega) | (simp [*]; done)) (by intro X; rintro _ _ ⟨rfl, rfl⟩ _ _ ⟨rfl, rfl⟩; exact op_idxZ rfl rfl tS26k (Sl.ent (Sl.lab 3 rfl (by unfold maxLen; omega))) (by omega) (by omega)),
                ⟨.w rfl rfl rfl (by rintro _ _ ⟨rfl, rfl⟩; first | rfl | (exact congrArg Value.bool (decide_eq_true (by omega))) | (exact congrArg Value.bool (decide_eq_false (by omega))) | (simp; done) | (simp; omega) | (simp [*]; done)) (by intro X; rintro _ _ ⟨rfl, rfl⟩; exact op_ldx rfl tO3k (Sl.lab 3 rfl (by unfold maxLen; omega)) (by assumption) (by rfl)),
                ⟨.w rfl rfl rfl (by rintro _ _ ⟨rfl, rfl⟩; first | rfl | (exact congrArg Value.bool (decide_eq_true (by omega))) | (exact congrArg Value.bool (decide_eq_false (by omega))) | (simp; done) | (simp; omega) | (simp [*]; done)) (by intro X; exact op_move rfl),
                ⟨.w rfl rfl rfl (by rintro _ _ ⟨rfl, rfl⟩; first | rfl | (exact congrArg Value.bool (decide_eq_true (by omega))) | (exact congrArg Value.bool (decide_eq_false (by omega))) | (simp; done) | (simp; omega) | (simp [*]; done)) (by intro X; exact op_move rfl),
                ⟨.w rfl rfl rfl (by rintro _ _ ⟨rfl, rfl⟩; first | rfl | (exact congrArg Value.bool (decide_eq_true (by omega))) | (exact congrArg Value.bool (decide_eq_false (by omega))) | (simp; done) | (simp; omega) | (simp [*]; done)) (by intro X; rintro _ _ ⟨rfl, rfl⟩ _ _ ⟨rfl, rfl⟩; exact op_idx rfl rfl tS26k (Sl.ent (by first | exact Sl.app (by assumption) _ | exact Sl.app (Sl.app (by assumption) _) _)) (by omega)),
                ⟨.w rfl rfl rfl (by rintro _ _ ⟨rfl, rfl⟩; first | rfl | (exact congrArg Value.bool (decide_eq_true (by omega))) | (exact congrArg Value.bool (decide_eq_false (by omega))) | (simp; done) | (simp; omega) | (simp [*]; done)) (by intro X; rintro _ _ ⟨rfl, rfl⟩; exact op_ldx rfl tO3k (by first | exact Sl.app (by assumption) _ | exact Sl.app (Sl.app (by assumption) _) _) (by assumption) (by rfl)),
                ⟨.w rfl rfl rfl (by rintro _ _ ⟨rfl, rfl⟩; first | rfl | (exact congrArg Value.bool (decide_eq_true (by omega))) | (exact congrArg Value.bool (decide_eq_false (by omega))) | (simp; done) | (simp; omega) | (simp [*]; done)) (by intro X; rintro _ _ ⟨rfl, rfl⟩ _ _ ⟨rfl, rfl⟩; exact op_eql rfl rfl),
                ⟨.p rfl (by intro X; rintro _ _ ⟨rfl, rfl⟩ _ _ ⟨rfl, rfl⟩; exact op_pick_t (by first | rfl | (show some (Value.bool (decide _)) = _; rw [decide_eq_true (by omega)]) | (show some (Value.bool (decide _)) = _; rw [decide_eq_false (by omega)]) | (simp [ev, lk]; done) | (simp [ev, lk]; omega) | (simp [ev, lk, *]; done)) rfl),
                trivial⟩⟩⟩⟩⟩⟩⟩⟩⟩⟩⟩⟩⟩⟩)
                (fun β β' => ⟨fun _ => by rfl, ⟨fun _ => by rfl, ⟨fun _ => by rfl, ⟨fun _ => by rfl, ⟨fun _ => by rfl, ⟨fun _ => by rfl, ⟨fun _ => by rfl, ⟨fun _ => by rfl, ⟨fun _ => by rfl, ⟨fun _ => by rfl, ⟨fun _ => by rfl, ⟨fun _ => by rfl, ⟨fun _ => by rfl, ⟨fun _ => by rfl, trivial⟩⟩⟩⟩⟩⟩⟩⟩⟩⟩⟩⟩⟩⟩) ?_
            intro β
            rintro _ _ ⟨rfl, rfl⟩ _ _ ⟨rfl, rfl⟩ _ _ ⟨rfl, rfl⟩ _ _ ⟨rfl, rfl⟩ _ _ ⟨rfl, rfl⟩ _ _ ⟨rfl, rfl⟩ _ _ ⟨rfl, rfl⟩ _ _ ⟨rfl, rfl⟩ _ _ ⟨rfl, rfl⟩ _ _ ⟨rfl, rfl⟩ _ _ ⟨rfl, rfl⟩ _ _ ⟨rfl, rfl⟩ _ _ ⟨rfl, rfl⟩ _ _ ⟨rfl, rfl⟩
            refine wl_norm (e' := [(0, _), (3, _), (4, _), (5, _), (43, _)]) (.cons rfl (.cons rfl (.cons rfl (.cons rfl (.cons rfl (.nil _)))))) (by dsimp only [cond_false, cond_true, List.nil_append, List.cons_append]) ?_
            refine wl_nil ?_
            refine st_tn ?_
            exact cut_done1 [3] hK rfl (by first | (rw [decide_eq_decide]; omega) | (symm; rw [decide_eq_false_iff_not]; omega) | (symm; rw [decide_eq_true_iff]; omega) | (simp; done) | (simp; omega) | (simp [*]; done) | (simp [*]; omega)) (by rfl) rfl rfl
          · -- hq False
            refine w_drawW (fun β => [⟨30, [], [], [], noW (_), false, [], []⟩, ⟨31, [0], [], [], noW (_), false, [], []⟩, ⟨32, [1], [], [], noW (_), false, [], []⟩, ⟨33, [], [], [], noW (Det undef), false, [], []⟩, ⟨34, [], [], [], noW (Det undef), false, [], []⟩, ⟨35, [], [], [], noW (Det undef), false, [], []⟩, ⟨36, [], [], [], noW (Det undef), false, [], []⟩, ⟨37, [], [], [], noW (Det undef), false, [], []⟩, ⟨38, [], [], [], noW (Det undef), false, [], []⟩, ⟨39, [], [], [], noW (Det undef), false, [], []⟩, ⟨40, [], [], [], noW (Det undef), false, [], []⟩, ⟨41, [], [], [], noW (Det undef), false, [], []⟩, ⟨42, [], [], [], noW (Det undef), false, [], []⟩, ⟨43, [2, 12], [], [], noW (_), false, [], []⟩]) [] [5, 3, 0, 4] [⟨30, [], [], false, [], []⟩, ⟨31, [0], [], false, [], []⟩, ⟨32, [1], [], false, [], []⟩, ⟨33, [], [], false, [], []⟩, ⟨34, [], [], false, [], []⟩, ⟨35, [], [], false, [], []⟩, ⟨36, [], [], false, [], []⟩, ⟨37, [], [], false, [], []⟩, ⟨38, [], [], false, [], []⟩, ⟨39, [], [], false, [], []⟩, ⟨40, [], [], false, [], []⟩, ⟨41, [], [], false, [], []⟩, ⟨42, [], [], false, [], []⟩, ⟨43, [2, 12], [], false, [], []⟩] [[], [], [], [], [], [], [], [], [], [], [], [], [], []] [[], [], [], [], [], [], [], [], [], [], [], [], [], []] tMixk (fun _ => by rfl) (fun _ => by rfl) (by kernel_rfl) (by kernel_rfl) (by rfl) (by rfl)
                (fun β => ⟨.p rfl (by intro X; exact op_move rfl),
                ⟨.p rfl (by intro X; rintro _ _ ⟨rfl, rfl⟩; exact op_gtr rfl rfl),
                ⟨.p rfl (by intro X; rintro _ _ ⟨rfl, rfl⟩; exact op_move rfl),
                ⟨.u rfl rfl rfl (by rintro _ _ ⟨rfl, rfl⟩; exact congrArg (offB true) (by first | rfl | (exact congrArg Value.bool (decide_eq_true (by omega))) | (exact congrArg Value.bool (decide_eq_false (by omega))) | (simp; done) | (simp; omega) | (simp [*]; done) : _ = Value.bool false)) ⟨rfl, rfl⟩ rfl rfl,
                ⟨.u rfl rfl rfl (by rintro _ _ ⟨rfl, rfl⟩; exact congrArg (offB true) (by first | rfl | (exact congrArg Value.bool (decide_eq_true (by omega))) | (exact congrArg Value.bool (decide_eq_false (by omega))) | (simp; done) | (simp; omega) | (simp [*]; done) : _ = Value.bool false)) ⟨rfl, rfl⟩ rfl rfl,
                ⟨.u rfl rfl rfl (by rintro _ _ ⟨rfl, rfl⟩; exact congrArg (offB true) (by first | rfl | (exact congrArg Value.bool (decide_eq_true (by omega))) | (exact congrArg Value.bool (decide_eq_false (by omega))) | (simp; done) | (simp; omega) | (simp [*]; done) : _ = Value.bool false)) ⟨rfl, rfl⟩ rfl rfl,
                ⟨.u rfl rfl rfl (by rintro _ _ ⟨rfl, rfl⟩; exact congrArg (offB true) (by first | rfl | (exact congrArg Value.bool (decide_eq_true (by omega))) | (exact congrArg Value.bool (decide_eq_false (by omega))) | (simp; done) | (simp; omega) | (simp [*]; done) : _ = Value.bool false)) ⟨rfl, rfl⟩ rfl rfl,
                ⟨.u rfl rfl rfl (by rintro _ _ ⟨rfl, rfl⟩; exact congrArg (offB true) (by first | rfl | (exact congrArg Value.bool (decide_eq_true (by omega))) | (exact congrArg Value.bool (decide_eq_false (by omega))) | (simp; done) | (simp; omega) | (simp [*]; done) : _ = Value.bool false)) ⟨rfl, rfl⟩ rfl rfl,
                ⟨.u rfl rfl rfl (by rintro _ _ ⟨rfl, rfl⟩; exact congrArg (offB true) (by first | rfl | (exact congrArg Value.bool (decide_eq_true (by omega))) | (exact congrArg Value.bool (decide_eq_false (by omega))) | (simp; done) | (simp; omega) | (simp [*]; done) : _ = Value.bool false)) ⟨rfl, rfl⟩ rfl rfl,
                ⟨.u rfl rfl rfl (by rintro _ _ ⟨rfl, rfl⟩; exact congrArg (offB true) (by first | rfl | (exact congrArg Value.bool (decide_eq_true (by omega))) | (exact congrArg Value.bool (decide_eq_false (by omega))) | (simp; done) | (simp; omega) | (simp [*]; done) : _ = Value.bool false)) ⟨rfl, rfl⟩ rfl rfl,
                ⟨.u rfl rfl rfl (by rintro _ _ ⟨rfl, rfl⟩; exact congrArg (offB true) (by first | rfl | (exact congrArg Value.bool (decide_eq_true (by omega))) | (exact congrArg Value.bool (decide_eq_false (by omega))) | (simp; done) | (simp; omega) | (simp [*]; done) : _ = Value.bool false)) ⟨rfl, rfl⟩ rfl rfl,
                ⟨.u rfl rfl rfl (by rintro _ _ ⟨rfl, rfl⟩; exact congrArg (offB true) (by first | rfl | (exact congrArg Value.bool (decide_eq_true (by omega))) | (exact congrArg Value.bool (decide_eq_false (by omega))) | (simp; done) | (simp; omega) | (simp [*]; done) : _ = Value.bool false)) ⟨rfl, rfl⟩ rfl rfl,
                ⟨.u rfl rfl rfl (by rintro _ _ ⟨rfl, rfl⟩; exact congrArg (offB true) (by first | rfl | (exact congrArg Value.bool (decide_eq_true (by omega))) | (exact congrArg Value.bool (decide_eq_false (by omega))) | (simp; done) | (simp; omega) | (simp [*]; done) : _ = Value.bool false)) ⟨rfl, rfl⟩ rfl rfl,
                ⟨.p rfl (by intro X; rintro _ _ ⟨rfl, rfl⟩ _ _ ⟨rfl, rfl⟩; exact op_pick_f (by first | rfl | (show some (Value.bool (decide _)) = _; rw [decide_eq_true (by omega)]) | (show some (Value.bool (decide _)) = _; rw [decide_eq_false (by omega)]) | (simp [ev, lk]; done) | (simp [ev, lk]; omega) | (simp [ev, lk, *]; done)) rfl),
                trivial⟩⟩⟩⟩⟩⟩⟩⟩⟩⟩⟩⟩⟩⟩)
                (fun β β' => ⟨fun _ => by rfl, ⟨fun _ => by rfl, ⟨fun _ => by rfl, ⟨fun _ => by rfl, ⟨fun _ => by rfl, ⟨fun _ => by rfl, ⟨fun _ => by rfl, ⟨fun _ => by rfl, ⟨fun _ => by rfl, ⟨fun _ => by rfl, ⟨fun _ => by rfl, ⟨fun _ => by rfl, ⟨fun _ => by rfl, ⟨fun _ => by rfl, trivial⟩⟩⟩⟩⟩⟩⟩⟩⟩⟩⟩⟩⟩⟩) ?_
            intro β
            rintro _ _ ⟨rfl, rfl⟩ _ _ ⟨rfl, rfl⟩ _ _ ⟨rfl, rfl⟩ _ _ ⟨rfl, rfl⟩ _ _ ⟨rfl, rfl⟩ _ _ ⟨rfl, rfl⟩ _ _ ⟨rfl, rfl⟩ _ _ ⟨rfl, rfl⟩ _ _ ⟨rfl, rfl⟩ _ _ ⟨rfl, rfl⟩ _ _ ⟨rfl, rfl⟩ _ _ ⟨rfl, rfl⟩ _ _ ⟨rfl, rfl⟩ _ _ ⟨rfl, rfl⟩
            refine wl_norm (e' := [(0, _), (3, _), (4, _), (5, _), (43, _)]) (.cons rfl (.cons rfl (.cons rfl (.cons rfl (.cons rfl (.nil _)))))) (by dsimp only [cond_false, cond_true, List.nil_append, List.cons_append]) ?_
            refine wl_nil ?_
            refine st_tn ?_
            exact cut_done1 [3] hK rfl (by first | (rw [decide_eq_decide]; omega) | (symm; rw [decide_eq_false_iff_not]; omega) | (symm; rw [decide_eq_true_iff]; omega) | (simp; done) | (simp; omega) | (simp [*]; done) | (simp [*]; omega)) (by rfl) rfl rfl
        · -- behind r8
          show W _ _ _ _ _ [(43, _), (0, _), (3, _), (4, _), (5, _)] [(3, _)] _
          refine w_cond_d rfl (fun hc43 => ?_) (fun hc43 => ?_)
          · -- c43.t
            have hts : ∀ x, x ∈ S ↔ x ∈ l.take (i + 1) := by
              obtain ⟨z, hz⟩ := getE (l := S) (i := j - 1) (by omega)
              have hgd : S.getD (j - 1) 0 = z := by rw [List.getD_eq_getElem?_getD, hz]; rfl
              have hyS : y ∈ S := by rw [← hc43.2, hgd]; exact List.mem_of_getElem? hz
              intro x
              rw [take_snoc hy, List.mem_append, hsm]
              refine ⟨.inl, fun h => h.elim id fun h => ?_⟩
              rw [List.mem_singleton] at h; subst h; exact (hsm _).1 hyS
            refine w_exit ?_
            refine st_te ?_
            refine st_be ?_
            refine st_tn ?_
            refine w_region ?_
            refine wl_det rfl rfl rfl (op_move rfl) ?_
            refine wl_det rfl rfl rfl (op_add' rfl rfl (by omega)) ?_
            refine wl_det rfl rfl rfl (op_assign rfl) ?_
            refine wl_nil ?_
            refine st_roundQ (x := (i, S, a_S, c_S)) ((i + 1, _, _, _)) [3] rfl (rfl) (.cons rfl (.cons rfl (.nil _))) (.cons rfl (.nil _)) (by
                try dsimp only
                exact ⟨by omega, hss, hts, by omega⟩) (by
                try dsimp only
                omega) 
          · -- c43.f
            have hlo : ∀ x ∈ S.take j, x < y := by
              intro x hx
              rcases Nat.eq_zero_or_pos j with h0 | h0
              · subst h0; simp at hx
              · obtain ⟨z, hz⟩ := getE (l := S) (i := j - 1) (by omega)
                have hgd : S.getD (j - 1) 0 = z := by rw [List.getD_eq_getElem?_getD, hz]; rfl
                rw [hgd] at hc43 hc27
                have hzy : z < y := by omega
                have hsn := take_snoc hz
                rw [show j - 1 + 1 = j by omega] at hsn
                rw [hsn] at hx
                rcases List.mem_append.1 hx with hx | hx
                · have hp := (hss.sublist (List.take_sublist j S)); rw [hsn] at hp
                  have := (List.pairwise_append.1 hp).2.2 x hx z (by simp); omega
                · rw [List.mem_singleton] at hx; omega
            have hts : SS (S.take j ++ [y] ++ S.drop j) ∧ ∀ x, x ∈ S.take j ++ [y] ++ S.drop j ↔ x ∈ l.take (i + 1) := by
              refine ⟨?_, fun x => ?_⟩
              · show List.Pairwise _ _
                rw [List.append_assoc, List.pairwise_append]
                refine ⟨hss.sublist (List.take_sublist _ _), ?_, ?_⟩
                · rw [List.singleton_append, List.pairwise_cons]; exact ⟨hgt, hss.sublist (List.drop_sublist _ _)⟩
                · intro u hu v hv
                  have h1 := hlo u hu
                  rcases List.mem_append.1 hv with h | h
                  · rw [List.mem_singleton] at h; omega
                  · have := hgt v h; omega
              · rw [take_snoc hy, List.mem_append, List.mem_append, List.mem_append, ← hsm]
                have : x ∈ S ↔ x ∈ S.take j ∨ x ∈ S.drop j := by rw [← List.mem_append, List.take_append_drop]
                rw [this, List.mem_singleton]
                constructor
                · rintro ((h | h) | h)
                  · exact .inl (.inl h)
                  · exact .inr h
                  · exact .inl (.inr h)
                · rintro ((h | h) | h)
                  · exact .inl (.inl h)
                  · exact .inr h
                  · exact .inl (.inr h)
            refine w_skip ?_
            refine st_tn ?_
            refine w_drawW (fun β => [⟨44, [], [], [], fun w => DetW _ _, true, [], []⟩, ⟨45, [], [], [], noW (_), false, [], []⟩, ⟨46, [], [], [], noW (_), false, [], []⟩, ⟨47, [1, 2], [], [], noW (_), false, [], []⟩, ⟨48, [3], [0], [], fun w => DetW _ _, true, [], []⟩, ⟨49, [], [], [], noW (_), false, [], []⟩, ⟨50, [], [], [], noW (_), false, [], []⟩, ⟨51, [5, 6], [], [], noW (_), false, [], []⟩, ⟨52, [7], [], [], noW (_), false, [], []⟩, ⟨53, [8], [], [], fun w => DetW _ _, false, [], []⟩, ⟨54, [9], [4], [], fun w => DetW _ _, false, [], []⟩, ⟨55, [], [], [], noW (_), false, [], []⟩, ⟨56, [], [], [], noW (_), false, [], []⟩, ⟨57, [11, 12], [], [], noW (_), false, [], []⟩]) [] [3, 5, 0, 4] [⟨44, [], [], true, [], []⟩, ⟨45, [], [], false, [], []⟩, ⟨46, [], [], false, [], []⟩, ⟨47, [1, 2], [], false, [], []⟩, ⟨48, [3], [0], true, [], []⟩, ⟨49, [], [], false, [], []⟩, ⟨50, [], [], false, [], []⟩, ⟨51, [5, 6], [], false, [], []⟩, ⟨52, [7], [], false, [], []⟩, ⟨53, [8], [], false, [], []⟩, ⟨54, [9], [4], false, [], []⟩, ⟨55, [], [], false, [], []⟩, ⟨56, [], [], false, [], []⟩, ⟨57, [11, 12], [], false, [], []⟩] [[], [], [], [], [0], [], [], [], [], [], [0, 4, 9], [], [], []] [[], [], [], [], [], [], [], [], [], [], [], [], [], []] tMixk (fun _ => by rfl) (fun _ => by rfl) (by kernel_rfl) (by kernel_rfl) (by rfl) (by rfl)
                (fun β => ⟨.px rfl (by intro X; refine OpT.mono (op_lit0 (enc := SL.encZ) (lab := 44) tS26k) ?_; rintro _ _ ⟨a44, c44, rfl, rfl⟩; obtain ⟨w, rfl, rfl⟩ : ∃ w : Wt, w.a = a44 ∧ w.c = c44 := ⟨{ a := a44, c := c44 }, rfl, rfl⟩; exact ⟨w, rfl, rfl⟩),
                ⟨.p rfl (by intro X; exact op_move rfl),
                ⟨.p rfl (by intro X; exact op_move rfl),
                ⟨.p rfl (by intro X; rintro _ _ ⟨rfl, rfl⟩ _ _ ⟨rfl, rfl⟩; exact op_sliceR rfl rfl tS26k (Sl.lab 3 rfl (by unfold maxLen; omega)) (by omega)),
                ⟨.px rfl (by intro X; rintro _ _ ⟨rfl, rfl⟩ _ _ ⟨rfl, rfl⟩; show OpT _ _ _ _ _ _ [(_, _)] _; refine OpT.mono (op_append (lab := 44) (lab' := 48) rfl rfl tP26k SL.enc1Z (Sl.sub (Sl.lab 3 rfl (by unfold maxLen; omega)) (Nat.zero_le _) hj) (by first | omega | (simp; omega) | (simp [*]; omega)) (by first | omega | (simp; omega) | (simp [*]; omega))) ?_; rintro _ _ ⟨a48, c48, rfl, rfl⟩; obtain ⟨w, rfl, rfl⟩ : ∃ w : Wt, w.a = a48 ∧ w.c = c48 := ⟨{ a := a48, c := c48 }, rfl, rfl⟩; exact ⟨w, rfl, rfl⟩),
                ⟨.p rfl (by intro X; exact op_move rfl),
                ⟨.p rfl (by intro X; exact op_move rfl),
                ⟨.p rfl (by intro X; rintro _ _ ⟨rfl, rfl⟩ _ _ ⟨rfl, rfl⟩; exact op_idx rfl rfl tS26k (Sl.ent (by first | exact Sl.app (by assumption) _ | exact Sl.app (Sl.app (by assumption) _) _)) (by omega)),
                ⟨.p rfl (by intro X; rintro _ _ ⟨rfl, rfl⟩; exact op_ldx rfl tO3k (by first | exact Sl.app (by assumption) _ | exact Sl.app (Sl.app (by assumption) _) _) (by assumption) (by rfl)),
                ⟨.px rfl (by intro X; rintro _ _ ⟨rfl, rfl⟩; refine OpT.mono (op_buildSlice (enc := SL.encZ) (l := [_]) (lab := 53) tL26_1k rfl rfl (fun _ => rfl) rfl) ?_; rintro _ _ ⟨a53, c53, rfl, rfl⟩; obtain ⟨w, rfl, rfl⟩ : ∃ w : Wt, w.a = a53 ∧ w.c = c53 := ⟨{ a := a53, c := c53 }, rfl, rfl⟩; exact ⟨w, rfl, rfl⟩),
                ⟨.px rfl (by intro X; rintro _ _ ⟨rfl, rfl⟩ _ _ ⟨rfl, rfl⟩; show OpT _ _ _ _ _ _ [(_, _)] _; refine OpT.mono (op_append (lab := 48) (lab' := 54) rfl rfl tP26k SL.enc1Z (Sl.lab 53 rfl (by simp [maxLen])) (by first | omega | (simp; omega) | (simp [*]; omega)) (by first | omega | (simp; omega) | (simp [*]; omega))) ?_; rintro _ _ ⟨a54, c54, rfl, rfl⟩; obtain ⟨w, rfl, rfl⟩ : ∃ w : Wt, w.a = a54 ∧ w.c = c54 := ⟨{ a := a54, c := c54 }, rfl, rfl⟩; exact ⟨w, rfl, rfl⟩),
                ⟨.p rfl (by intro X; exact op_move rfl),
                ⟨.p rfl (by intro X; exact op_move rfl),
                ⟨.p rfl (by intro X; rintro _ _ ⟨rfl, rfl⟩ _ _ ⟨rfl, rfl⟩; exact op_sliceL rfl rfl tS26k (Sl.lab 3 rfl (by unfold maxLen; omega)) (by omega)),
                trivial⟩⟩⟩⟩⟩⟩⟩⟩⟩⟩⟩⟩⟩⟩)
                (fun β β' => ⟨fun _ => by rfl, ⟨fun _ => by rfl, ⟨fun _ => by rfl, ⟨fun _ => by rfl, ⟨fun h => by first | rfl | (simp only [h 0 (by decide)]), ⟨fun _ => by rfl, ⟨fun _ => by rfl, ⟨fun _ => by rfl, ⟨fun _ => by rfl, ⟨fun _ => by rfl, ⟨fun h => by first | rfl | (simp only [h 0 (by decide), h 4 (by decide), h 9 (by decide)]), ⟨fun _ => by rfl, ⟨fun _ => by rfl, ⟨fun _ => by rfl, trivial⟩⟩⟩⟩⟩⟩⟩⟩⟩⟩⟩⟩⟩⟩) ?_
            intro β
            rintro _ _ ⟨rfl, rfl⟩ _ _ ⟨rfl, rfl⟩ _ _ ⟨rfl, rfl⟩ _ _ ⟨rfl, rfl⟩ _ _ ⟨rfl, rfl⟩ _ _ ⟨rfl, rfl⟩ _ _ ⟨rfl, rfl⟩ _ _ ⟨rfl, rfl⟩ _ _ ⟨rfl, rfl⟩ _ _ ⟨rfl, rfl⟩ _ _ ⟨rfl, rfl⟩ _ _ ⟨rfl, rfl⟩ _ _ ⟨rfl, rfl⟩ _ _ ⟨rfl, rfl⟩
            generalize (β 0).a = a44
            generalize (β 0).c = c44
            generalize (β 4).a = a48
            generalize (β 4).c = c48
            generalize (β 9).a = a53
            generalize (β 9).c = c53
            generalize (β 10).a = a54
            generalize (β 10).c = c54
            refine wl_norm (e' := [(0, _), (4, _), (54, _), (57, _)]) (.cons rfl (.cons rfl (.cons rfl (.cons rfl (.nil _))))) (by dsimp only [cond_false, cond_true, List.nil_append, List.cons_append]) ?_
            refine wl_op [54] rfl rfl rfl rfl (op_append (lab := 54) (lab' := 58) rfl rfl tP26k SL.enc1Z (Sl.sub (Sl.lab 3 rfl (by unfold maxLen; omega)) hj (Nat.le_refl _)) (by first | omega | (simp; omega) | (simp [*]; omega)) (by first | omega | (simp; omega) | (simp [*]; omega))) ?_
            rintro _ _ ⟨a58, c58, rfl, rfl⟩
            refine wl_det rfl rfl rfl (op_assign rfl) ?_
            refine wl_nil ?_
            refine st_bn ?_
            refine st_tn ?_
            refine w_region ?_
            refine wl_det rfl rfl rfl (op_move rfl) ?_
            refine wl_det rfl rfl rfl (op_add' rfl rfl (by omega)) ?_
            refine wl_det rfl rfl rfl (op_assign rfl) ?_
            refine wl_nil ?_
            refine st_roundQ (x := (i, S, a_S, c_S)) ((i + 1, _, _, _)) [58] rfl (rfl) (.cons rfl (.cons rfl (.nil _))) (.cons rfl (.nil _)) (by
                try dsimp only
                exact ⟨by omega, by simpa using hts.1, by simpa using hts.2, by simp; omega⟩) (by
                try dsimp only
                omega) 
  · -- c9.f
    refine w_exit ?_
    refine st_te ?_
    refine st_te ?_
    refine st_be ?_
    refine st_tn ?_
    refine w_seq ?_
    refine w_region ?_
    refine wl_det rfl rfl rfl (op_move rfl) ?_
    refine wl_det rfl rfl rfl (op_assign rfl) ?_
    refine wl_nil ?_
    refine st_tn ?_
    refine w_ret ?_
    refine st_ret (vs := [_]) [3] Try.results57 ⟨rfl, trivial⟩ rfl ?_
    refine ⟨[(lab, _)], rfl, ?_⟩
    rw [take_all (by omega)] at hsm; exact ⟨_, _, _, hss, hsm, rfl, rfl⟩

end Go.Proofs.Ytgdjnjbipemdcaa
