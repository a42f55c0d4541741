/- Contracts: the model of a disk: index, check, step, used, read (layer 26). Conditions: none. -/
import Derived.Test.YtjlbeakdgadpmaaD5
namespace Go.Proofs.Ytjlbeakdgadpmaa
open Go Go.SL Go.RowKit Go.DskM
set_option linter.unusedVariables false
set_option linter.unusedSimpArgs false
theorem tF36_1f : fieldB Try.prog 36 1 1 = true := by kernel_rfl
theorem tF36_2f : fieldB Try.prog 36 2 2 = true := by kernel_rfl
theorem tF36_3f : fieldB Try.prog 36 3 3 = true := by kernel_rfl
theorem tF36_4f : fieldB Try.prog 36 4 4 = true := by kernel_rfl
theorem tF51_0f : fieldB Try.prog 51 0 0 = true := by kernel_rfl
theorem tF51_1f : fieldB Try.prog 51 1 1 = true := by kernel_rfl
theorem tF51_2f : fieldB Try.prog 51 2 2 = true := by kernel_rfl
theorem tL48_1f : zerosB Try.prog 48 9 1 1 = some [Value.string .empty] := by kernel_rfl
theorem tMixf : Try.prog.follows .mixedOrders = true := by kernel_rfl
theorem tO3f : oneB Try.prog 3 = true := by kernel_rfl
theorem tO34f : oneB Try.prog 34 = true := by kernel_rfl
theorem tO4f : oneB Try.prog 4 = true := by kernel_rfl
theorem tO9f : oneB Try.prog 9 = true := by kernel_rfl
theorem tS34f : sliceB Try.prog 34 51 4 = true := by kernel_rfl
theorem tS48f : sliceB Try.prog 48 9 1 = true := by kernel_rfl
theorem tZ3f : (Try.prog.info? 3).map (·.size) = some 1 := by kernel_rfl
theorem tZ4f : (Try.prog.info? 4).map (·.size) = some 1 := by kernel_rfl

/-- The number of names below a name. -/
def idxS : Files → Bs → Nat
  | [], _ => 0
  | p :: l, n => if p.1 < n then idxS l n + 1 else 0
theorem idx_le : ∀ (fs : Files) (n : Bs), idxS fs n ≤ fs.length
  | [], _ => Nat.le_refl _
  | p :: l, n => by
    have := idx_le l n
    unfold idxS
    split <;> simp only [List.length_cons] <;> omega
theorem idx_of {n : Bs} : ∀ {fs : Files} {k : Nat}, (∀ p ∈ fs.take k, p.1 < n) → k ≤ fs.length → (∀ p, fs[k]? = some p → ¬ p.1 < n) → idxS fs n = k
  | [], k, _, h, _ => by simp at h; subst h; rfl
  | p :: l, 0, _, _, h => by unfold idxS; rw [if_neg (h p rfl)]
  | p :: l, k + 1, h1, h2, h3 => by
    unfold idxS
    rw [if_pos (h1 p (by simp)), idx_of (k := k) (fun q hq => h1 q (by simp [hq])) (by simpa using h2) (fun q hq => h3 q (by simpa using hq))]
theorem find_idx {n : Bs} : ∀ {fs : Files}, DskM.Inc fs → find fs n = (fs[idxS fs n]?).bind fun p => if p.1 = n then some p.2 else none
  | [], _ => rfl
  | p :: l, h => by
    obtain ⟨h1, h2⟩ := List.pairwise_cons.1 h
    have ih := find_idx (n := n) h2
    rw [find_cons]
    unfold idxS
    split
    · rename_i he; subst he
      rw [if_neg (lt_irrefl _)]; simp
    · rename_i he
      split
      · rw [ih]; simp
      · rename_i hlt
        have hn : n < p.1 := by
          rcases lt_tri p.1 n with h3 | h3 | h3
          · exact absurd h3 hlt
          · exact absurd h3.symm he
          · exact h3
        rw [find_none fun q hq => (ne_of_lt (lt_trans hn (h1 q hq))).symm]
        simp; exact fun e => he e.symm
theorem at_idx {fs : Files} {n : Bs} {f : Fl} (hi : DskM.Inc fs) (h : find fs n = some f) : fs[idxS fs n]? = some (n, f) := by
  rw [find_idx hi] at h
  cases hx : fs[idxS fs n]? with
  | none => rw [hx] at h; simp at h
  | some p =>
    rw [hx] at h
    simp only [Option.bind_some] at h
    split at h
    · rename_i he; simp only [Option.some.injEq] at h
      rw [← he, ← h]
    · simp at h
theorem set_new {n : Bs} {f : Fl} : ∀ {fs : Files}, find fs n = none → setS fs n f = fs.take (idxS fs n) ++ (n, f) :: fs.drop (idxS fs n)
  | [], _ => rfl
  | p :: l, h => by
    rw [find_cons] at h
    split at h
    · simp at h
    · rename_i he
      unfold setS idxS
      by_cases h1 : n < p.1
      · rw [if_pos h1, if_neg (lt_asymm h1)]; rfl
      · have h2 : p.1 < n := by
          rcases lt_tri p.1 n with h3 | h3 | h3
          · exact h3
          · exact absurd h3.symm he
          · exact absurd h3 h1
        rw [if_neg h1, if_neg he, if_pos h2, set_new h]; rfl
theorem set_old {n : Bs} {f g : Fl} : ∀ {fs : Files}, DskM.Inc fs → find fs n = some g → setS fs n f = fs.set (idxS fs n) (n, f)
  | [], _, h => by simp [find_nil] at h
  | p :: l, hi, h => by
    obtain ⟨h1, h2⟩ := List.pairwise_cons.1 hi
    rw [find_cons] at h
    unfold setS idxS
    split at h
    · rename_i he; subst he
      rw [if_neg (lt_irrefl _), if_pos rfl, if_neg (lt_irrefl _)]; rfl
    · rename_i he
      have h3 : p.1 < n := h1 _ (find_mem h)
      rw [if_neg (lt_asymm h3), if_neg he, if_pos h3, set_old h2 h]; rfl
theorem del_idx {n : Bs} {g : Fl} : ∀ {fs : Files}, DskM.Inc fs → find fs n = some g → delS fs n = fs.take (idxS fs n) ++ fs.drop (idxS fs n + 1)
  | [], _, h => by simp [find_nil] at h
  | p :: l, hi, h => by
    obtain ⟨h1, h2⟩ := List.pairwise_cons.1 hi
    rw [find_cons] at h
    unfold idxS
    split at h
    · rename_i he; subst he
      rw [if_neg (lt_irrefl _)]
      exact delS_mid (Q := []) (by simp) h1
    · rename_i he
      have h3 : p.1 < n := h1 _ (find_mem h)
      rw [if_pos h3]
      have ih := del_idx h2 h
      unfold delS at ih ⊢
      rw [List.filter_cons, if_pos (decide_eq_true (ne_of_lt h3)), ih]; rfl
def cellS (s : St) (a : Option Addr) (m c : Nat) : List Value := [.int .i64 s.cap, .slice a m c, .bool s.lim, .bool s.down, .int .i64 s.left]
theorem celS {σ : World} {F : List Res} {R : RL} {b : Nat} {s : St} {a : Option Addr} {m c : Nat} {l : Nat} (h : getL R l = some (cel b (cellS s a m c) 36)) : Ent σ (rs R ++ F) (At ⟨b, 0, none⟩ (cellS s a m c)) := Ent.lab h (says_cel 0)
-- CALL sleuth/attribute.IsName isName_any _ (by assumption)
set_option maxHeartbeats 400000 in
set_option maxRecDepth 100000 in
theorem check_any {σ : World} {F : List Res} {b : Nat} {s : St} {a0 : Option Addr} {m0 c0 : Nat} {a : Option Addr} {c : Nat} {l : List Bs} (hd : Ent σ F (At ⟨b, 0, none⟩ (cellS s a0 m0 c0))) (h : Sl σ F encT 1 (.slice a l.length c) l) (hl : ∀ x ∈ l, x.length ≤ maxLen) :
    FnT Try.prog σ F 48 [.pointer (some ⟨b, 0, none⟩), .slice a l.length c] [] (fun u ρ => u = .int .i64 (readyE s l) ∧ ρ = []) := by
  refine fn_of 22 Try.func48 rfl Try.ntmps48 rfl ?_
  have hle := h.i64
  refine w_seq ?_
  refine w_region ?_
  refine wl_det rfl rfl rfl (op_assign rfl) ?_
  refine wl_nil ?_
  refine st_tn ?_
  refine w_seq ?_
  refine w_seq ?_
  refine w_region ?_
  refine wl_det rfl rfl rfl (op_move rfl) ?_
  refine wl_det rfl rfl rfl (op_nilCheck rfl) ?_
  refine wl_det rfl rfl rfl (op_fieldAddr (off := 3) rfl tF36_3f) ?_
  refine wl_det rfl rfl rfl (op_load1 rfl tO4f (Ent.app (Ent.fld hd 3) _)) ?_
  refine wl_nil ?_
  refine st_tn ?_
  refine w_cond rfl (fun hc9 => ?_) (fun hc9 => ?_)
  · -- c9.t
    refine w_seq ?_
    refine w_region ?_
    refine wl_det rfl rfl rfl (op_assign rfl) ?_
    refine wl_nil ?_
    refine st_tn ?_
    refine w_ret ?_
    refine st_tr ?_
    refine st_ret (vs := [_]) [] Try.results48 ⟨rfl, trivial⟩ rfl ?_
    refine ⟨_, rfl, ?_⟩
    refine ⟨?_, rfl⟩; unfold readyE; simp [retv, hc9]
  · -- c9.f
    refine w_skip ?_
    refine st_tn ?_
    refine w_seq ?_
    refine w_seq ?_
    refine w_region ?_
    refine wl_det rfl rfl rfl (op_assign rfl) ?_
    refine wl_nil ?_
    refine st_tn ?_
    refine w_block ?_
    refine w_loopQ (X := Nat) (fun z => z ≤ l.length ∧ ∀ x ∈ l.take z, nameB x = true) (fun z => [(5, .int .i64 (z))]) (fun _ => []) (fun z => l.length - z) (0) [(1, _)] [] [] rfl (rfl) (.cons rfl (.nil _)) (.cons rfl (.nil _)) (by
        try dsimp only
        exact ⟨Nat.zero_le _, by simp⟩) ?_
    rintro i ⟨hi, hn⟩
    refine w_norm2 (by dsimp only [List.cons_append, List.nil_append]) (by dsimp only [List.cons_append, List.nil_append]) ?_
    try dsimp only at hi hn ⊢
    refine w_seq ?_
    refine w_seq ?_
    refine w_region ?_
    refine wl_det rfl rfl rfl (op_move rfl) ?_
    refine wl_det rfl rfl rfl (op_move rfl) ?_
    refine wl_det rfl rfl rfl (op_lenT rfl tS48f (Sl.ent (by first | exact Sl.app (by assumption) _ | exact Sl.app (Sl.app (by assumption) _) _))) ?_
    refine wl_det rfl rfl rfl (op_lss rfl rfl) ?_
    refine wl_nil ?_
    refine st_tn ?_
    refine w_cond_d rfl (fun hc13 => ?_) (fun hc13 => ?_)
    · -- c13.t
      obtain ⟨x, hx⟩ := getE (l := l) (i := i) (by omega)
      have hxl := hl x (List.mem_of_getElem? hx)
      refine w_skip ?_
      refine st_tn ?_
      refine w_seq ?_
      refine w_block ?_
      refine w_seq ?_
      refine w_region ?_
      refine wl_det rfl rfl rfl (op_move rfl) ?_
      refine wl_det rfl rfl rfl (op_move rfl) ?_
      refine wl_det rfl rfl rfl (op_idx rfl rfl tS48f (Sl.ent (by first | exact Sl.app (by assumption) _ | exact Sl.app (Sl.app (by assumption) _) _)) (by omega)) ?_
      refine wl_det rfl rfl rfl (op_ldx rfl tO9f (by first | exact Sl.app (by assumption) _ | exact Sl.app (Sl.app (by assumption) _) _) (by assumption) (by rfl)) ?_
      refine wl_det rfl rfl rfl (op_fn Try.func47 rfl rfl rfl (isName_any _ (by assumption))) ?_
      refine wl_det rfl rfl rfl (op_not rfl) ?_
      refine wl_nil ?_
      refine st_tn ?_
      refine w_cond rfl (fun hc21 => ?_) (fun hc21 => ?_)
      · -- c21.t
        refine w_seq ?_
        refine w_region ?_
        refine wl_det rfl rfl rfl (op_assign rfl) ?_
        refine wl_nil ?_
        refine st_tn ?_
        refine w_ret ?_
        refine st_br ?_
        refine st_tr ?_
        refine st_tr ?_
        refine st_br ?_
        refine st_tr ?_
        refine st_ret (vs := [_]) [] Try.results48 ⟨rfl, trivial⟩ rfl ?_
        refine ⟨_, rfl, ?_⟩
        refine ⟨?_, rfl⟩
        have hdn : s.down = false := by simpa using hc9
        simp only [retv]; unfold readyE
        first | (have hnx : nameB x = false := by simpa using hc21
                 have : ¬ ∀ y ∈ l, nameB y = true := fun h => by rw [h x (List.mem_of_getElem? hx)] at hnx; simp at hnx
                 simp [hdn, this]; done) | (rw [take_all (by omega)] at hn; rw [if_neg (by simp [hdn]), if_pos (List.all_eq_true.2 hn)])
      · -- c21.f
        refine w_skip ?_
        refine st_bn ?_
        refine st_tn ?_
        refine w_region ?_
        refine wl_det rfl rfl rfl (op_move rfl) ?_
        refine wl_det rfl rfl rfl (op_add' rfl rfl (by omega)) ?_
        refine wl_det rfl rfl rfl (op_assign rfl) ?_
        refine wl_nil ?_
        refine st_roundQ (x := i) (i + 1) [] rfl (rfl) (.cons rfl (.nil _)) (.cons rfl (.nil _)) (by
            try dsimp only
            refine ⟨by omega, by rw [take_snoc hx]; intro q hq; rcases List.mem_append.1 hq with hq | hq; (· exact hn q hq); (· simp only [List.mem_singleton] at hq; subst hq; simpa using hc21)⟩) (by
            try dsimp only
            omega) 
    · -- c13.f
      refine w_exit ?_
      refine st_te ?_
      refine st_te ?_
      refine st_be ?_
      refine st_tn ?_
      refine w_seq ?_
      refine w_region ?_
      refine wl_det rfl rfl rfl (op_assign rfl) ?_
      refine wl_nil ?_
      refine st_tn ?_
      refine w_ret ?_
      refine st_ret (vs := [_]) [] Try.results48 ⟨rfl, trivial⟩ rfl ?_
      refine ⟨_, rfl, ?_⟩
      refine ⟨?_, rfl⟩
      have hdn : s.down = false := by simpa using hc9
      simp only [retv]; unfold readyE
      first | (have hnx : nameB x = false := by simpa using hc21
               have : ¬ ∀ y ∈ l, nameB y = true := fun h => by rw [h x (List.mem_of_getElem? hx)] at hnx; simp at hnx
               simp [hdn, this]; done) | (rw [take_all (by omega)] at hn; rw [if_neg (by simp [hdn]), if_pos (List.all_eq_true.2 hn)])

set_option maxHeartbeats 400000 in
set_option maxRecDepth 100000 in
theorem index_any {σ : World} {F : List Res} {b : Nat} {s : St} {a : Option Addr} {m c : Nat} (n : Bs) (hg : DskM.Good s) (hd : Ent σ F (At ⟨b, 0, none⟩ (cellS s a m c))) (h : Sl σ F encM 4 (.slice a m c) s.fs) :
    FnT Try.prog σ F 49 [.pointer (some ⟨b, 0, none⟩), .string (str n)] [] (fun u ρ => u = .tuple #[.int .i64 (idxS s.fs n), .bool (find s.fs n).isSome] ∧ ρ = []) := by
  refine fn_of 48 Try.func49 rfl Try.ntmps49 rfl ?_
  have hle := h.i64
  refine w_seq ?_
  refine w_region ?_
  refine wl_det rfl rfl rfl (op_assign rfl) ?_
  refine wl_det rfl rfl rfl (op_assign rfl) ?_
  refine wl_nil ?_
  refine st_tn ?_
  refine w_seq ?_
  refine w_region ?_
  refine wl_det rfl rfl rfl (op_assign rfl) ?_
  refine wl_nil ?_
  refine st_tn ?_
  refine w_seq ?_
  refine w_block ?_
  refine w_loopQ (X := Nat) (fun z => z ≤ s.fs.length ∧ ∀ p ∈ s.fs.take z, p.1 < n) (fun z => [(6, .int .i64 (z))]) (fun _ => []) (fun z => s.fs.length - z) (0) [(0, _), (1, _)] [] [] rfl (rfl) (.cons rfl (.nil _)) (.cons rfl (.cons rfl (.nil _))) (by
      try dsimp only
      exact ⟨Nat.zero_le _, by simp⟩) ?_
  rintro i ⟨hi, hn⟩
  refine w_norm2 (by dsimp only [List.cons_append, List.nil_append]) (by dsimp only [List.cons_append, List.nil_append]) ?_
  try dsimp only at hi hn ⊢
  refine w_seq ?_
  refine w_seq ?_
  refine w_region ?_
  refine wl_det rfl rfl rfl (op_move rfl) ?_
  refine wl_det rfl rfl rfl (op_move rfl) ?_
  refine wl_det rfl rfl rfl (op_nilCheck rfl) ?_
  refine wl_det rfl rfl rfl (op_fieldAddr (off := 1) rfl tF36_1f) ?_
  refine wl_det rfl rfl rfl (op_load1 rfl tO34f (Ent.app (Ent.fld hd 1) _)) ?_
  refine wl_det rfl rfl rfl (op_lenT rfl tS34f (Sl.ent (by first | exact Sl.app (by assumption) _ | exact Sl.app (Sl.app (by assumption) _) _))) ?_
  refine wl_det rfl rfl rfl (op_lss rfl rfl) ?_
  refine wl_det rfl rfl rfl (op_move rfl) ?_
  refine wl_gsplit (t := 14) rfl (fun hg14 => ?_) (fun hg14 => ?_)
  · -- 14 is True
    obtain ⟨p, hx⟩ := getE (l := s.fs) (i := i) (by omega)
    refine wl_wanted_det rfl rfl rfl rfl rfl rfl rfl (op_move rfl) ?_
    refine wl_wanted_det rfl rfl rfl rfl rfl rfl rfl (op_nilCheck rfl) ?_
    refine wl_wanted_det rfl rfl rfl rfl rfl rfl rfl (op_fieldAddr (off := 1) rfl tF36_1f) ?_
    refine wl_wanted_det rfl rfl rfl rfl rfl rfl rfl (op_load1 rfl tO34f (Ent.app (Ent.fld hd 1) _)) ?_
    refine wl_wanted_det rfl rfl rfl rfl rfl rfl rfl (op_move rfl) ?_
    refine wl_wanted_det rfl rfl rfl rfl rfl rfl rfl (op_idx rfl rfl tS34f (Sl.ent (by first | exact Sl.app (by assumption) _ | exact Sl.app (Sl.app (by assumption) _) _)) (by omega)) ?_
    refine wl_wanted_det rfl rfl rfl rfl rfl rfl rfl (op_fieldAddr (off := 0) rfl tF51_0f) ?_
    refine wl_wanted_det rfl rfl rfl rfl rfl rfl rfl (op_ldxf rfl tO9f (by first | exact Sl.app (by assumption) _ | exact Sl.app (Sl.app (by assumption) _) _) (by assumption) (by rfl)) ?_
    refine wl_wanted_det rfl rfl rfl rfl rfl rfl rfl (op_move rfl) ?_
    refine wl_wanted_det rfl rfl rfl rfl rfl rfl rfl (op_ltBs rfl rfl) ?_
    refine wl_det rfl rfl rfl (op_pick_t rfl rfl) ?_
    refine wl_nil ?_
    refine st_tn ?_
    refine w_cond_d rfl (fun hc25 => ?_) (fun hc25 => ?_)
    · -- c25.t
      refine w_skip ?_
      refine st_tn ?_
      refine w_block ?_
      refine w_region ?_
      refine wl_det rfl rfl rfl (op_move rfl) ?_
      refine wl_det rfl rfl rfl (op_add' rfl rfl (by omega)) ?_
      refine wl_det rfl rfl rfl (op_assign rfl) ?_
      refine wl_nil ?_
      refine st_bn ?_
      refine st_roundQ (x := i) (i + 1) [] rfl (rfl) (.cons rfl (.nil _)) (.cons rfl (.cons rfl (.nil _))) (by
          try dsimp only
          refine ⟨by omega, by rw [take_snoc hx]; intro q hq; rcases List.mem_append.1 hq with hq | hq; (· exact hn q hq); (· simp only [List.mem_singleton] at hq; subst hq; exact hc25)⟩) (by
          try dsimp only
          omega) 
    · -- c25.f
      refine w_exit ?_
      refine st_te ?_
      refine st_te ?_
      refine st_be ?_
      refine st_tn ?_
      refine w_seq ?_
      refine w_drawW (fun β => [⟨28, [], [], [], noW (_), false, [], []⟩, ⟨29, [], [], [], noW (_), false, [], []⟩, ⟨30, [], [], [], noW (_), false, [], []⟩, ⟨31, [2], [], [], noW (_), false, [], []⟩, ⟨32, [3], [], [], noW (_), false, [], []⟩, ⟨33, [4], [], [], noW (_), false, [], []⟩, ⟨34, [5], [], [], noW (_), false, [], []⟩, ⟨35, [1, 6], [], [], noW (_), false, [], []⟩, ⟨36, [7], [], [], noW (_), false, [], []⟩, ⟨37, [], [], [], noW (_), false, [], []⟩, ⟨38, [9], [], [], noW (_), false, [], []⟩, ⟨39, [10], [], [], noW (_), false, [], []⟩, ⟨40, [11], [], [], noW (_), false, [], []⟩, ⟨41, [], [], [], noW (_), false, [], []⟩, ⟨42, [12, 13], [], [], noW (_), false, [], []⟩, ⟨43, [14], [], [], noW (_), false, [], []⟩, ⟨44, [15], [], [], noW (_), false, [], []⟩, ⟨45, [], [], [], noW (_), false, [], []⟩, ⟨46, [16, 17], [], [], noW (_), false, [], []⟩, ⟨47, [8, 18], [], [], noW (_), false, [], []⟩, ⟨4, [0], [], [], noW (_), false, [], []⟩]) [] [6, 0, 1] [⟨28, [], [], false, [], []⟩, ⟨29, [], [], false, [], []⟩, ⟨30, [], [], false, [], []⟩, ⟨31, [2], [], false, [], []⟩, ⟨32, [3], [], false, [], []⟩, ⟨33, [4], [], false, [], []⟩, ⟨34, [5], [], false, [], []⟩, ⟨35, [1, 6], [], false, [], []⟩, ⟨36, [7], [], false, [], []⟩, ⟨37, [], [], false, [], []⟩, ⟨38, [9], [], false, [], []⟩, ⟨39, [10], [], false, [], []⟩, ⟨40, [11], [], false, [], []⟩, ⟨41, [], [], false, [], []⟩, ⟨42, [12, 13], [], false, [], []⟩, ⟨43, [14], [], false, [], []⟩, ⟨44, [15], [], false, [], []⟩, ⟨45, [], [], false, [], []⟩, ⟨46, [16, 17], [], false, [], []⟩, ⟨47, [8, 18], [], false, [], []⟩, ⟨4, [0], [], false, [], []⟩] [[], [], [], [], [], [], [], [], [], [], [], [], [], [], [], [], [], [], [], [], []] [[], [], [], [], [], [], [], [], [], [], [], [], [], [], [], [], [], [], [], [], []] tMixf (fun _ => by rfl) (fun _ => by rfl) (by kernel_rfl) (by kernel_rfl) (by rfl) (by rfl)
          (fun β => ⟨.p rfl (by intro X; exact op_move rfl),
          ⟨.p rfl (by intro X; exact op_move rfl),
          ⟨.p rfl (by intro X; exact op_move rfl),
          ⟨.p rfl (by intro X; rintro _ _ ⟨rfl, rfl⟩; exact op_nilCheck rfl),
          ⟨.p rfl (by intro X; rintro _ _ ⟨rfl, rfl⟩; exact op_fieldAddr (off := 1) rfl tF36_1f),
          ⟨.p rfl (by intro X; rintro _ _ ⟨rfl, rfl⟩; exact op_load1 rfl tO34f (Ent.app (Ent.app (Ent.fld hd 1) X) _)),
          ⟨.p rfl (by intro X; rintro _ _ ⟨rfl, rfl⟩; exact op_lenT rfl tS34f (Sl.ent (by first | exact Sl.app (by assumption) _ | exact Sl.app (Sl.app (by assumption) _) _))),
          ⟨.p rfl (by intro X; rintro _ _ ⟨rfl, rfl⟩ _ _ ⟨rfl, rfl⟩; exact op_lss rfl rfl),
          ⟨.p rfl (by intro X; rintro _ _ ⟨rfl, rfl⟩; exact op_move rfl),
          ⟨.w rfl rfl rfl (by rintro _ _ ⟨rfl, rfl⟩; first | rfl | (exact congrArg Value.bool (decide_eq_true (by omega))) | (exact congrArg Value.bool (decide_eq_false (by omega))) | (simp; done) | (simp; omega) | (simp [*]; done)) (by intro X; exact op_move rfl),
          ⟨.w rfl rfl rfl (by rintro _ _ ⟨rfl, rfl⟩; first | rfl | (exact congrArg Value.bool (decide_eq_true (by omega))) | (exact congrArg Value.bool (decide_eq_false (by omega))) | (simp; done) | (simp; omega) | (simp [*]; done)) (by intro X; rintro _ _ ⟨rfl, rfl⟩; exact op_nilCheck rfl),
          ⟨.w rfl rfl rfl (by rintro _ _ ⟨rfl, rfl⟩; first | rfl | (exact congrArg Value.bool (decide_eq_true (by omega))) | (exact congrArg Value.bool (decide_eq_false (by omega))) | (simp; done) | (simp; omega) | (simp [*]; done)) (by intro X; rintro _ _ ⟨rfl, rfl⟩; exact op_fieldAddr (off := 1) rfl tF36_1f),
          ⟨.w rfl rfl rfl (by rintro _ _ ⟨rfl, rfl⟩; first | rfl | (exact congrArg Value.bool (decide_eq_true (by omega))) | (exact congrArg Value.bool (decide_eq_false (by omega))) | (simp; done) | (simp; omega) | (simp [*]; done)) (by intro X; rintro _ _ ⟨rfl, rfl⟩; exact op_load1 rfl tO34f (Ent.app (Ent.app (Ent.fld hd 1) X) _)),
          ⟨.w rfl rfl rfl (by rintro _ _ ⟨rfl, rfl⟩; first | rfl | (exact congrArg Value.bool (decide_eq_true (by omega))) | (exact congrArg Value.bool (decide_eq_false (by omega))) | (simp; done) | (simp; omega) | (simp [*]; done)) (by intro X; exact op_move rfl),
          ⟨.w rfl rfl rfl (by rintro _ _ ⟨rfl, rfl⟩; first | rfl | (exact congrArg Value.bool (decide_eq_true (by omega))) | (exact congrArg Value.bool (decide_eq_false (by omega))) | (simp; done) | (simp; omega) | (simp [*]; done)) (by intro X; rintro _ _ ⟨rfl, rfl⟩ _ _ ⟨rfl, rfl⟩; exact op_idx rfl rfl tS34f (Sl.ent (by first | exact Sl.app (by assumption) _ | exact Sl.app (Sl.app (by assumption) _) _)) (by omega)),
          ⟨.w rfl rfl rfl (by rintro _ _ ⟨rfl, rfl⟩; first | rfl | (exact congrArg Value.bool (decide_eq_true (by omega))) | (exact congrArg Value.bool (decide_eq_false (by omega))) | (simp; done) | (simp; omega) | (simp [*]; done)) (by intro X; rintro _ _ ⟨rfl, rfl⟩; exact op_fieldAddr (off := 0) rfl tF51_0f),
          ⟨.w rfl rfl rfl (by rintro _ _ ⟨rfl, rfl⟩; first | rfl | (exact congrArg Value.bool (decide_eq_true (by omega))) | (exact congrArg Value.bool (decide_eq_false (by omega))) | (simp; done) | (simp; omega) | (simp [*]; done)) (by intro X; rintro _ _ ⟨rfl, rfl⟩; exact op_ldxf rfl tO9f (by first | exact Sl.app (by assumption) _ | exact Sl.app (Sl.app (by assumption) _) _) (by assumption) (by rfl)),
          ⟨.w rfl rfl rfl (by rintro _ _ ⟨rfl, rfl⟩; first | rfl | (exact congrArg Value.bool (decide_eq_true (by omega))) | (exact congrArg Value.bool (decide_eq_false (by omega))) | (simp; done) | (simp; omega) | (simp [*]; done)) (by intro X; exact op_move rfl),
          ⟨.w rfl rfl rfl (by rintro _ _ ⟨rfl, rfl⟩; first | rfl | (exact congrArg Value.bool (decide_eq_true (by omega))) | (exact congrArg Value.bool (decide_eq_false (by omega))) | (simp; done) | (simp; omega) | (simp [*]; done)) (by intro X; rintro _ _ ⟨rfl, rfl⟩ _ _ ⟨rfl, rfl⟩; exact op_eqBs rfl rfl),
          ⟨.p rfl (by intro X; rintro _ _ ⟨rfl, rfl⟩ _ _ ⟨rfl, rfl⟩; exact op_pick rfl rfl rfl),
          ⟨.p rfl (by intro X; rintro _ _ ⟨rfl, rfl⟩; exact op_assign rfl),
          trivial⟩⟩⟩⟩⟩⟩⟩⟩⟩⟩⟩⟩⟩⟩⟩⟩⟩⟩⟩⟩⟩)
          (fun β β' => ⟨fun _ => by rfl, ⟨fun _ => by rfl, ⟨fun _ => by rfl, ⟨fun _ => by rfl, ⟨fun _ => by rfl, ⟨fun _ => by rfl, ⟨fun _ => by rfl, ⟨fun _ => by rfl, ⟨fun _ => by rfl, ⟨fun _ => by rfl, ⟨fun _ => by rfl, ⟨fun _ => by rfl, ⟨fun _ => by rfl, ⟨fun _ => by rfl, ⟨fun _ => by rfl, ⟨fun _ => by rfl, ⟨fun _ => by rfl, ⟨fun _ => by rfl, ⟨fun _ => by rfl, ⟨fun _ => by rfl, ⟨fun _ => by rfl, trivial⟩⟩⟩⟩⟩⟩⟩⟩⟩⟩⟩⟩⟩⟩⟩⟩⟩⟩⟩⟩⟩) ?_
      intro β
      rintro _ _ ⟨rfl, rfl⟩ _ _ ⟨rfl, rfl⟩ _ _ ⟨rfl, rfl⟩ _ _ ⟨rfl, rfl⟩ _ _ ⟨rfl, rfl⟩ _ _ ⟨rfl, rfl⟩ _ _ ⟨rfl, rfl⟩ _ _ ⟨rfl, rfl⟩ _ _ ⟨rfl, rfl⟩ _ _ ⟨rfl, rfl⟩ _ _ ⟨rfl, rfl⟩ _ _ ⟨rfl, rfl⟩ _ _ ⟨rfl, rfl⟩ _ _ ⟨rfl, rfl⟩ _ _ ⟨rfl, rfl⟩ _ _ ⟨rfl, rfl⟩ _ _ ⟨rfl, rfl⟩ _ _ ⟨rfl, rfl⟩ _ _ ⟨rfl, rfl⟩ _ _ ⟨rfl, rfl⟩ _ _ ⟨rfl, rfl⟩
      refine wl_norm (e' := [(4, _), (47, _)]) (.cons rfl (.cons rfl (.nil _))) (by dsimp only [cond_false, cond_true, List.nil_append, List.cons_append]) ?_
      refine wl_det rfl rfl rfl (op_assign rfl) ?_
      refine wl_nil ?_
      refine st_tn ?_
      refine w_ret ?_
      refine st_ret (vs := [_, _]) [] Try.results49 ⟨rfl, ⟨rfl, trivial⟩⟩ rfl ?_
      refine ⟨_, rfl, ?_⟩
      first
        | (have hk : idxS s.fs n = i := idx_of hn hi (fun q hq => by rw [hx] at hq; simp at hq; subst hq; exact hc25)
           have hil : i < s.fs.length := ltE hx
           refine ⟨?_, rfl⟩
           rw [find_idx hg.inc, hk, hx]
           by_cases he : p.1 = n <;> simp [retv, he, hil]; done)
        | (have hnn : s.fs[i]? = none := List.getElem?_eq_none (by omega)
           have hk : idxS s.fs n = i := idx_of hn hi (fun q hq => by rw [hnn] at hq; simp at hq)
           refine ⟨?_, rfl⟩
           rw [find_idx hg.inc, hk, hnn]
           have hnil : ¬ i < s.fs.length := by omega
           simp [retv, hnil]; done)
  · -- 14 is False
    refine wl_unwanted rfl rfl rfl rfl rfl rfl rfl rfl ?_
    refine wl_unwanted rfl rfl rfl rfl rfl rfl rfl rfl ?_
    refine wl_unwanted rfl rfl rfl rfl rfl rfl rfl rfl ?_
    refine wl_unwanted rfl rfl rfl rfl rfl rfl rfl rfl ?_
    refine wl_unwanted rfl rfl rfl rfl rfl rfl rfl rfl ?_
    refine wl_unwanted rfl rfl rfl rfl rfl rfl rfl rfl ?_
    refine wl_unwanted rfl rfl rfl rfl rfl rfl rfl rfl ?_
    refine wl_unwanted rfl rfl rfl rfl rfl rfl rfl rfl ?_
    refine wl_unwanted rfl rfl rfl rfl rfl rfl rfl rfl ?_
    refine wl_unwanted rfl rfl rfl rfl rfl rfl rfl rfl ?_
    refine wl_det rfl rfl rfl (op_pick_f rfl rfl) ?_
    refine wl_nil ?_
    refine st_tn ?_
    refine w_cond_f (rfl) ?_
    refine w_exit ?_
    refine st_te ?_
    refine st_te ?_
    refine st_be ?_
    refine st_tn ?_
    refine w_seq ?_
    refine w_drawW (fun β => [⟨28, [], [], [], noW (_), false, [], []⟩, ⟨29, [], [], [], noW (_), false, [], []⟩, ⟨30, [], [], [], noW (_), false, [], []⟩, ⟨31, [2], [], [], noW (_), false, [], []⟩, ⟨32, [3], [], [], noW (_), false, [], []⟩, ⟨33, [4], [], [], noW (_), false, [], []⟩, ⟨34, [5], [], [], noW (_), false, [], []⟩, ⟨35, [1, 6], [], [], noW (_), false, [], []⟩, ⟨36, [7], [], [], noW (_), false, [], []⟩, ⟨37, [], [], [], noW (Det undef), false, [], []⟩, ⟨38, [], [], [], noW (Det undef), false, [], []⟩, ⟨39, [], [], [], noW (Det undef), false, [], []⟩, ⟨40, [], [], [], noW (Det undef), false, [], []⟩, ⟨41, [], [], [], noW (Det undef), false, [], []⟩, ⟨42, [], [], [], noW (Det undef), false, [], []⟩, ⟨43, [], [], [], noW (Det undef), false, [], []⟩, ⟨44, [], [], [], noW (Det undef), false, [], []⟩, ⟨45, [], [], [], noW (Det undef), false, [], []⟩, ⟨46, [], [], [], noW (Det undef), false, [], []⟩, ⟨47, [8, 18], [], [], noW (_), false, [], []⟩, ⟨4, [0], [], [], noW (_), false, [], []⟩]) [] [6, 0, 1] [⟨28, [], [], false, [], []⟩, ⟨29, [], [], false, [], []⟩, ⟨30, [], [], false, [], []⟩, ⟨31, [2], [], false, [], []⟩, ⟨32, [3], [], false, [], []⟩, ⟨33, [4], [], false, [], []⟩, ⟨34, [5], [], false, [], []⟩, ⟨35, [1, 6], [], false, [], []⟩, ⟨36, [7], [], false, [], []⟩, ⟨37, [], [], false, [], []⟩, ⟨38, [], [], false, [], []⟩, ⟨39, [], [], false, [], []⟩, ⟨40, [], [], false, [], []⟩, ⟨41, [], [], false, [], []⟩, ⟨42, [], [], false, [], []⟩, ⟨43, [], [], false, [], []⟩, ⟨44, [], [], false, [], []⟩, ⟨45, [], [], false, [], []⟩, ⟨46, [], [], false, [], []⟩, ⟨47, [8, 18], [], false, [], []⟩, ⟨4, [0], [], false, [], []⟩] [[], [], [], [], [], [], [], [], [], [], [], [], [], [], [], [], [], [], [], [], []] [[], [], [], [], [], [], [], [], [], [], [], [], [], [], [], [], [], [], [], [], []] tMixf (fun _ => by rfl) (fun _ => by rfl) (by kernel_rfl) (by kernel_rfl) (by rfl) (by rfl)
        (fun β => ⟨.p rfl (by intro X; exact op_move rfl),
        ⟨.p rfl (by intro X; exact op_move rfl),
        ⟨.p rfl (by intro X; exact op_move rfl),
        ⟨.p rfl (by intro X; rintro _ _ ⟨rfl, rfl⟩; exact op_nilCheck rfl),
        ⟨.p rfl (by intro X; rintro _ _ ⟨rfl, rfl⟩; exact op_fieldAddr (off := 1) rfl tF36_1f),
        ⟨.p rfl (by intro X; rintro _ _ ⟨rfl, rfl⟩; exact op_load1 rfl tO34f (Ent.app (Ent.app (Ent.fld hd 1) X) _)),
        ⟨.p rfl (by intro X; rintro _ _ ⟨rfl, rfl⟩; exact op_lenT rfl tS34f (Sl.ent (by first | exact Sl.app (by assumption) _ | exact Sl.app (Sl.app (by assumption) _) _))),
        ⟨.p rfl (by intro X; rintro _ _ ⟨rfl, rfl⟩ _ _ ⟨rfl, rfl⟩; exact op_lss rfl rfl),
        ⟨.p rfl (by intro X; rintro _ _ ⟨rfl, rfl⟩; exact op_move rfl),
        ⟨.u rfl rfl rfl (by rintro _ _ ⟨rfl, rfl⟩; exact congrArg (offB true) (by first | rfl | (exact congrArg Value.bool (decide_eq_true (by omega))) | (exact congrArg Value.bool (decide_eq_false (by omega))) | (simp; done) | (simp; omega) | (simp [*]; done) : _ = Value.bool false)) ⟨rfl, rfl⟩ rfl rfl,
        ⟨.u rfl rfl rfl (by rintro _ _ ⟨rfl, rfl⟩; exact congrArg (offB true) (by first | rfl | (exact congrArg Value.bool (decide_eq_true (by omega))) | (exact congrArg Value.bool (decide_eq_false (by omega))) | (simp; done) | (simp; omega) | (simp [*]; done) : _ = Value.bool false)) ⟨rfl, rfl⟩ rfl rfl,
        ⟨.u rfl rfl rfl (by rintro _ _ ⟨rfl, rfl⟩; exact congrArg (offB true) (by first | rfl | (exact congrArg Value.bool (decide_eq_true (by omega))) | (exact congrArg Value.bool (decide_eq_false (by omega))) | (simp; done) | (simp; omega) | (simp [*]; done) : _ = Value.bool false)) ⟨rfl, rfl⟩ rfl rfl,
        ⟨.u rfl rfl rfl (by rintro _ _ ⟨rfl, rfl⟩; exact congrArg (offB true) (by first | rfl | (exact congrArg Value.bool (decide_eq_true (by omega))) | (exact congrArg Value.bool (decide_eq_false (by omega))) | (simp; done) | (simp; omega) | (simp [*]; done) : _ = Value.bool false)) ⟨rfl, rfl⟩ rfl rfl,
        ⟨.u rfl rfl rfl (by rintro _ _ ⟨rfl, rfl⟩; exact congrArg (offB true) (by first | rfl | (exact congrArg Value.bool (decide_eq_true (by omega))) | (exact congrArg Value.bool (decide_eq_false (by omega))) | (simp; done) | (simp; omega) | (simp [*]; done) : _ = Value.bool false)) ⟨rfl, rfl⟩ rfl rfl,
        ⟨.u rfl rfl rfl (by rintro _ _ ⟨rfl, rfl⟩; exact congrArg (offB true) (by first | rfl | (exact congrArg Value.bool (decide_eq_true (by omega))) | (exact congrArg Value.bool (decide_eq_false (by omega))) | (simp; done) | (simp; omega) | (simp [*]; done) : _ = Value.bool false)) ⟨rfl, rfl⟩ rfl rfl,
        ⟨.u rfl rfl rfl (by rintro _ _ ⟨rfl, rfl⟩; exact congrArg (offB true) (by first | rfl | (exact congrArg Value.bool (decide_eq_true (by omega))) | (exact congrArg Value.bool (decide_eq_false (by omega))) | (simp; done) | (simp; omega) | (simp [*]; done) : _ = Value.bool false)) ⟨rfl, rfl⟩ rfl rfl,
        ⟨.u rfl rfl rfl (by rintro _ _ ⟨rfl, rfl⟩; exact congrArg (offB true) (by first | rfl | (exact congrArg Value.bool (decide_eq_true (by omega))) | (exact congrArg Value.bool (decide_eq_false (by omega))) | (simp; done) | (simp; omega) | (simp [*]; done) : _ = Value.bool false)) ⟨rfl, rfl⟩ rfl rfl,
        ⟨.u rfl rfl rfl (by rintro _ _ ⟨rfl, rfl⟩; exact congrArg (offB true) (by first | rfl | (exact congrArg Value.bool (decide_eq_true (by omega))) | (exact congrArg Value.bool (decide_eq_false (by omega))) | (simp; done) | (simp; omega) | (simp [*]; done) : _ = Value.bool false)) ⟨rfl, rfl⟩ rfl rfl,
        ⟨.u rfl rfl rfl (by rintro _ _ ⟨rfl, rfl⟩; exact congrArg (offB true) (by first | rfl | (exact congrArg Value.bool (decide_eq_true (by omega))) | (exact congrArg Value.bool (decide_eq_false (by omega))) | (simp; done) | (simp; omega) | (simp [*]; done) : _ = Value.bool false)) ⟨rfl, rfl⟩ rfl rfl,
        ⟨.p rfl (by intro X; rintro _ _ ⟨rfl, rfl⟩ _ _ ⟨rfl, rfl⟩; exact op_pick rfl rfl rfl),
        ⟨.p rfl (by intro X; rintro _ _ ⟨rfl, rfl⟩; exact op_assign rfl),
        trivial⟩⟩⟩⟩⟩⟩⟩⟩⟩⟩⟩⟩⟩⟩⟩⟩⟩⟩⟩⟩⟩)
        (fun β β' => ⟨fun _ => by rfl, ⟨fun _ => by rfl, ⟨fun _ => by rfl, ⟨fun _ => by rfl, ⟨fun _ => by rfl, ⟨fun _ => by rfl, ⟨fun _ => by rfl, ⟨fun _ => by rfl, ⟨fun _ => by rfl, ⟨fun _ => by rfl, ⟨fun _ => by rfl, ⟨fun _ => by rfl, ⟨fun _ => by rfl, ⟨fun _ => by rfl, ⟨fun _ => by rfl, ⟨fun _ => by rfl, ⟨fun _ => by rfl, ⟨fun _ => by rfl, ⟨fun _ => by rfl, ⟨fun _ => by rfl, ⟨fun _ => by rfl, trivial⟩⟩⟩⟩⟩⟩⟩⟩⟩⟩⟩⟩⟩⟩⟩⟩⟩⟩⟩⟩⟩) ?_
    intro β
    rintro _ _ ⟨rfl, rfl⟩ _ _ ⟨rfl, rfl⟩ _ _ ⟨rfl, rfl⟩ _ _ ⟨rfl, rfl⟩ _ _ ⟨rfl, rfl⟩ _ _ ⟨rfl, rfl⟩ _ _ ⟨rfl, rfl⟩ _ _ ⟨rfl, rfl⟩ _ _ ⟨rfl, rfl⟩ _ _ ⟨rfl, rfl⟩ _ _ ⟨rfl, rfl⟩ _ _ ⟨rfl, rfl⟩ _ _ ⟨rfl, rfl⟩ _ _ ⟨rfl, rfl⟩ _ _ ⟨rfl, rfl⟩ _ _ ⟨rfl, rfl⟩ _ _ ⟨rfl, rfl⟩ _ _ ⟨rfl, rfl⟩ _ _ ⟨rfl, rfl⟩ _ _ ⟨rfl, rfl⟩ _ _ ⟨rfl, rfl⟩
    refine wl_norm (e' := [(4, _), (47, _)]) (.cons rfl (.cons rfl (.nil _))) (by dsimp only [cond_false, cond_true, List.nil_append, List.cons_append]) ?_
    refine wl_det rfl rfl rfl (op_assign rfl) ?_
    refine wl_nil ?_
    refine st_tn ?_
    refine w_ret ?_
    refine st_ret (vs := [_, _]) [] Try.results49 ⟨rfl, ⟨rfl, trivial⟩⟩ rfl ?_
    refine ⟨_, rfl, ?_⟩
    first
      | (have hk : idxS s.fs n = i := idx_of hn hi (fun q hq => by rw [hx] at hq; simp at hq; subst hq; exact hc25)
         have hil : i < s.fs.length := ltE hx
         refine ⟨?_, rfl⟩
         rw [find_idx hg.inc, hk, hx]
         by_cases he : p.1 = n <;> simp [retv, he, hil]; done)
      | (have hnn : s.fs[i]? = none := List.getElem?_eq_none (by omega)
         have hk : idxS s.fs n = i := idx_of hn hi (fun q hq => by rw [hnn] at hq; simp at hq)
         refine ⟨?_, rfl⟩
         rw [find_idx hg.inc, hk, hnn]
         have hnil : ¬ i < s.fs.length := by omega
         simp [retv, hnil]; done)

set_option maxHeartbeats 400000 in
set_option maxRecDepth 100000 in
theorem step_any {σ : World} {F : List Res} {b : Nat} {a : Option Addr} {m c : Nat} (s : St) (hg : DskM.Good s) :
    FnT Try.prog σ F 51 [.pointer (some ⟨b, 0, none⟩)] [(603, cel b (cellS s a m c) 36)] (fun u ρ => u = .bool (!(oper s).1) ∧ ρ = [(603, cel b (cellS (oper s).2 a m c) 36)]) := by
  refine fn_of 23 Try.func51 rfl Try.ntmps51 rfl ?_
  have hlo := hg.lo
  have hhi := hg.hi
  refine w_seq ?_
  refine w_region ?_
  refine wl_det rfl rfl rfl (op_assign rfl) ?_
  refine wl_nil ?_
  refine st_tn ?_
  refine w_seq ?_
  refine w_seq ?_
  refine w_region ?_
  refine wl_det rfl rfl rfl (op_move rfl) ?_
  refine wl_det rfl rfl rfl (op_nilCheck rfl) ?_
  refine wl_det rfl rfl rfl (op_fieldAddr (off := 2) rfl tF36_2f) ?_
  refine wl_det rfl rfl rfl (op_load1 rfl tO4f (Ent.lab (l := 603) rfl (says_cel 2))) ?_
  refine wl_det rfl rfl rfl (op_not rfl) ?_
  refine wl_nil ?_
  refine st_tn ?_
  refine w_cond rfl (fun hc7 => ?_) (fun hc7 => ?_)
  · -- c7.t
    refine w_seq ?_
    refine w_region ?_
    refine wl_det rfl rfl rfl (op_assign rfl) ?_
    refine wl_nil ?_
    refine st_tn ?_
    refine w_ret ?_
    refine st_tr ?_
    refine st_ret (vs := [_]) [603] Try.results51 ⟨rfl, trivial⟩ rfl ?_
    refine ⟨[(603, _)], rfl, ?_⟩
    have : s.lim = false := by simpa using hc7
    have h : oper s = (true, s) := by simp [oper, this]
    rw [h]; exact ⟨rfl, rfl⟩
  · -- c7.f
    refine w_skip ?_
    refine st_tn ?_
    refine w_seq ?_
    refine w_seq ?_
    refine w_region ?_
    refine wl_det rfl rfl rfl (op_move rfl) ?_
    refine wl_det rfl rfl rfl (op_nilCheck rfl) ?_
    refine wl_det rfl rfl rfl (op_fieldAddr (off := 4) rfl tF36_4f) ?_
    refine wl_det rfl rfl rfl (op_load1 rfl tO3f (Ent.lab (l := 603) rfl (says_cel 4))) ?_
    refine wl_det rfl rfl rfl (op_leq rfl rfl) ?_
    refine wl_nil ?_
    refine st_tn ?_
    refine w_cond_d rfl (fun hc12 => ?_) (fun hc12 => ?_)
    · -- c12.t
      refine w_seq ?_
      refine w_region ?_
      refine wl_det rfl rfl rfl (op_move rfl) ?_
      refine wl_det rfl rfl rfl (op_nilCheck rfl) ?_
      refine wl_det rfl rfl rfl (op_fieldAddr (off := 3) rfl tF36_3f) ?_
      refine wl_op0 [603] rfl rfl rfl (op_store rfl rfl tZ4f (by rfl) (by rfl) (by exact Nat.le_of_ble_eq_true rfl)) ?_
      rintro _ _ ⟨rfl, rfl⟩
      refine wl_nil ?_
      refine st_tn ?_
      refine w_seq ?_
      refine w_region ?_
      refine wl_det rfl rfl rfl (op_assign rfl) ?_
      refine wl_nil ?_
      refine st_tn ?_
      refine w_ret ?_
      refine st_tr ?_
      refine st_ret (vs := [_]) [603] Try.results51 ⟨rfl, trivial⟩ rfl ?_
      refine ⟨[(603, _)], rfl, ?_⟩
      have : s.lim = true := by simpa using hc7
      have h : oper s = (false, { s with down := true }) := by simp [oper, this, hc12]
      rw [h]; exact ⟨rfl, rfl⟩
    · -- c12.f
      refine w_skip ?_
      refine st_tn ?_
      refine w_seq ?_
      refine w_region ?_
      refine wl_det rfl rfl rfl (op_move rfl) ?_
      refine wl_det rfl rfl rfl (op_nilCheck rfl) ?_
      refine wl_det rfl rfl rfl (op_fieldAddr (off := 4) rfl tF36_4f) ?_
      refine wl_det rfl rfl rfl (op_load1 rfl tO3f (Ent.lab (l := 603) rfl (says_cel 4))) ?_
      refine wl_det rfl rfl rfl (op_sub' rfl rfl (by omega)) ?_
      refine wl_det rfl rfl rfl (op_nilCheck rfl) ?_
      refine wl_det rfl rfl rfl (op_fieldAddr (off := 4) rfl tF36_4f) ?_
      refine wl_op0 [603] rfl rfl rfl (op_store rfl rfl tZ3f (by rfl) (by rfl) (by exact Nat.le_of_ble_eq_true rfl)) ?_
      rintro _ _ ⟨rfl, rfl⟩
      refine wl_nil ?_
      refine st_tn ?_
      refine w_seq ?_
      refine w_region ?_
      refine wl_det rfl rfl rfl (op_assign rfl) ?_
      refine wl_nil ?_
      refine st_tn ?_
      refine w_ret ?_
      refine st_ret (vs := [_]) [603] Try.results51 ⟨rfl, trivial⟩ rfl ?_
      refine ⟨[(603, _)], rfl, ?_⟩
      have : s.lim = true := by simpa using hc7
      have h : oper s = (true, { s with left := s.left - 1 }) := by simp [oper, this, hc12]
      rw [h]; exact ⟨rfl, rfl⟩

theorem used_take {fs : Files} {i : Nat} {p : Bs × Fl} (h : fs[i]? = some p) : used (fs.take (i + 1)) = used (fs.take i) + p.2.data.length := by
  rw [take_snoc h]; simp [used]
theorem used_take_le (fs : Files) (i : Nat) : used (fs.take i) ≤ used fs := by
  have : used fs = used (fs.take i) + used (fs.drop i) := by
    conv => lhs; rw [← List.take_append_drop i fs]
    unfold used; rw [List.map_append, List.sum_append]
  omega
set_option maxHeartbeats 400000 in
set_option maxRecDepth 100000 in
theorem sused_any {σ : World} {F : List Res} {b : Nat} {s : St} {a : Option Addr} {m c : Nat} (hg : DskM.Good s) (hd : Ent σ F (At ⟨b, 0, none⟩ (cellS s a m c))) (h : Sl σ F encM 4 (.slice a m c) s.fs) :
    FnT Try.prog σ F 38 [.pointer (some ⟨b, 0, none⟩)] [] (fun u ρ => u = .int .i64 (used s.fs) ∧ ρ = []) := by
  refine fn_of 26 Try.func38 rfl Try.ntmps38 rfl ?_
  have hle := h.i64
  have huse := hg.use
  have hcap := hg.cap
  refine w_seq ?_
  refine w_region ?_
  refine wl_det rfl rfl rfl (op_assign rfl) ?_
  refine wl_nil ?_
  refine st_tn ?_
  refine w_seq ?_
  refine w_region ?_
  refine wl_det rfl rfl rfl (op_assign rfl) ?_
  refine wl_nil ?_
  refine st_tn ?_
  refine w_seq ?_
  refine w_seq ?_
  refine w_region ?_
  refine wl_det rfl rfl rfl (op_assign rfl) ?_
  refine wl_nil ?_
  refine st_tn ?_
  refine w_block ?_
  refine w_loopQ (X := Nat × Nat) (fun z => z.2 ≤ s.fs.length ∧ z.1 = used (s.fs.take z.2)) (fun z => [(3, .int .i64 (z.1)), (4, .int .i64 (z.2))]) (fun _ => []) (fun z => s.fs.length - z.2) ((0, 0)) [(0, _)] [] [] rfl (rfl) (.cons rfl (.cons rfl (.nil _))) (.cons rfl (.nil _)) (by
      try dsimp only
      exact ⟨Nat.zero_le _, by simp [used]⟩) ?_
  rintro ⟨n, i⟩ ⟨hi, hn⟩
  refine w_norm2 (by dsimp only [List.cons_append, List.nil_append]) (by dsimp only [List.cons_append, List.nil_append]) ?_
  try dsimp only at hi hn ⊢
  refine w_seq ?_
  refine w_seq ?_
  refine w_region ?_
  refine wl_det rfl rfl rfl (op_move rfl) ?_
  refine wl_det rfl rfl rfl (op_move rfl) ?_
  refine wl_det rfl rfl rfl (op_nilCheck rfl) ?_
  refine wl_det rfl rfl rfl (op_fieldAddr (off := 1) rfl tF36_1f) ?_
  refine wl_det rfl rfl rfl (op_load1 rfl tO34f (Ent.app (Ent.fld hd 1) _)) ?_
  refine wl_det rfl rfl rfl (op_lenT rfl tS34f (Sl.ent (by first | exact Sl.app (by assumption) _ | exact Sl.app (Sl.app (by assumption) _) _))) ?_
  refine wl_det rfl rfl rfl (op_lss rfl rfl) ?_
  refine wl_nil ?_
  refine st_tn ?_
  refine w_cond_d rfl (fun hc11 => ?_) (fun hc11 => ?_)
  · -- c11.t
    obtain ⟨p, hx⟩ := getE (l := s.fs) (i := i) (by omega)
    have hu1 := used_take hx
    have hu2 := used_take_le s.fs (i + 1)
    refine w_skip ?_
    refine st_tn ?_
    refine w_seq ?_
    refine w_block ?_
    refine w_region ?_
    refine wl_det rfl rfl rfl (op_move rfl) ?_
    refine wl_det rfl rfl rfl (op_move rfl) ?_
    refine wl_det rfl rfl rfl (op_nilCheck rfl) ?_
    refine wl_det rfl rfl rfl (op_fieldAddr (off := 1) rfl tF36_1f) ?_
    refine wl_det rfl rfl rfl (op_load1 rfl tO34f (Ent.app (Ent.fld hd 1) _)) ?_
    refine wl_det rfl rfl rfl (op_move rfl) ?_
    refine wl_det rfl rfl rfl (op_idx rfl rfl tS34f (Sl.ent (by first | exact Sl.app (by assumption) _ | exact Sl.app (Sl.app (by assumption) _) _)) (by omega)) ?_
    refine wl_det rfl rfl rfl (op_fieldAddr (off := 1) rfl tF51_1f) ?_
    refine wl_det rfl rfl rfl (op_ldxf rfl tO9f (by first | exact Sl.app (by assumption) _ | exact Sl.app (Sl.app (by assumption) _) _) (by assumption) (by rfl)) ?_
    refine wl_det rfl rfl rfl (op_lenBs rfl Try.underlying9) ?_
    refine wl_det rfl rfl rfl (op_add' rfl rfl (by omega)) ?_
    refine wl_det rfl rfl rfl (op_assign rfl) ?_
    refine wl_nil ?_
    refine st_bn ?_
    refine st_tn ?_
    refine w_region ?_
    refine wl_det rfl rfl rfl (op_move rfl) ?_
    refine wl_det rfl rfl rfl (op_add' rfl rfl (by omega)) ?_
    refine wl_det rfl rfl rfl (op_assign rfl) ?_
    refine wl_nil ?_
    refine st_roundQ (x := (n, i)) ((n + p.2.data.length, i + 1)) [] rfl (rfl) (.cons rfl (.cons rfl (.nil _))) (.cons rfl (.nil _)) (by
        try dsimp only
        exact ⟨by omega, by rw [used_take hx]; omega⟩) (by
        try dsimp only
        omega) 
  · -- c11.f
    refine w_exit ?_
    refine st_te ?_
    refine st_te ?_
    refine st_be ?_
    refine st_tn ?_
    refine w_seq ?_
    refine w_region ?_
    refine wl_det rfl rfl rfl (op_move rfl) ?_
    refine wl_det rfl rfl rfl (op_assign rfl) ?_
    refine wl_nil ?_
    refine st_tn ?_
    refine w_ret ?_
    refine st_ret (vs := [_]) [] Try.results38 ⟨rfl, trivial⟩ rfl ?_
    refine ⟨_, rfl, ?_⟩
    rw [take_all (by omega)] at hn; rw [hn]; exact ⟨rfl, rfl⟩

set_option maxHeartbeats 400000 in
set_option maxRecDepth 100000 in
theorem sread_any {σ : World} {F : List Res} {b : Nat} {s : St} {a : Option Addr} {m c : Nat} (n : Bs) (d : Bool) (hg : DskM.Good s) (hn : n.length ≤ maxLen) (hd : Ent σ F (At ⟨b, 0, none⟩ (cellS s a m c))) (h : Sl σ F encM 4 (.slice a m c) s.fs) :
    FnT Try.prog σ F 42 [.pointer (some ⟨b, 0, none⟩), .string (str n), .bool d] [] (fun u ρ => u = .tuple #[.string (str (readO s n d).1), .int .i64 (readO s n d).2] ∧ ρ = []) := by
  refine fn_of 52 Try.func42 rfl Try.ntmps42 rfl ?_
  have hle := h.i64
  refine w_seq ?_
  refine w_region ?_
  refine wl_det rfl rfl rfl (op_assign rfl) ?_
  refine wl_det rfl rfl rfl (op_assign rfl) ?_
  refine wl_nil ?_
  refine st_tn ?_
  refine w_seq ?_
  refine w_seq ?_
  refine w_region ?_
  refine wl_det rfl rfl rfl (op_move rfl) ?_
  refine wl_det rfl rfl rfl (op_move rfl) ?_
  refine wl_op [] rfl rfl rfl rfl (op_buildSlice (enc := encT) (l := [_]) (lab := 13) tL48_1f rfl rfl (fun _ => rfl) rfl) ?_
  rintro _ _ ⟨a13, c13, rfl, rfl⟩
  refine wl_det rfl rfl rfl (op_fn Try.func48 rfl rfl rfl (check_any (l := [n]) (Ent.app hd _) (Sl.lab 13 rfl (by simp [maxLen])) (by simpa using hn))) ?_
  refine wl_det rfl rfl rfl (op_assign rfl) ?_
  refine wl_nil ?_
  refine st_tn ?_
  refine w_seq ?_
  refine w_region ?_
  refine wl_det rfl rfl rfl (op_move rfl) ?_
  refine wl_det rfl rfl rfl (op_neq rfl rfl) ?_
  refine wl_nil ?_
  refine st_tn ?_
  refine w_cond_d rfl (fun hc16 => ?_) (fun hc16 => ?_)
  · -- c16.t
    refine w_seq ?_
    refine w_region ?_
    refine wl_det rfl rfl rfl (op_move rfl) ?_
    refine wl_det rfl rfl rfl (op_assign rfl) ?_
    refine wl_det rfl rfl rfl (op_assign rfl) ?_
    refine wl_nil ?_
    refine st_tn ?_
    refine w_ret ?_
    refine st_tr ?_
    refine st_ret (vs := [_, _]) [] Try.results42 ⟨rfl, ⟨rfl, trivial⟩⟩ rfl ?_
    refine ⟨_, rfl, ?_⟩
    have h : readO s n d = ([], readyE s [n]) := by unfold readO; rw [if_pos hc16]
    rw [h]; exact ⟨rfl, rfl⟩
  · -- c16.f
    refine w_skip ?_
    refine st_tn ?_
    refine w_seq ?_
    refine w_region ?_
    refine wl_det rfl rfl rfl (op_move rfl) ?_
    refine wl_det rfl rfl rfl (op_move rfl) ?_
    refine wl_det rfl rfl rfl (op_fn Try.func49 rfl rfl rfl (index_any n hg (Ent.app hd _) (Sl.app h _))) ?_
    refine wl_det rfl rfl rfl (op_move rfl) ?_
    refine wl_det rfl rfl rfl (op_extract rfl rfl) ?_
    refine wl_det rfl rfl rfl (op_extract rfl rfl) ?_
    refine wl_det rfl rfl rfl (op_assign rfl) ?_
    refine wl_det rfl rfl rfl (op_assign rfl) ?_
    refine wl_nil ?_
    refine st_tn ?_
    refine w_seq ?_
    refine w_seq ?_
    refine w_region ?_
    refine wl_det rfl rfl rfl (op_move rfl) ?_
    refine wl_det rfl rfl rfl (op_not rfl) ?_
    refine wl_nil ?_
    refine st_tn ?_
    refine w_cond rfl (fun hc25 => ?_) (fun hc25 => ?_)
    · -- c25.t
      have hff : find s.fs n = none := by simpa using hc25
      refine w_seq ?_
      refine w_region ?_
      refine wl_det rfl rfl rfl (op_assign rfl) ?_
      refine wl_det rfl rfl rfl (op_assign rfl) ?_
      refine wl_nil ?_
      refine st_tn ?_
      refine w_ret ?_
      refine st_tr ?_
      refine st_ret (vs := [_, _]) [] Try.results42 ⟨rfl, ⟨rfl, trivial⟩⟩ rfl ?_
      refine ⟨_, rfl, ?_⟩
      have h : readO s n d = ([], 10) := by unfold readO; rw [if_neg hc16, hff]
      rw [h]; exact ⟨rfl, rfl⟩
    · -- c25.f
      obtain ⟨f, hff⟩ := Option.isSome_iff_exists.1 (by simpa using hc25 : (find s.fs n).isSome = true)
      have hx := at_idx hg.inc hff
      have hxl := ltE hx
      have hsy : f.syn ≤ f.data.length := hg.syn _ (find_mem hff)
      refine w_skip ?_
      refine st_tn ?_
      refine w_seq ?_
      refine w_seq ?_
      refine w_region ?_
      refine wl_det rfl rfl rfl (op_move rfl) ?_
      refine wl_nil ?_
      refine st_tn ?_
      refine w_cond rfl (fun hc26 => ?_) (fun hc26 => ?_)
      · -- c26.t
        refine w_seq ?_
        refine w_drawW (fun β => [⟨27, [], [], [], noW (_), false, [], []⟩, ⟨28, [0], [], [], noW (_), false, [], []⟩, ⟨29, [1], [], [], noW (_), false, [], []⟩, ⟨30, [2], [], [], noW (_), false, [], []⟩, ⟨31, [], [], [], noW (_), false, [], []⟩, ⟨32, [3, 4], [], [], noW (_), false, [], []⟩, ⟨33, [5], [], [], noW (_), false, [], []⟩, ⟨34, [6], [], [], noW (_), false, [], []⟩, ⟨35, [], [], [], noW (_), false, [], []⟩, ⟨36, [8], [], [], noW (_), false, [], []⟩, ⟨37, [9], [], [], noW (_), false, [], []⟩, ⟨38, [10], [], [], noW (_), false, [], []⟩, ⟨39, [], [], [], noW (_), false, [], []⟩, ⟨40, [11, 12], [], [], noW (_), false, [], []⟩, ⟨41, [13], [], [], noW (_), false, [], []⟩, ⟨42, [14], [], [], noW (_), false, [], []⟩]) [] [0, 9] [⟨27, [], [], false, [], []⟩, ⟨28, [0], [], false, [], []⟩, ⟨29, [1], [], false, [], []⟩, ⟨30, [2], [], false, [], []⟩, ⟨31, [], [], false, [], []⟩, ⟨32, [3, 4], [], false, [], []⟩, ⟨33, [5], [], false, [], []⟩, ⟨34, [6], [], false, [], []⟩, ⟨35, [], [], false, [], []⟩, ⟨36, [8], [], false, [], []⟩, ⟨37, [9], [], false, [], []⟩, ⟨38, [10], [], false, [], []⟩, ⟨39, [], [], false, [], []⟩, ⟨40, [11, 12], [], false, [], []⟩, ⟨41, [13], [], false, [], []⟩, ⟨42, [14], [], false, [], []⟩] [[], [], [], [], [], [], [], [], [], [], [], [], [], [], [], []] [[], [], [], [], [], [], [], [], [], [], [], [], [], [], [], []] tMixf (fun _ => by rfl) (fun _ => by rfl) (by kernel_rfl) (by kernel_rfl) (by rfl) (by rfl)
            (fun β => ⟨.p rfl (by intro X; exact op_move rfl),
            ⟨.p rfl (by intro X; rintro _ _ ⟨rfl, rfl⟩; exact op_nilCheck rfl),
            ⟨.p rfl (by intro X; rintro _ _ ⟨rfl, rfl⟩; exact op_fieldAddr (off := 1) rfl tF36_1f),
            ⟨.p rfl (by intro X; rintro _ _ ⟨rfl, rfl⟩; exact op_load1 rfl tO34f (Ent.app (Ent.app (Ent.fld hd 1) X) _)),
            ⟨.p rfl (by intro X; exact op_move rfl),
            ⟨.p rfl (by intro X; rintro _ _ ⟨rfl, rfl⟩ _ _ ⟨rfl, rfl⟩; exact op_idx rfl rfl tS34f (Sl.ent (by first | exact Sl.app (by assumption) _ | exact Sl.app (Sl.app (by assumption) _) _)) (by omega)),
            ⟨.p rfl (by intro X; rintro _ _ ⟨rfl, rfl⟩; exact op_fieldAddr (off := 1) rfl tF51_1f),
            ⟨.p rfl (by intro X; rintro _ _ ⟨rfl, rfl⟩; exact op_ldxf rfl tO9f (by first | exact Sl.app (by assumption) _ | exact Sl.app (Sl.app (by assumption) _) _) (by assumption) (by rfl)),
            ⟨.p rfl (by intro X; exact op_move rfl),
            ⟨.p rfl (by intro X; rintro _ _ ⟨rfl, rfl⟩; exact op_nilCheck rfl),
            ⟨.p rfl (by intro X; rintro _ _ ⟨rfl, rfl⟩; exact op_fieldAddr (off := 1) rfl tF36_1f),
            ⟨.p rfl (by intro X; rintro _ _ ⟨rfl, rfl⟩; exact op_load1 rfl tO34f (Ent.app (Ent.app (Ent.fld hd 1) X) _)),
            ⟨.p rfl (by intro X; exact op_move rfl),
            ⟨.p rfl (by intro X; rintro _ _ ⟨rfl, rfl⟩ _ _ ⟨rfl, rfl⟩; exact op_idx rfl rfl tS34f (Sl.ent (by first | exact Sl.app (by assumption) _ | exact Sl.app (Sl.app (by assumption) _) _)) (by omega)),
            ⟨.p rfl (by intro X; rintro _ _ ⟨rfl, rfl⟩; exact op_fieldAddr (off := 2) rfl tF51_2f),
            ⟨.p rfl (by intro X; rintro _ _ ⟨rfl, rfl⟩; exact op_ldxf rfl tO3f (by first | exact Sl.app (by assumption) _ | exact Sl.app (Sl.app (by assumption) _) _) (by assumption) (by rfl)),
            trivial⟩⟩⟩⟩⟩⟩⟩⟩⟩⟩⟩⟩⟩⟩⟩⟩)
            (fun β β' => ⟨fun _ => by rfl, ⟨fun _ => by rfl, ⟨fun _ => by rfl, ⟨fun _ => by rfl, ⟨fun _ => by rfl, ⟨fun _ => by rfl, ⟨fun _ => by rfl, ⟨fun _ => by rfl, ⟨fun _ => by rfl, ⟨fun _ => by rfl, ⟨fun _ => by rfl, ⟨fun _ => by rfl, ⟨fun _ => by rfl, ⟨fun _ => by rfl, ⟨fun _ => by rfl, ⟨fun _ => by rfl, trivial⟩⟩⟩⟩⟩⟩⟩⟩⟩⟩⟩⟩⟩⟩⟩⟩) ?_
        intro β
        rintro _ _ ⟨rfl, rfl⟩ _ _ ⟨rfl, rfl⟩ _ _ ⟨rfl, rfl⟩ _ _ ⟨rfl, rfl⟩ _ _ ⟨rfl, rfl⟩ _ _ ⟨rfl, rfl⟩ _ _ ⟨rfl, rfl⟩ _ _ ⟨rfl, rfl⟩ _ _ ⟨rfl, rfl⟩ _ _ ⟨rfl, rfl⟩ _ _ ⟨rfl, rfl⟩ _ _ ⟨rfl, rfl⟩ _ _ ⟨rfl, rfl⟩ _ _ ⟨rfl, rfl⟩ _ _ ⟨rfl, rfl⟩ _ _ ⟨rfl, rfl⟩
        refine wl_norm (e' := [(34, _), (42, _)]) (.cons rfl (.cons rfl (.nil _))) (by dsimp only [cond_false, cond_true, List.nil_append, List.cons_append]) ?_
        refine wl_det rfl rfl rfl (op_sliceRBs rfl rfl Try.underlying9 (by omega)) ?_
        refine wl_det rfl rfl rfl (op_assign rfl) ?_
        refine wl_det rfl rfl rfl (op_assign rfl) ?_
        refine wl_nil ?_
        refine st_tn ?_
        refine w_ret ?_
        refine st_tr ?_
        refine st_ret (vs := [_, _]) [] Try.results42 ⟨rfl, ⟨rfl, trivial⟩⟩ rfl ?_
        refine ⟨_, rfl, ?_⟩
        have h : readO s n d = (f.data.take f.syn, 0) := by unfold readO; rw [if_neg hc16, hff]; simp [hc26]
        rw [h]; exact ⟨rfl, rfl⟩
      · -- c26.f
        refine w_skip ?_
        refine st_tn ?_
        refine w_seq ?_
        refine w_region ?_
        refine wl_det rfl rfl rfl (op_move rfl) ?_
        refine wl_det rfl rfl rfl (op_nilCheck rfl) ?_
        refine wl_det rfl rfl rfl (op_fieldAddr (off := 1) rfl tF36_1f) ?_
        refine wl_det rfl rfl rfl (op_load1 rfl tO34f (Ent.app (Ent.fld hd 1) _)) ?_
        refine wl_det rfl rfl rfl (op_move rfl) ?_
        refine wl_det rfl rfl rfl (op_idx rfl rfl tS34f (Sl.ent (by first | exact Sl.app (by assumption) _ | exact Sl.app (Sl.app (by assumption) _) _)) (by omega)) ?_
        refine wl_det rfl rfl rfl (op_fieldAddr (off := 1) rfl tF51_1f) ?_
        refine wl_det rfl rfl rfl (op_ldxf rfl tO9f (by first | exact Sl.app (by assumption) _ | exact Sl.app (Sl.app (by assumption) _) _) (by assumption) (by rfl)) ?_
        refine wl_det rfl rfl rfl (op_assign rfl) ?_
        refine wl_det rfl rfl rfl (op_assign rfl) ?_
        refine wl_nil ?_
        refine st_tn ?_
        refine w_ret ?_
        refine st_ret (vs := [_, _]) [] Try.results42 ⟨rfl, ⟨rfl, trivial⟩⟩ rfl ?_
        refine ⟨_, rfl, ?_⟩
        have h : readO s n d = (f.data, 0) := by unfold readO; rw [if_neg hc16, hff]; simp [hc26]
        rw [h]; exact ⟨rfl, rfl⟩

end Go.Proofs.Ytjlbeakdgadpmaa
