/- Stories (layer 13): the times of a tree. Stories (layer 13): the span of a call. Stories (layer 13): the spans of a trace. Stories (layer 13): the traces of a story. A map of owned slices (layer 43's durations); the closures of series.Of. series.Of (layer 43). series.Of (layer 43): the walk. Conditions: none. -/
import Derived.Test.YtecmigildpkigaaGreatSlZ
import Derived.Test.YtecmigildpkigaaGreatTCa
namespace Go.Proofs.YtecmigildpkigaaGreat.Ser
open Go Go.SL Go.RowKit
set_option linter.unusedVariables false
set_option linter.unusedSimpArgs false
theorem tA129sb : aggB Tryz.prog 129 11 = true := by kernel_rfl
theorem tF129_0sb : fieldB Tryz.prog 129 0 0 = true := by kernel_rfl
theorem tF129_10sb : fieldB Tryz.prog 129 10 10 = true := by kernel_rfl
theorem tF129_6sb : fieldB Tryz.prog 129 6 6 = true := by kernel_rfl
theorem tF129_7sb : fieldB Tryz.prog 129 7 7 = true := by kernel_rfl
theorem tF56_1sb : fieldB Tryz.prog 56 1 1 = true := by kernel_rfl
theorem tF56_2sb : fieldB Tryz.prog 56 2 2 = true := by kernel_rfl
theorem tL36_1sb : zerosB Tryz.prog 36 3 1 1 = some [Value.int .i64 0] := by kernel_rfl
theorem tMixsb : Tryz.prog.follows .mixedOrders = true := by kernel_rfl
theorem tN129sb : (Tryz.prog.info? 129).bind (·.zero) = some (Value.agg #[Value.int .u8 0, Value.int .u8 0, Value.int .u8 0, Value.int .u8 0, Value.int .u8 0, Value.int .u8 0, Value.int .u8 0, Value.int .u8 0, Value.int .u8 0, Value.int .u8 0, Value.bool false]) := by kernel_rfl
theorem tO3sb : oneB Tryz.prog 3 = true := by kernel_rfl
theorem tO4sb : oneB Tryz.prog 4 = true := by kernel_rfl
theorem tO5sb : oneB Tryz.prog 5 = true := by kernel_rfl
theorem tO54sb : oneB Tryz.prog 54 = true := by kernel_rfl
theorem tP36sb : appB Tryz.prog 36 3 1 8 = true := by kernel_rfl
theorem tS36sb : sliceB Tryz.prog 36 3 1 = true := by kernel_rfl
theorem tS54sb : sliceB Tryz.prog 54 129 11 = true := by kernel_rfl
theorem tZ129sb : (Tryz.prog.info? 129).map (·.size) = some 11 := by kernel_rfl
def parN (c : CallV) (i : Nat) : Nat := (c.par % (i + 1)).toNat
def fromV (st : Int) (S : List Int) (i : Nat) (c : CallV) : Int := (if parN c i < i then S.getD (parN c i) 0 else 1000 + st % 32) + (if 0 < i then c.wait % 32 else 0)
def startN (st : Int) (cs : List CallV) : Nat → List Int
  | 0 => []
  | i + 1 => match cs[i]? with
    | some c => startN st cs i ++ [fromV st (startN st cs i) i c]
    | none => startN st cs i
def endN (st : Int) (cs : List CallV) : Nat → List Int
  | 0 => []
  | i + 1 => match cs[i]? with
    | some c => endN st cs i ++ [fromV st (startN st cs i) i c + c.long % 32]
    | none => endN st cs i
theorem startN_succ {st : Int} {cs : List CallV} {i : Nat} {c : CallV} (h : cs[i]? = some c) : startN st cs (i + 1) = startN st cs i ++ [fromV st (startN st cs i) i c] := by rw [startN, h]
theorem endN_succ {st : Int} {cs : List CallV} {i : Nat} {c : CallV} (h : cs[i]? = some c) : endN st cs (i + 1) = endN st cs i ++ [fromV st (startN st cs i) i c + c.long % 32] := by rw [endN, h]
theorem startN_len {st : Int} {cs : List CallV} : ∀ {i : Nat}, i ≤ cs.length → (startN st cs i).length = i
  | 0, _ => rfl
  | i + 1, h => by rw [startN_succ (List.getElem?_eq_getElem (by omega)), List.length_append, startN_len (by omega)]; rfl
theorem endN_len {st : Int} {cs : List CallV} : ∀ {i : Nat}, i ≤ cs.length → (endN st cs i).length = i
  | 0, _ => rfl
  | i + 1, h => by rw [endN_succ (List.getElem?_eq_getElem (by omega)), List.length_append, endN_len (by omega)]; rfl
theorem parN_le (c : CallV) (i : Nat) : parN c i ≤ i := by
  unfold parN
  have := Int.emod_lt_of_pos c.par (show (0 : Int) < (i : Int) + 1 by omega)
  omega
theorem startN_bd {st : Int} {cs : List CallV} : ∀ {i : Nat}, i ≤ cs.length → ∀ x ∈ startN st cs i, 1000 ≤ x ∧ x ≤ 1031 + 31 * i
  | 0, _, x, hx => by simp [startN] at hx
  | i + 1, h, x, hx => by
    have ih := startN_bd (st := st) (cs := cs) (i := i) (by omega)
    rw [startN_succ (List.getElem?_eq_getElem (by omega))] at hx
    rcases List.mem_append.1 hx with hx | hx
    · have := ih x hx; omega
    · rw [List.mem_singleton] at hx
      subst hx
      unfold fromV
      have h1 : 1000 ≤ (if parN cs[i] i < i then (startN st cs i).getD (parN cs[i] i) 0 else 1000 + st % 32) ∧ (if parN cs[i] i < i then (startN st cs i).getD (parN cs[i] i) 0 else 1000 + st % 32) ≤ 1031 + 31 * i := by
        split
        · rename_i hp
          have hl : parN cs[i] i < (startN st cs i).length := by rw [startN_len (by omega)]; exact hp
          rw [List.getD_eq_getElem?_getD, List.getElem?_eq_getElem hl]
          exact ih _ (List.getElem_mem hl)
        · omega
      have h2 : 0 ≤ (if 0 < i then cs[i].wait % 32 else 0) ∧ (if 0 < i then cs[i].wait % 32 else 0) ≤ 31 := by split <;> omega
      omega
theorem endN_ge {st : Int} {cs : List CallV} : ∀ {i : Nat}, i ≤ cs.length → ∀ (j : Nat) (x y : Int), (startN st cs i)[j]? = some x → (endN st cs i)[j]? = some y → x ≤ y ∧ y ≤ x + 31
  | 0, _, j, x, y, hx, _ => by simp [startN] at hx
  | i + 1, h, j, x, y, hx, hy => by
    have ih := endN_ge (st := st) (cs := cs) (i := i) (by omega) j x y
    have h1 := startN_len (st := st) (cs := cs) (i := i) (by omega)
    have h2 := endN_len (st := st) (cs := cs) (i := i) (by omega)
    rw [startN_succ (List.getElem?_eq_getElem (by omega))] at hx
    rw [endN_succ (List.getElem?_eq_getElem (by omega))] at hy
    rcases Nat.lt_or_ge j i with hj | hj
    · rw [List.getElem?_append_left (by omega)] at hx hy
      exact ih hx hy
    · rw [List.getElem?_append_right (by omega), h1] at hx
      rw [List.getElem?_append_right (by omega), h2] at hy
      have hj0 : j - i = 0 := by
        rcases Nat.eq_zero_or_pos (j - i) with h0 | h0
        · exact h0
        · rw [List.getElem?_eq_none (by simp; omega)] at hx; simp at hx
      rw [hj0] at hx hy
      simp at hx hy
      omega
def fixE (cs : List CallV) (E : List Int) (i : Nat) : List Int := match cs[i]? with
  | some c => match cs[parN c i]? with
    | some d => if parN c i < i ∧ kindV c = 3 ∧ kindV d = 2 ∧ ¬ d.fail = true then E.set (parN c i) (max (E.getD (parN c i) 0) (E.getD i 0)) else E
    | none => E
  | none => E
def fixN (cs : List CallV) (E : List Int) : Nat → List Int
  | 0 => E
  | j + 1 => fixE cs (fixN cs E j) (cs.length - 1 - j)
theorem fixE_len {cs : List CallV} {E : List Int} {i : Nat} : (fixE cs E i).length = E.length := by
  unfold fixE
  split
  · split
    · split
      · rw [List.length_set]
      · rfl
    · rfl
  · rfl
theorem fixN_len {cs : List CallV} {E : List Int} : ∀ j, (fixN cs E j).length = E.length
  | 0 => rfl
  | j + 1 => by rw [fixN, fixE_len, fixN_len j]
def EndB (S : List Int) (B : Int) (E : List Int) : Prop := E.length = S.length ∧ ∀ (j : Nat) (x y : Int), S[j]? = some x → E[j]? = some y → x ≤ y ∧ y ≤ B
theorem EndB.fix {S : List Int} {B : Int} {cs : List CallV} {E : List Int} {i : Nat} (h : EndB S B E) (hi : i < E.length) : EndB S B (fixE cs E i) := by
  refine ⟨fixE_len.trans h.1, fun j x y hx hy => ?_⟩
  unfold fixE at hy
  split at hy
  · rename_i c hc
    split at hy
    · rename_i d hd
      split at hy
      · rename_i hcnd
        by_cases hj : parN c i = j
        · subst hj
          rw [List.getElem?_set_self (by omega)] at hy
          simp only [Option.some.injEq] at hy
          have hEp : E[parN c i]? = some (E.getD (parN c i) 0) := by rw [List.getD_eq_getElem?_getD, List.getElem?_eq_getElem (by omega)]; rfl
          have hEi : E[i]? = some (E.getD i 0) := by rw [List.getD_eq_getElem?_getD, List.getElem?_eq_getElem (by omega)]; rfl
          have h1 := h.2 _ _ _ hx hEp
          have hSi : S[i]? = some S[i]! := by rw [List.getElem!_eq_getElem?_getD, List.getElem?_eq_getElem (by rw [← h.1]; exact hi)]; rfl
          have h2 := h.2 _ _ _ hSi hEi
          omega
        · rw [List.getElem?_set_ne hj] at hy
          exact h.2 j x y hx hy
      · exact h.2 j x y hx hy
    · exact h.2 j x y hx hy
  · exact h.2 j x y hx hy
def startL (t : TreeV) : List Int := startN t.start t.calls t.calls.length
def endL (t : TreeV) : List Int := fixN t.calls (endN t.start t.calls t.calls.length) (t.calls.length - 1)
theorem startL_len (t : TreeV) : (startL t).length = t.calls.length := startN_len (Nat.le_refl _)
theorem endL_len (t : TreeV) : (endL t).length = t.calls.length := by unfold endL; rw [fixN_len, endN_len (Nat.le_refl _)]
theorem fixN_B {S : List Int} {B : Int} {cs : List CallV} {E : List Int} (h : EndB S B E) (hl : E.length = cs.length) : ∀ j, j < cs.length → EndB S B (fixN cs E j)
  | 0, _ => h
  | j + 1, hj => (fixN_B h hl j (by omega)).fix (by rw [fixN_len, hl]; omega)
theorem endL_B (t : TreeV) : EndB (startL t) (1062 + 31 * t.calls.length) (endL t) := by
  have h0 : EndB (startL t) (1062 + 31 * t.calls.length) (endN t.start t.calls t.calls.length) := by
    refine ⟨by rw [endN_len (Nat.le_refl _), startL_len], fun j x y hx hy => ?_⟩
    have h1 := endN_ge (Nat.le_refl _) j x y hx hy
    have h2 := startN_bd (Nat.le_refl _) x (List.mem_of_getElem? hx)
    omega
  unfold endL
  rcases Nat.eq_zero_or_pos t.calls.length with hz | hz
  · rw [hz] at h0 ⊢; exact h0
  · exact fixN_B h0 (endN_len (Nat.le_refl _)) _ (by omega)
set_option maxHeartbeats 2000000 in
set_option maxRecDepth 100000 in
theorem times_any {σ : World} {F : List Res} {t : TreeV} (lab1 lab2 : Nat) (hT : Sl σ F encCall 11 (.slice t.a t.calls.length t.c) t.calls) (hc : ∀ c ∈ t.calls, CallOk c) (hs : B8 t.start) (hl : t.calls.length ≤ 8) :
    FnT Tryz.prog σ F 41 [.agg (encTree t).toArray] [] (fun u ρ => ∃ a1 c1 a2 c2, u = .tuple #[.slice a1 (startL t).length c1, .slice a2 (endL t).length c2] ∧ ρ = [(lab1, slW 3 SL.encZ 1 (.slice a1 (startL t).length c1) (startL t)), (lab2, slW 3 SL.encZ 1 (.slice a2 (endL t).length c2) (endL t))]) := by
  refine fn_of 123 Tryz.func41 rfl Tryz.ntmps41 rfl ?_
  refine w_seq (w_region (wl_op [] rfl rfl rfl rfl (op_box (T := 56) (l := 1) rfl) ?_))
  rintro _ _ ⟨b1, rfl, rfl⟩
  refine za rfl (za rfl (wl_nil (st_tn (w_seq (w_seq (w_region (za rfl (wl_nil (st_tn (w_block (w_emp 2 (slO_nil 3 1) ?_)))))))))))
  refine w_emp 3 (slO_nil 3 1) ?_
  refine w_loopQ (X := List Int × Option Addr × Nat × List Int × Option Addr × Nat × Nat) (fun z => z.2.2.2.2.2.2 ≤ t.calls.length ∧ z.1 = startN t.start t.calls z.2.2.2.2.2.2 ∧ z.2.2.2.1 = endN t.start t.calls z.2.2.2.2.2.2) (fun z => [(2, .slice (z.2.1) (z.1).length (z.2.2.1)), (3, .slice (z.2.2.2.2.1) (z.2.2.2.1).length (z.2.2.2.2.2.1)), (4, .int .i64 (z.2.2.2.2.2.2))]) (fun z => [(2, slW 3 SL.encZ 1 (.slice (z.2.1) (z.1).length (z.2.2.1)) (z.1)), (3, slW 3 SL.encZ 1 (.slice (z.2.2.2.2.1) (z.2.2.2.1).length (z.2.2.2.2.2.1)) (z.2.2.2.1))]) (fun z => t.calls.length - z.2.2.2.2.2.2) (([], none, 0, [], none, 0, 0)) [(1, _)] [(1, _)] [2, 3, 1] rfl (rfl) (.cons rfl (.cons rfl (.cons rfl (.nil _)))) (.cons rfl (.nil _)) (by
      try dsimp only
      exact ⟨Nat.zero_le _, rfl, rfl⟩) ?_
  rintro ⟨st, a_st, c_st, en, a_en, c_en, i⟩ ⟨hi, hst, hen⟩
  refine w_norm2 (by dsimp only [List.cons_append, List.nil_append]) (by dsimp only [List.cons_append, List.nil_append]) ?_
  try dsimp only at hi hst hen ⊢
  refine w_seq (w_seq (w_region (zm rfl (zd rfl (op_fieldAddr (off := 2) rfl tF56_2sb) (zd rfl (op_load1 rfl tO54sb (Ent.lab (l := 1) rfl (says_cel 2))) (zd rfl (op_lenT rfl tS54sb (Sl.ent (hT.app _))) (zd rfl (op_lss rfl rfl) (wl_nil (st_tn (w_cond_d rfl (fun hc14 => ?_) (fun hc14 => ?_)))))))))))
  · -- c14.t
    obtain ⟨c, hz⟩ := getE (l := t.calls) (i := i) (by omega)
    have hcc := hc c (List.mem_of_getElem? hz)
    have hb1 := hcc.par
    have hb2 := hcc.wait
    have hb3 := hcc.long
    have hsl : st.length = i := by rw [hst]; exact startN_len hi
    have hel : en.length = i := by rw [hen]; exact endN_len hi
    have hsb : ∀ x ∈ st, 1000 ≤ x ∧ x ≤ 1031 + 31 * (i : Int) := by rw [hst]; exact startN_bd hi
    have hpe : ((parN c i : Nat) : Int) = c.par % ((i : Int) + 1) := by unfold parN; have := Int.emod_nonneg c.par (show ((i : Int) + 1) ≠ 0 by omega); omega
    refine w_skip (st_tn (w_seq (w_block (w_seq (w_region (zd rfl (op_fieldAddr (off := 2) rfl tF56_2sb) (zd rfl (op_load1 rfl tO54sb (Ent.lab (l := 1) rfl (says_cel 2))) (zm rfl (zd rfl (op_idx rfl rfl tS54sb (Sl.ent (hT.app _)) (by omega)) ?_)))))))))
    refine zd rfl (op_ldxA rfl tA129sb (hT.app _) (by assumption) (by rfl) (by rfl)) ?_
    refine wl_op [] rfl rfl rfl rfl (op_alloc (l := 5) tN129sb) ?_
    rintro _ _ ⟨b5, rfl, rfl⟩
    refine wl_op0 [5] rfl rfl rfl (op_store rfl rfl tZ129sb (by rfl) (by rfl) (by exact Nat.le_of_ble_eq_true rfl)) ?_
    rintro _ _ ⟨rfl, rfl⟩
    refine wl_nil (st_tn (w_seq (w_region (zd rfl (op_fieldAddr (off := 1) rfl tF56_1sb) (zd rfl (op_load1 rfl tO5sb (Ent.lab (l := 1) rfl (says_cel 1))) (zd rfl (op_remN rfl rfl (by omega) (by omega)) ?_))))))
    refine zd rfl (op_convI64 rfl (by rw [Tryz.underlying5]; rfl) Tryz.underlying3 (by omega)) ?_
    refine zd rfl (op_add' rfl rfl (by omega)) ?_
    refine za rfl (wl_nil (st_tn (w_seq (w_seq (w_region (zd rfl (op_fieldAddr (off := 0) rfl tF129_0sb) (zd rfl (op_load1 rfl tO5sb (Ent.lab (l := 5) rfl (says_cel 0))) (zd rfl (op_convI64 rfl (by rw [Tryz.underlying5]; rfl) Tryz.underlying3 (by omega)) ?_))))))))
    refine zm rfl (zd rfl (op_add' rfl rfl (by omega)) ?_)
    refine zd rfl (op_val (v' := .int .i64 ((parN c i : Nat) : Int)) (by rw [hpe]) (op_remN rfl rfl (by omega) (by omega))) ?_
    refine za rfl (wl_nil (st_tn (w_seq (w_region (zm rfl (zm rfl (zd rfl (op_lss rfl rfl) (wl_nil (st_tn (w_cond_d rfl (fun hc35 => ?_) (fun hc35 => ?_)))))))))))
    · -- c35.t
      obtain ⟨x, hx⟩ := getE (l := st) (i := parN c i) (by omega)
      have hxb := hsb x (List.mem_of_getElem? hx)
      have hfr : (if parN c i < i then st.getD (parN c i) 0 else 1000 + t.start % 32) = x := by rw [if_pos (by omega), List.getD_eq_getElem?_getD, hx]; rfl
      refine w_region (zm rfl (zm rfl (zd rfl (op_idx rfl rfl tS36sb (Sl.ent (Sl.lab 2 rfl (by unfold maxLen; omega))) (by omega)) ?_)))
      refine zd rfl (op_ldx rfl tO3sb (Sl.lab 2 rfl (by unfold maxLen; omega)) (by assumption) (by rfl)) ?_
      refine za rfl (wl_nil (st_tn (w_seq (w_seq (w_region (zm rfl (zd rfl (op_gtr rfl rfl) (wl_nil (st_tn (w_cond_d rfl (fun hc41 => ?_) (fun hc41 => ?_)))))))))))
      · -- c41.t
        refine w_region (zm rfl (zd rfl (op_fieldAddr (off := 6) rfl tF129_6sb) (zd rfl (op_load1 rfl tO5sb (Ent.lab (l := 5) rfl (says_cel 6))) (zd rfl (op_remN rfl rfl (by omega) (by omega)) ?_))))
        refine zd rfl (op_convI64 rfl (by rw [Tryz.underlying5]; rfl) Tryz.underlying3 (by omega)) ?_
        refine zd rfl (op_add' rfl rfl (by omega)) ?_
        refine za rfl (wl_nil (st_tn ?_))
        refine w_drawW (fun β => [⟨48, [], [], [], noW (_), false, [], []⟩, ⟨49, [], [], [], noW (_), false, [], []⟩, ⟨50, [1], [], [], fun w => DetW _ _, false, [], []⟩, ⟨51, [0, 2], [], [(2, _)], fun w => DetW _ _, false, [], []⟩, ⟨52, [], [], [], noW (_), false, [], []⟩, ⟨53, [], [], [], noW (_), false, [], []⟩, ⟨54, [], [], [], noW (_), false, [], []⟩, ⟨55, [6], [], [], noW (_), false, [], []⟩, ⟨56, [7], [], [], noW (_), false, [], []⟩, ⟨57, [8], [], [], noW (_), false, [], []⟩, ⟨58, [5, 9], [], [], noW (_), false, [], []⟩, ⟨59, [10], [], [], fun w => DetW _ _, false, [], []⟩]) [2] [2, 6, 3, 5] [⟨48, [], [], false, [], []⟩, ⟨49, [], [], false, [], []⟩, ⟨50, [1], [], false, [], []⟩, ⟨51, [0, 2], [], false, [], []⟩, ⟨52, [], [], false, [], []⟩, ⟨53, [], [], false, [], []⟩, ⟨54, [], [], false, [], []⟩, ⟨55, [6], [], false, [], []⟩, ⟨56, [7], [], false, [], []⟩, ⟨57, [8], [], false, [], []⟩, ⟨58, [5, 9], [], false, [], []⟩, ⟨59, [10], [], false, [], []⟩] [[], [], [], [2], [], [], [], [], [], [], [], []] [[], [], [], [(2, _)], [], [], [], [], [], [], [], []] tMixsb (fun _ => by rfl) (fun _ => by rfl) (by kernel_rfl) (by kernel_rfl) (by rfl) (by rfl)
            (fun β => ⟨.p rfl (by intro X; exact op_move rfl),
            ⟨.p rfl (by intro X; exact op_move rfl),
            ⟨.px rfl (by intro X; rintro _ _ ⟨rfl, rfl⟩; refine OpT.mono (op_buildSlice (enc := SL.encZ) (l := [_]) (lab := 50) tL36_1sb rfl rfl (fun _ => rfl) rfl) ?_; rintro _ _ ⟨a50, c50, rfl, rfl⟩; obtain ⟨w, rfl, rfl⟩ : ∃ w : Wt, w.a = a50 ∧ w.c = c50 := ⟨{ a := a50, c := c50 }, rfl, rfl⟩; exact ⟨w, rfl, rfl⟩),
            ⟨.px rfl (by intro X; rintro _ _ ⟨rfl, rfl⟩ _ _ ⟨rfl, rfl⟩; refine OpT.mono (op_append (lab := 2) (lab' := 51) rfl rfl tP36sb SL.enc1Z (Sl.lab 50 rfl (by simp [maxLen])) (by first | omega | (simp; done) | (simp; omega) | (simp [*]; omega)) (by first | omega | (simp; done) | (simp; omega) | (simp [*]; omega))) ?_; rintro _ _ ⟨a51, c51, rfl, rfl⟩; obtain ⟨w, rfl, rfl⟩ : ∃ w : Wt, w.a = a51 ∧ w.c = c51 := ⟨{ a := a51, c := c51 }, rfl, rfl⟩; exact ⟨w, rfl, rfl⟩),
            ⟨.p rfl (by intro X; exact op_move rfl),
            ⟨.p rfl (by intro X; exact op_move rfl),
            ⟨.p rfl (by intro X; exact op_fieldAddr (off := 7) rfl tF129_7sb),
            ⟨.p rfl (by intro X; rintro _ _ ⟨rfl, rfl⟩; exact op_load1 rfl tO5sb (Ent.lab (l := 5) rfl (says_cel 7))),
            ⟨.p rfl (by intro X; rintro _ _ ⟨rfl, rfl⟩; exact op_remN rfl rfl (by omega) (by omega)),
            ⟨.p rfl (by intro X; rintro _ _ ⟨rfl, rfl⟩; exact op_convI64 rfl (by rw [Tryz.underlying5]; rfl) Tryz.underlying3 (by omega)),
            ⟨.p rfl (by intro X; rintro _ _ ⟨rfl, rfl⟩ _ _ ⟨rfl, rfl⟩; exact op_add' rfl rfl (by omega)),
            ⟨.px rfl (by intro X; rintro _ _ ⟨rfl, rfl⟩; refine OpT.mono (op_buildSlice (enc := SL.encZ) (l := [_]) (lab := 59) tL36_1sb rfl rfl (fun _ => rfl) rfl) ?_; rintro _ _ ⟨a59, c59, rfl, rfl⟩; obtain ⟨w, rfl, rfl⟩ : ∃ w : Wt, w.a = a59 ∧ w.c = c59 := ⟨{ a := a59, c := c59 }, rfl, rfl⟩; exact ⟨w, rfl, rfl⟩),
            trivial⟩⟩⟩⟩⟩⟩⟩⟩⟩⟩⟩⟩)
            (fun β β' => ⟨fun _ => by rfl, ⟨fun _ => by rfl, ⟨fun _ => by rfl, ⟨fun h => by first | rfl | (simp only [h 2 (by decide)]), ⟨fun _ => by rfl, ⟨fun _ => by rfl, ⟨fun _ => by rfl, ⟨fun _ => by rfl, ⟨fun _ => by rfl, ⟨fun _ => by rfl, ⟨fun _ => by rfl, ⟨fun _ => by rfl, trivial⟩⟩⟩⟩⟩⟩⟩⟩⟩⟩⟩⟩) ?_
        intro β
        rintro _ _ ⟨rfl, rfl⟩ _ _ ⟨rfl, rfl⟩ _ _ ⟨rfl, rfl⟩ _ _ ⟨rfl, rfl⟩ _ _ ⟨rfl, rfl⟩ _ _ ⟨rfl, rfl⟩ _ _ ⟨rfl, rfl⟩ _ _ ⟨rfl, rfl⟩ _ _ ⟨rfl, rfl⟩ _ _ ⟨rfl, rfl⟩ _ _ ⟨rfl, rfl⟩ _ _ ⟨rfl, rfl⟩
        generalize (β 2).a = a50
        generalize (β 2).c = c50
        generalize (β 3).a = a51
        generalize (β 3).c = c51
        generalize (β 11).a = a59
        generalize (β 11).c = c59
        refine wl_norm (e' := [(1, _), (4, _), (51, _), (52, _), (59, _)]) (.cons rfl (.cons rfl (.cons rfl (.cons rfl (.cons rfl (.nil _)))))) (by dsimp only [cond_false, cond_true, List.nil_append, List.cons_append]) ?_
        refine wl_op [3] rfl rfl rfl rfl (op_append (lab := 3) (lab' := 60) rfl rfl tP36sb SL.enc1Z (Sl.lab 59 rfl (by simp [maxLen])) (by first | omega | (simp; done) | (simp; omega) | (simp [*]; omega)) (by first | omega | (simp; done) | (simp; omega) | (simp [*]; omega))) ?_
        rintro _ _ ⟨a60, c60, rfl, rfl⟩
        refine za rfl (za rfl (wl_nil (st_bn (st_tn (w_region (zm rfl (zd rfl (op_add' rfl rfl (by omega)) ?_)))))))
        refine za rfl (wl_nil ?_)
        refine st_roundQ (x := (st, a_st, c_st, en, a_en, c_en, i)) ((_, _, _, _, _, _, i + 1)) [51, 60, 1] rfl (rfl) (.cons rfl (.cons rfl (.cons rfl (.nil _)))) (.cons rfl (.nil _)) (by
            try dsimp only
            rw [startN_succ hz, endN_succ hz, ← hst, ← hen]; unfold fromV; rw [hfr, if_pos (by omega)]; exact ⟨by omega, rfl, rfl⟩) (by
            try dsimp only
            omega)
      · -- c41.f
        refine w_skip (st_tn ?_)
        refine w_drawW (fun β => [⟨48, [], [], [], noW (_), false, [], []⟩, ⟨49, [], [], [], noW (_), false, [], []⟩, ⟨50, [1], [], [], fun w => DetW _ _, false, [], []⟩, ⟨51, [0, 2], [], [(2, _)], fun w => DetW _ _, false, [], []⟩, ⟨52, [], [], [], noW (_), false, [], []⟩, ⟨53, [], [], [], noW (_), false, [], []⟩, ⟨54, [], [], [], noW (_), false, [], []⟩, ⟨55, [6], [], [], noW (_), false, [], []⟩, ⟨56, [7], [], [], noW (_), false, [], []⟩, ⟨57, [8], [], [], noW (_), false, [], []⟩, ⟨58, [5, 9], [], [], noW (_), false, [], []⟩, ⟨59, [10], [], [], fun w => DetW _ _, false, [], []⟩]) [2] [2, 6, 3, 5] [⟨48, [], [], false, [], []⟩, ⟨49, [], [], false, [], []⟩, ⟨50, [1], [], false, [], []⟩, ⟨51, [0, 2], [], false, [], []⟩, ⟨52, [], [], false, [], []⟩, ⟨53, [], [], false, [], []⟩, ⟨54, [], [], false, [], []⟩, ⟨55, [6], [], false, [], []⟩, ⟨56, [7], [], false, [], []⟩, ⟨57, [8], [], false, [], []⟩, ⟨58, [5, 9], [], false, [], []⟩, ⟨59, [10], [], false, [], []⟩] [[], [], [], [2], [], [], [], [], [], [], [], []] [[], [], [], [(2, _)], [], [], [], [], [], [], [], []] tMixsb (fun _ => by rfl) (fun _ => by rfl) (by kernel_rfl) (by kernel_rfl) (by rfl) (by rfl)
            (fun β => ⟨.p rfl (by intro X; exact op_move rfl),
            ⟨.p rfl (by intro X; exact op_move rfl),
            ⟨.px rfl (by intro X; rintro _ _ ⟨rfl, rfl⟩; refine OpT.mono (op_buildSlice (enc := SL.encZ) (l := [_]) (lab := 50) tL36_1sb rfl rfl (fun _ => rfl) rfl) ?_; rintro _ _ ⟨a50, c50, rfl, rfl⟩; obtain ⟨w, rfl, rfl⟩ : ∃ w : Wt, w.a = a50 ∧ w.c = c50 := ⟨{ a := a50, c := c50 }, rfl, rfl⟩; exact ⟨w, rfl, rfl⟩),
            ⟨.px rfl (by intro X; rintro _ _ ⟨rfl, rfl⟩ _ _ ⟨rfl, rfl⟩; refine OpT.mono (op_append (lab := 2) (lab' := 51) rfl rfl tP36sb SL.enc1Z (Sl.lab 50 rfl (by simp [maxLen])) (by first | omega | (simp; done) | (simp; omega) | (simp [*]; omega)) (by first | omega | (simp; done) | (simp; omega) | (simp [*]; omega))) ?_; rintro _ _ ⟨a51, c51, rfl, rfl⟩; obtain ⟨w, rfl, rfl⟩ : ∃ w : Wt, w.a = a51 ∧ w.c = c51 := ⟨{ a := a51, c := c51 }, rfl, rfl⟩; exact ⟨w, rfl, rfl⟩),
            ⟨.p rfl (by intro X; exact op_move rfl),
            ⟨.p rfl (by intro X; exact op_move rfl),
            ⟨.p rfl (by intro X; exact op_fieldAddr (off := 7) rfl tF129_7sb),
            ⟨.p rfl (by intro X; rintro _ _ ⟨rfl, rfl⟩; exact op_load1 rfl tO5sb (Ent.lab (l := 5) rfl (says_cel 7))),
            ⟨.p rfl (by intro X; rintro _ _ ⟨rfl, rfl⟩; exact op_remN rfl rfl (by omega) (by omega)),
            ⟨.p rfl (by intro X; rintro _ _ ⟨rfl, rfl⟩; exact op_convI64 rfl (by rw [Tryz.underlying5]; rfl) Tryz.underlying3 (by omega)),
            ⟨.p rfl (by intro X; rintro _ _ ⟨rfl, rfl⟩ _ _ ⟨rfl, rfl⟩; exact op_add' rfl rfl (by omega)),
            ⟨.px rfl (by intro X; rintro _ _ ⟨rfl, rfl⟩; refine OpT.mono (op_buildSlice (enc := SL.encZ) (l := [_]) (lab := 59) tL36_1sb rfl rfl (fun _ => rfl) rfl) ?_; rintro _ _ ⟨a59, c59, rfl, rfl⟩; obtain ⟨w, rfl, rfl⟩ : ∃ w : Wt, w.a = a59 ∧ w.c = c59 := ⟨{ a := a59, c := c59 }, rfl, rfl⟩; exact ⟨w, rfl, rfl⟩),
            trivial⟩⟩⟩⟩⟩⟩⟩⟩⟩⟩⟩⟩)
            (fun β β' => ⟨fun _ => by rfl, ⟨fun _ => by rfl, ⟨fun _ => by rfl, ⟨fun h => by first | rfl | (simp only [h 2 (by decide)]), ⟨fun _ => by rfl, ⟨fun _ => by rfl, ⟨fun _ => by rfl, ⟨fun _ => by rfl, ⟨fun _ => by rfl, ⟨fun _ => by rfl, ⟨fun _ => by rfl, ⟨fun _ => by rfl, trivial⟩⟩⟩⟩⟩⟩⟩⟩⟩⟩⟩⟩) ?_
        intro β
        rintro _ _ ⟨rfl, rfl⟩ _ _ ⟨rfl, rfl⟩ _ _ ⟨rfl, rfl⟩ _ _ ⟨rfl, rfl⟩ _ _ ⟨rfl, rfl⟩ _ _ ⟨rfl, rfl⟩ _ _ ⟨rfl, rfl⟩ _ _ ⟨rfl, rfl⟩ _ _ ⟨rfl, rfl⟩ _ _ ⟨rfl, rfl⟩ _ _ ⟨rfl, rfl⟩ _ _ ⟨rfl, rfl⟩
        generalize (β 2).a = a50
        generalize (β 2).c = c50
        generalize (β 3).a = a51
        generalize (β 3).c = c51
        generalize (β 11).a = a59
        generalize (β 11).c = c59
        refine wl_norm (e' := [(1, _), (4, _), (51, _), (52, _), (59, _)]) (.cons rfl (.cons rfl (.cons rfl (.cons rfl (.cons rfl (.nil _)))))) (by dsimp only [cond_false, cond_true, List.nil_append, List.cons_append]) ?_
        refine wl_op [3] rfl rfl rfl rfl (op_append (lab := 3) (lab' := 60) rfl rfl tP36sb SL.enc1Z (Sl.lab 59 rfl (by simp [maxLen])) (by first | omega | (simp; done) | (simp; omega) | (simp [*]; omega)) (by first | omega | (simp; done) | (simp; omega) | (simp [*]; omega))) ?_
        rintro _ _ ⟨a60, c60, rfl, rfl⟩
        refine za rfl (za rfl (wl_nil (st_bn (st_tn (w_region (zm rfl (zd rfl (op_add' rfl rfl (by omega)) ?_)))))))
        refine za rfl (wl_nil ?_)
        refine st_roundQ (x := (st, a_st, c_st, en, a_en, c_en, i)) ((_, _, _, _, _, _, i + 1)) [51, 60, 1] rfl (rfl) (.cons rfl (.cons rfl (.cons rfl (.nil _)))) (.cons rfl (.nil _)) (by
            try dsimp only
            rw [startN_succ hz, endN_succ hz, ← hst, ← hen]; unfold fromV; rw [hfr, if_neg (by omega), Int.add_zero]; exact ⟨by omega, rfl, rfl⟩) (by
            try dsimp only
            omega)
    · -- c35.f
      have hfr : (if parN c i < i then st.getD (parN c i) 0 else 1000 + t.start % 32) = 1000 + t.start % 32 := by rw [if_neg (by omega)]
      refine w_skip (st_tn (w_seq (w_seq (w_region (zm rfl (zd rfl (op_gtr rfl rfl) (wl_nil (st_tn (w_cond_d rfl (fun hc41 => ?_) (fun hc41 => ?_))))))))))
      · -- c41.t
        refine w_region (zm rfl (zd rfl (op_fieldAddr (off := 6) rfl tF129_6sb) (zd rfl (op_load1 rfl tO5sb (Ent.lab (l := 5) rfl (says_cel 6))) (zd rfl (op_remN rfl rfl (by omega) (by omega)) ?_))))
        refine zd rfl (op_convI64 rfl (by rw [Tryz.underlying5]; rfl) Tryz.underlying3 (by omega)) ?_
        refine zd rfl (op_add' rfl rfl (by omega)) ?_
        refine za rfl (wl_nil (st_tn ?_))
        refine w_drawW (fun β => [⟨48, [], [], [], noW (_), false, [], []⟩, ⟨49, [], [], [], noW (_), false, [], []⟩, ⟨50, [1], [], [], fun w => DetW _ _, false, [], []⟩, ⟨51, [0, 2], [], [(2, _)], fun w => DetW _ _, false, [], []⟩, ⟨52, [], [], [], noW (_), false, [], []⟩, ⟨53, [], [], [], noW (_), false, [], []⟩, ⟨54, [], [], [], noW (_), false, [], []⟩, ⟨55, [6], [], [], noW (_), false, [], []⟩, ⟨56, [7], [], [], noW (_), false, [], []⟩, ⟨57, [8], [], [], noW (_), false, [], []⟩, ⟨58, [5, 9], [], [], noW (_), false, [], []⟩, ⟨59, [10], [], [], fun w => DetW _ _, false, [], []⟩]) [2] [2, 6, 3, 5] [⟨48, [], [], false, [], []⟩, ⟨49, [], [], false, [], []⟩, ⟨50, [1], [], false, [], []⟩, ⟨51, [0, 2], [], false, [], []⟩, ⟨52, [], [], false, [], []⟩, ⟨53, [], [], false, [], []⟩, ⟨54, [], [], false, [], []⟩, ⟨55, [6], [], false, [], []⟩, ⟨56, [7], [], false, [], []⟩, ⟨57, [8], [], false, [], []⟩, ⟨58, [5, 9], [], false, [], []⟩, ⟨59, [10], [], false, [], []⟩] [[], [], [], [2], [], [], [], [], [], [], [], []] [[], [], [], [(2, _)], [], [], [], [], [], [], [], []] tMixsb (fun _ => by rfl) (fun _ => by rfl) (by kernel_rfl) (by kernel_rfl) (by rfl) (by rfl)
            (fun β => ⟨.p rfl (by intro X; exact op_move rfl),
            ⟨.p rfl (by intro X; exact op_move rfl),
            ⟨.px rfl (by intro X; rintro _ _ ⟨rfl, rfl⟩; refine OpT.mono (op_buildSlice (enc := SL.encZ) (l := [_]) (lab := 50) tL36_1sb rfl rfl (fun _ => rfl) rfl) ?_; rintro _ _ ⟨a50, c50, rfl, rfl⟩; obtain ⟨w, rfl, rfl⟩ : ∃ w : Wt, w.a = a50 ∧ w.c = c50 := ⟨{ a := a50, c := c50 }, rfl, rfl⟩; exact ⟨w, rfl, rfl⟩),
            ⟨.px rfl (by intro X; rintro _ _ ⟨rfl, rfl⟩ _ _ ⟨rfl, rfl⟩; refine OpT.mono (op_append (lab := 2) (lab' := 51) rfl rfl tP36sb SL.enc1Z (Sl.lab 50 rfl (by simp [maxLen])) (by first | omega | (simp; done) | (simp; omega) | (simp [*]; omega)) (by first | omega | (simp; done) | (simp; omega) | (simp [*]; omega))) ?_; rintro _ _ ⟨a51, c51, rfl, rfl⟩; obtain ⟨w, rfl, rfl⟩ : ∃ w : Wt, w.a = a51 ∧ w.c = c51 := ⟨{ a := a51, c := c51 }, rfl, rfl⟩; exact ⟨w, rfl, rfl⟩),
            ⟨.p rfl (by intro X; exact op_move rfl),
            ⟨.p rfl (by intro X; exact op_move rfl),
            ⟨.p rfl (by intro X; exact op_fieldAddr (off := 7) rfl tF129_7sb),
            ⟨.p rfl (by intro X; rintro _ _ ⟨rfl, rfl⟩; exact op_load1 rfl tO5sb (Ent.lab (l := 5) rfl (says_cel 7))),
            ⟨.p rfl (by intro X; rintro _ _ ⟨rfl, rfl⟩; exact op_remN rfl rfl (by omega) (by omega)),
            ⟨.p rfl (by intro X; rintro _ _ ⟨rfl, rfl⟩; exact op_convI64 rfl (by rw [Tryz.underlying5]; rfl) Tryz.underlying3 (by omega)),
            ⟨.p rfl (by intro X; rintro _ _ ⟨rfl, rfl⟩ _ _ ⟨rfl, rfl⟩; exact op_add' rfl rfl (by omega)),
            ⟨.px rfl (by intro X; rintro _ _ ⟨rfl, rfl⟩; refine OpT.mono (op_buildSlice (enc := SL.encZ) (l := [_]) (lab := 59) tL36_1sb rfl rfl (fun _ => rfl) rfl) ?_; rintro _ _ ⟨a59, c59, rfl, rfl⟩; obtain ⟨w, rfl, rfl⟩ : ∃ w : Wt, w.a = a59 ∧ w.c = c59 := ⟨{ a := a59, c := c59 }, rfl, rfl⟩; exact ⟨w, rfl, rfl⟩),
            trivial⟩⟩⟩⟩⟩⟩⟩⟩⟩⟩⟩⟩)
            (fun β β' => ⟨fun _ => by rfl, ⟨fun _ => by rfl, ⟨fun _ => by rfl, ⟨fun h => by first | rfl | (simp only [h 2 (by decide)]), ⟨fun _ => by rfl, ⟨fun _ => by rfl, ⟨fun _ => by rfl, ⟨fun _ => by rfl, ⟨fun _ => by rfl, ⟨fun _ => by rfl, ⟨fun _ => by rfl, ⟨fun _ => by rfl, trivial⟩⟩⟩⟩⟩⟩⟩⟩⟩⟩⟩⟩) ?_
        intro β
        rintro _ _ ⟨rfl, rfl⟩ _ _ ⟨rfl, rfl⟩ _ _ ⟨rfl, rfl⟩ _ _ ⟨rfl, rfl⟩ _ _ ⟨rfl, rfl⟩ _ _ ⟨rfl, rfl⟩ _ _ ⟨rfl, rfl⟩ _ _ ⟨rfl, rfl⟩ _ _ ⟨rfl, rfl⟩ _ _ ⟨rfl, rfl⟩ _ _ ⟨rfl, rfl⟩ _ _ ⟨rfl, rfl⟩
        generalize (β 2).a = a50
        generalize (β 2).c = c50
        generalize (β 3).a = a51
        generalize (β 3).c = c51
        generalize (β 11).a = a59
        generalize (β 11).c = c59
        refine wl_norm (e' := [(1, _), (4, _), (51, _), (52, _), (59, _)]) (.cons rfl (.cons rfl (.cons rfl (.cons rfl (.cons rfl (.nil _)))))) (by dsimp only [cond_false, cond_true, List.nil_append, List.cons_append]) ?_
        refine wl_op [3] rfl rfl rfl rfl (op_append (lab := 3) (lab' := 60) rfl rfl tP36sb SL.enc1Z (Sl.lab 59 rfl (by simp [maxLen])) (by first | omega | (simp; done) | (simp; omega) | (simp [*]; omega)) (by first | omega | (simp; done) | (simp; omega) | (simp [*]; omega))) ?_
        rintro _ _ ⟨a60, c60, rfl, rfl⟩
        refine za rfl (za rfl (wl_nil (st_bn (st_tn (w_region (zm rfl (zd rfl (op_add' rfl rfl (by omega)) ?_)))))))
        refine za rfl (wl_nil ?_)
        refine st_roundQ (x := (st, a_st, c_st, en, a_en, c_en, i)) ((_, _, _, _, _, _, i + 1)) [51, 60, 1] rfl (rfl) (.cons rfl (.cons rfl (.cons rfl (.nil _)))) (.cons rfl (.nil _)) (by
            try dsimp only
            rw [startN_succ hz, endN_succ hz, ← hst, ← hen]; unfold fromV; rw [hfr, if_pos (by omega)]; exact ⟨by omega, rfl, rfl⟩) (by
            try dsimp only
            omega)
      · -- c41.f
        refine w_skip (st_tn ?_)
        refine w_drawW (fun β => [⟨48, [], [], [], noW (_), false, [], []⟩, ⟨49, [], [], [], noW (_), false, [], []⟩, ⟨50, [1], [], [], fun w => DetW _ _, false, [], []⟩, ⟨51, [0, 2], [], [(2, _)], fun w => DetW _ _, false, [], []⟩, ⟨52, [], [], [], noW (_), false, [], []⟩, ⟨53, [], [], [], noW (_), false, [], []⟩, ⟨54, [], [], [], noW (_), false, [], []⟩, ⟨55, [6], [], [], noW (_), false, [], []⟩, ⟨56, [7], [], [], noW (_), false, [], []⟩, ⟨57, [8], [], [], noW (_), false, [], []⟩, ⟨58, [5, 9], [], [], noW (_), false, [], []⟩, ⟨59, [10], [], [], fun w => DetW _ _, false, [], []⟩]) [2] [2, 6, 3, 5] [⟨48, [], [], false, [], []⟩, ⟨49, [], [], false, [], []⟩, ⟨50, [1], [], false, [], []⟩, ⟨51, [0, 2], [], false, [], []⟩, ⟨52, [], [], false, [], []⟩, ⟨53, [], [], false, [], []⟩, ⟨54, [], [], false, [], []⟩, ⟨55, [6], [], false, [], []⟩, ⟨56, [7], [], false, [], []⟩, ⟨57, [8], [], false, [], []⟩, ⟨58, [5, 9], [], false, [], []⟩, ⟨59, [10], [], false, [], []⟩] [[], [], [], [2], [], [], [], [], [], [], [], []] [[], [], [], [(2, _)], [], [], [], [], [], [], [], []] tMixsb (fun _ => by rfl) (fun _ => by rfl) (by kernel_rfl) (by kernel_rfl) (by rfl) (by rfl)
            (fun β => ⟨.p rfl (by intro X; exact op_move rfl),
            ⟨.p rfl (by intro X; exact op_move rfl),
            ⟨.px rfl (by intro X; rintro _ _ ⟨rfl, rfl⟩; refine OpT.mono (op_buildSlice (enc := SL.encZ) (l := [_]) (lab := 50) tL36_1sb rfl rfl (fun _ => rfl) rfl) ?_; rintro _ _ ⟨a50, c50, rfl, rfl⟩; obtain ⟨w, rfl, rfl⟩ : ∃ w : Wt, w.a = a50 ∧ w.c = c50 := ⟨{ a := a50, c := c50 }, rfl, rfl⟩; exact ⟨w, rfl, rfl⟩),
            ⟨.px rfl (by intro X; rintro _ _ ⟨rfl, rfl⟩ _ _ ⟨rfl, rfl⟩; refine OpT.mono (op_append (lab := 2) (lab' := 51) rfl rfl tP36sb SL.enc1Z (Sl.lab 50 rfl (by simp [maxLen])) (by first | omega | (simp; done) | (simp; omega) | (simp [*]; omega)) (by first | omega | (simp; done) | (simp; omega) | (simp [*]; omega))) ?_; rintro _ _ ⟨a51, c51, rfl, rfl⟩; obtain ⟨w, rfl, rfl⟩ : ∃ w : Wt, w.a = a51 ∧ w.c = c51 := ⟨{ a := a51, c := c51 }, rfl, rfl⟩; exact ⟨w, rfl, rfl⟩),
            ⟨.p rfl (by intro X; exact op_move rfl),
            ⟨.p rfl (by intro X; exact op_move rfl),
            ⟨.p rfl (by intro X; exact op_fieldAddr (off := 7) rfl tF129_7sb),
            ⟨.p rfl (by intro X; rintro _ _ ⟨rfl, rfl⟩; exact op_load1 rfl tO5sb (Ent.lab (l := 5) rfl (says_cel 7))),
            ⟨.p rfl (by intro X; rintro _ _ ⟨rfl, rfl⟩; exact op_remN rfl rfl (by omega) (by omega)),
            ⟨.p rfl (by intro X; rintro _ _ ⟨rfl, rfl⟩; exact op_convI64 rfl (by rw [Tryz.underlying5]; rfl) Tryz.underlying3 (by omega)),
            ⟨.p rfl (by intro X; rintro _ _ ⟨rfl, rfl⟩ _ _ ⟨rfl, rfl⟩; exact op_add' rfl rfl (by omega)),
            ⟨.px rfl (by intro X; rintro _ _ ⟨rfl, rfl⟩; refine OpT.mono (op_buildSlice (enc := SL.encZ) (l := [_]) (lab := 59) tL36_1sb rfl rfl (fun _ => rfl) rfl) ?_; rintro _ _ ⟨a59, c59, rfl, rfl⟩; obtain ⟨w, rfl, rfl⟩ : ∃ w : Wt, w.a = a59 ∧ w.c = c59 := ⟨{ a := a59, c := c59 }, rfl, rfl⟩; exact ⟨w, rfl, rfl⟩),
            trivial⟩⟩⟩⟩⟩⟩⟩⟩⟩⟩⟩⟩)
            (fun β β' => ⟨fun _ => by rfl, ⟨fun _ => by rfl, ⟨fun _ => by rfl, ⟨fun h => by first | rfl | (simp only [h 2 (by decide)]), ⟨fun _ => by rfl, ⟨fun _ => by rfl, ⟨fun _ => by rfl, ⟨fun _ => by rfl, ⟨fun _ => by rfl, ⟨fun _ => by rfl, ⟨fun _ => by rfl, ⟨fun _ => by rfl, trivial⟩⟩⟩⟩⟩⟩⟩⟩⟩⟩⟩⟩) ?_
        intro β
        rintro _ _ ⟨rfl, rfl⟩ _ _ ⟨rfl, rfl⟩ _ _ ⟨rfl, rfl⟩ _ _ ⟨rfl, rfl⟩ _ _ ⟨rfl, rfl⟩ _ _ ⟨rfl, rfl⟩ _ _ ⟨rfl, rfl⟩ _ _ ⟨rfl, rfl⟩ _ _ ⟨rfl, rfl⟩ _ _ ⟨rfl, rfl⟩ _ _ ⟨rfl, rfl⟩ _ _ ⟨rfl, rfl⟩
        generalize (β 2).a = a50
        generalize (β 2).c = c50
        generalize (β 3).a = a51
        generalize (β 3).c = c51
        generalize (β 11).a = a59
        generalize (β 11).c = c59
        refine wl_norm (e' := [(1, _), (4, _), (51, _), (52, _), (59, _)]) (.cons rfl (.cons rfl (.cons rfl (.cons rfl (.cons rfl (.nil _)))))) (by dsimp only [cond_false, cond_true, List.nil_append, List.cons_append]) ?_
        refine wl_op [3] rfl rfl rfl rfl (op_append (lab := 3) (lab' := 60) rfl rfl tP36sb SL.enc1Z (Sl.lab 59 rfl (by simp [maxLen])) (by first | omega | (simp; done) | (simp; omega) | (simp [*]; omega)) (by first | omega | (simp; done) | (simp; omega) | (simp [*]; omega))) ?_
        rintro _ _ ⟨a60, c60, rfl, rfl⟩
        refine za rfl (za rfl (wl_nil (st_bn (st_tn (w_region (zm rfl (zd rfl (op_add' rfl rfl (by omega)) ?_)))))))
        refine za rfl (wl_nil ?_)
        refine st_roundQ (x := (st, a_st, c_st, en, a_en, c_en, i)) ((_, _, _, _, _, _, i + 1)) [51, 60, 1] rfl (rfl) (.cons rfl (.cons rfl (.cons rfl (.nil _)))) (.cons rfl (.nil _)) (by
            try dsimp only
            rw [startN_succ hz, endN_succ hz, ← hst, ← hen]; unfold fromV; rw [hfr, if_neg (by omega), Int.add_zero]; exact ⟨by omega, rfl, rfl⟩) (by
            try dsimp only
            omega)
  · -- c14.f
    refine w_exit (st_te ?_)
    refine st_te ?_
    refine st_be (st_tn (w_seq (w_seq ?_)))
    have hin : i = t.calls.length := by omega
    subst hin
    have hsl : st.length = t.calls.length := by rw [hst]; exact startN_len hi
    have hel : en.length = t.calls.length := by rw [hen]; exact endN_len hi
    have hEB := (endL_B t).1
    refine w_region (zd rfl (op_fieldAddr (off := 2) rfl tF56_2sb) (zd rfl (op_load1 rfl tO54sb (Ent.lab (l := 1) rfl (says_cel 2))) (zd rfl (op_lenT rfl tS54sb (Sl.ent (hT.app _))) (zd rfl (op_sub' rfl rfl (by omega)) ?_))))
    refine za rfl (wl_nil (st_tn (w_block ?_)))
    refine w_loopQ (X := Int × List Int) (fun z => -1 ≤ z.1 ∧ z.1 ≤ (t.calls.length : Int) - 1 ∧ (0 ≤ z.1 ∨ t.calls.length = 0) ∧ z.2 = fixN t.calls en ((t.calls.length : Int) - 1 - z.1).toNat) (fun z => [(8, .int .i64 (z.1))]) (fun z => [(3, slW 3 SL.encZ 1 (.slice a_en en.length c_en) (z.2))]) (fun z => (z.1 + 1).toNat) (((t.calls.length : Int) - 1, en)) [(1, _), (2, _), (3, _)] [(2, _), (1, _)] [3, 2, 1] rfl (rfl) (.cons rfl (.nil _)) (.cons rfl (.cons rfl (.cons rfl (.nil _)))) (by
        try dsimp only
        exact ⟨by omega, by omega, by omega, by rw [show ((t.calls.length : Int) - 1 - ((t.calls.length : Int) - 1)).toNat = 0 by omega]; rfl⟩) ?_
    rintro ⟨k, E⟩ ⟨hk1, hk2, hk3, hE⟩
    refine w_norm2 (by dsimp only [List.cons_append, List.nil_append]) (by dsimp only [List.cons_append, List.nil_append]) ?_
    try dsimp only at hk1 hk2 hk3 hE ⊢
    refine w_seq (w_seq (w_region (zm rfl (zd rfl (op_gtr rfl rfl) (wl_nil (st_tn (w_cond_d rfl (fun hc66 => ?_) (fun hc66 => ?_))))))))
    · -- c66.t
      obtain ⟨c, hz⟩ := getE (l := t.calls) (i := k.toNat) (by omega)
      have hple := parN_le c k.toNat
      obtain ⟨d, hd⟩ := getE (l := t.calls) (i := parN c k.toNat) (by omega)
      have hcc := hc c (List.mem_of_getElem? hz)
      have hdc := hc d (List.mem_of_getElem? hd)
      have hdf : Value.bool d.fail = Value.bool (decide (d.fail = true)) := by cases d.fail <;> rfl
      have hb1 := hcc.par
      have hEl : E.length = t.calls.length := by rw [hE, fixN_len, hel]
      have hnx : ((t.calls.length : Int) - 1 - (k - 1)).toNat = ((t.calls.length : Int) - 1 - k).toNat + 1 := by omega
      have hpe : ((parN c k.toNat : Nat) : Int) = c.par % (k + 1) := by unfold parN; rw [show ((k.toNat : Int) + 1) = k + 1 by omega]; have := Int.emod_nonneg c.par (show (k + 1) ≠ 0 by omega); omega
      obtain ⟨x, hx⟩ := getE (l := E) (i := parN c k.toNat) (by omega)
      obtain ⟨y, hy⟩ := getE (l := E) (i := k.toNat) (by omega)
      have hgp : E.getD (parN c k.toNat) 0 = x := by rw [List.getD_eq_getElem?_getD, hx]; rfl
      have hgk : E.getD k.toNat 0 = y := by rw [List.getD_eq_getElem?_getD, hy]; rfl
      refine w_skip (st_tn (w_seq (w_block (w_seq (w_region (zd rfl (op_fieldAddr (off := 2) rfl tF56_2sb) (zd rfl (op_load1 rfl tO54sb (Ent.lab (l := 1) rfl (says_cel 2))) (zm rfl (zd rfl (op_idxZ rfl rfl tS54sb (Sl.ent (hT.app _)) (by omega) (by omega)) ?_)))))))))
      refine zd rfl (op_fieldAddr (off := 0) rfl tF129_0sb) (zd rfl (op_ldxf rfl tO5sb (hT.app _) (by assumption) (by rfl)) ?_)
      refine zd rfl (op_convI64 rfl (by rw [Tryz.underlying5]; rfl) Tryz.underlying3 (by omega)) ?_
      refine zm rfl (zd rfl (op_add' rfl rfl (by omega)) ?_)
      refine zd rfl (op_val (v' := .int .i64 ((parN c k.toNat : Nat) : Int)) (by rw [hpe]) (op_remN rfl rfl (by omega) (by omega))) ?_
      refine za rfl (wl_nil (st_tn (w_seq (w_cutL [(108, .bool (decide ((parN c k.toNat : Int) < k ∧ kindV c = 3 ∧ kindV d = 2 ∧ ¬ d.fail = true)))] [1, 2, 3, 8, 9] [3, 2, 1] rfl (fun K' hK => ?_) ?_))))
      · -- cut r16
        refine w_region (zm rfl (zm rfl (zd rfl (op_lss rfl rfl) (zm rfl (wl_gsplit (t := 82) rfl (fun hg82 => ?_) (fun hg82 => ?_))))))
        · -- 82 is True
          refine wl_wanted_det rfl rfl rfl rfl rfl rfl rfl (op_fieldAddr (off := 2) rfl tF56_2sb) (wl_wanted_det rfl rfl rfl rfl rfl rfl rfl (op_load1 rfl tO54sb (Ent.lab (l := 1) rfl (says_cel 2))) (wl_wanted_det rfl rfl rfl rfl rfl rfl rfl (op_move rfl) (wl_wanted_det rfl rfl rfl rfl rfl rfl rfl (op_idxZ rfl rfl tS54sb (Sl.ent (hT.app _)) (by omega) (by omega)) ?_)))
          refine wl_wanted_det rfl rfl rfl rfl rfl rfl rfl (op_ldxA rfl tA129sb (hT.app _) (by assumption) (by rfl) (by rfl)) ?_
          refine wl_wanted_det rfl rfl rfl rfl rfl rfl rfl (op_fn Tryz.func61 rfl rfl rfl (kind_any (by assumption))) ?_
          refine wl_wanted_det rfl rfl rfl rfl rfl rfl rfl (op_eql rfl rfl) (zd rfl (op_pick_t rfl rfl) (zm rfl (wl_gsplit (t := 91) rfl (fun hg91 => ?_) (fun hg91 => ?_))))
          · -- 91 is True
            refine wl_wanted_det rfl rfl rfl rfl rfl rfl rfl (op_fieldAddr (off := 2) rfl tF56_2sb) (wl_wanted_det rfl rfl rfl rfl rfl rfl rfl (op_load1 rfl tO54sb (Ent.lab (l := 1) rfl (says_cel 2))) (wl_wanted_det rfl rfl rfl rfl rfl rfl rfl (op_move rfl) (wl_wanted_det rfl rfl rfl rfl rfl rfl rfl (op_idx rfl rfl tS54sb (Sl.ent (hT.app _)) (by omega)) ?_)))
            refine wl_wanted_det rfl rfl rfl rfl rfl rfl rfl (op_ldxA rfl tA129sb (hT.app _) (by assumption) (by rfl) (by rfl)) ?_
            refine wl_wanted_det rfl rfl rfl rfl rfl rfl rfl (op_fn Tryz.func61 rfl rfl rfl (kind_any (by assumption))) ?_
            refine wl_wanted_det rfl rfl rfl rfl rfl rfl rfl (op_eql rfl rfl) (zd rfl (op_pick_t rfl rfl) (zm rfl (wl_gsplit (t := 100) rfl (fun hg100 => ?_) (fun hg100 => ?_))))
            · -- 100 is True
              refine wl_wanted_det rfl rfl rfl rfl rfl rfl rfl (op_fieldAddr (off := 2) rfl tF56_2sb) (wl_wanted_det rfl rfl rfl rfl rfl rfl rfl (op_load1 rfl tO54sb (Ent.lab (l := 1) rfl (says_cel 2))) (wl_wanted_det rfl rfl rfl rfl rfl rfl rfl (op_move rfl) (wl_wanted_det rfl rfl rfl rfl rfl rfl rfl (op_idx rfl rfl tS54sb (Sl.ent (hT.app _)) (by omega)) ?_)))
              refine wl_wanted_det rfl rfl rfl rfl rfl rfl rfl (op_fieldAddr (off := 10) rfl tF129_10sb) (wl_wanted_det rfl rfl rfl rfl rfl rfl rfl (op_val (v' := .bool (decide (d.fail = true))) (by exact hdf) (op_ldxf rfl tO4sb (hT.app _) (by assumption) (by rfl))) ?_)
              refine wl_wanted_det rfl rfl rfl rfl rfl rfl rfl (op_not_d rfl) (zd rfl (op_pick_t rfl rfl) (wl_nil (st_tn ?_)))
              exact cut_done1 [3, 2, 1] hK rfl (by first | (rw [decide_eq_decide]; exact ⟨fun h => ⟨by assumption, by assumption, by assumption, h⟩, fun h => h.2.2.2⟩) | (symm; rw [decide_eq_false_iff_not]; intro h; first | exact absurd h.1 (by assumption) | exact absurd h.2.1 (by assumption) | exact absurd h.2.2.1 (by assumption))) (by rfl) rfl rfl
            · -- 100 is False
              refine wl_unwanted rfl rfl rfl rfl rfl rfl rfl rfl (wl_unwanted rfl rfl rfl rfl rfl rfl rfl rfl (wl_unwanted rfl rfl rfl rfl rfl rfl rfl rfl (wl_unwanted rfl rfl rfl rfl rfl rfl rfl rfl (wl_unwanted rfl rfl rfl rfl rfl rfl rfl rfl (wl_unwanted rfl rfl rfl rfl rfl rfl rfl rfl (wl_unwanted rfl rfl rfl rfl rfl rfl rfl rfl (zd rfl (op_pick_f rfl rfl) (wl_nil (st_tn ?_)))))))))
              exact cut_done1 [3, 2, 1] hK rfl (by first | (rw [decide_eq_decide]; exact ⟨fun h => ⟨by assumption, by assumption, by assumption, h⟩, fun h => h.2.2.2⟩) | (symm; rw [decide_eq_false_iff_not]; intro h; first | exact absurd h.1 (by assumption) | exact absurd h.2.1 (by assumption) | exact absurd h.2.2.1 (by assumption))) (by rfl) rfl rfl
          · -- 91 is False
            refine wl_unwanted rfl rfl rfl rfl rfl rfl rfl rfl (wl_unwanted rfl rfl rfl rfl rfl rfl rfl rfl (wl_unwanted rfl rfl rfl rfl rfl rfl rfl rfl (wl_unwanted rfl rfl rfl rfl rfl rfl rfl rfl (wl_unwanted rfl rfl rfl rfl rfl rfl rfl rfl (wl_unwanted rfl rfl rfl rfl rfl rfl rfl rfl (wl_unwanted rfl rfl rfl rfl rfl rfl rfl rfl (zd rfl (op_pick_f rfl rfl) (zm rfl (wl_unwanted rfl rfl rfl rfl rfl rfl rfl rfl (wl_unwanted rfl rfl rfl rfl rfl rfl rfl rfl (wl_unwanted rfl rfl rfl rfl rfl rfl rfl rfl (wl_unwanted rfl rfl rfl rfl rfl rfl rfl rfl (wl_unwanted rfl rfl rfl rfl rfl rfl rfl rfl ?_)))))))))))))
            refine wl_unwanted rfl rfl rfl rfl rfl rfl rfl rfl (wl_unwanted rfl rfl rfl rfl rfl rfl rfl rfl (zd rfl (op_pick_f rfl rfl) (wl_nil (st_tn ?_))))
            exact cut_done1 [3, 2, 1] hK rfl (by first | (rw [decide_eq_decide]; exact ⟨fun h => ⟨by assumption, by assumption, by assumption, h⟩, fun h => h.2.2.2⟩) | (symm; rw [decide_eq_false_iff_not]; intro h; first | exact absurd h.1 (by assumption) | exact absurd h.2.1 (by assumption) | exact absurd h.2.2.1 (by assumption))) (by rfl) rfl rfl
        · -- 82 is False
          refine wl_unwanted rfl rfl rfl rfl rfl rfl rfl rfl (wl_unwanted rfl rfl rfl rfl rfl rfl rfl rfl (wl_unwanted rfl rfl rfl rfl rfl rfl rfl rfl (wl_unwanted rfl rfl rfl rfl rfl rfl rfl rfl (wl_unwanted rfl rfl rfl rfl rfl rfl rfl rfl (wl_unwanted rfl rfl rfl rfl rfl rfl rfl rfl (wl_unwanted rfl rfl rfl rfl rfl rfl rfl rfl (zd rfl (op_pick_f rfl rfl) (zm rfl (wl_unwanted rfl rfl rfl rfl rfl rfl rfl rfl (wl_unwanted rfl rfl rfl rfl rfl rfl rfl rfl (wl_unwanted rfl rfl rfl rfl rfl rfl rfl rfl (wl_unwanted rfl rfl rfl rfl rfl rfl rfl rfl (wl_unwanted rfl rfl rfl rfl rfl rfl rfl rfl ?_)))))))))))))
          refine wl_unwanted rfl rfl rfl rfl rfl rfl rfl rfl (wl_unwanted rfl rfl rfl rfl rfl rfl rfl rfl (zd rfl (op_pick_f rfl rfl) (zm rfl (wl_unwanted rfl rfl rfl rfl rfl rfl rfl rfl (wl_unwanted rfl rfl rfl rfl rfl rfl rfl rfl (wl_unwanted rfl rfl rfl rfl rfl rfl rfl rfl (wl_unwanted rfl rfl rfl rfl rfl rfl rfl rfl (wl_unwanted rfl rfl rfl rfl rfl rfl rfl rfl (wl_unwanted rfl rfl rfl rfl rfl rfl rfl rfl (wl_unwanted rfl rfl rfl rfl rfl rfl rfl rfl (zd rfl (op_pick_f rfl rfl) (wl_nil (st_tn ?_)))))))))))))
          exact cut_done1 [3, 2, 1] hK rfl (by first | (rw [decide_eq_decide]; exact ⟨fun h => ⟨by assumption, by assumption, by assumption, h⟩, fun h => h.2.2.2⟩) | (symm; rw [decide_eq_false_iff_not]; intro h; first | exact absurd h.1 (by assumption) | exact absurd h.2.1 (by assumption) | exact absurd h.2.2.1 (by assumption))) (by rfl) rfl rfl
      · -- behind r16
        show W _ _ _ _ _ [(108, _), (1, _), (2, _), (3, _), (8, _), (9, _)] [(3, _), (2, _), (1, _)] _
        refine w_cond_d rfl (fun hc108 => ?_) (fun hc108 => ?_)
        · -- c108.t
          have hc108' : parN c k.toNat < k.toNat ∧ kindV c = 3 ∧ kindV d = 2 ∧ ¬ d.fail = true := ⟨by omega, hc108.2⟩
          refine w_drawW (fun β => [⟨109, [], [], [], noW (_), false, [], []⟩, ⟨110, [], [], [], noW (_), false, [], []⟩, ⟨111, [], [], [], noW (_), false, [], []⟩, ⟨112, [], [], [], noW (_), false, [], []⟩, ⟨113, [2, 3], [], [], noW (_), false, [], []⟩, ⟨114, [4], [], [], noW (_), false, [], []⟩, ⟨115, [], [], [], noW (_), false, [], []⟩, ⟨116, [], [], [], noW (_), false, [], []⟩, ⟨117, [6, 7], [], [], noW (_), false, [], []⟩, ⟨118, [8], [], [], noW (_), false, [], []⟩, ⟨119, [5, 9], [], [], noW (_), false, [], []⟩]) [] [3, 9, 8] [⟨109, [], [], false, [], []⟩, ⟨110, [], [], false, [], []⟩, ⟨111, [], [], false, [], []⟩, ⟨112, [], [], false, [], []⟩, ⟨113, [2, 3], [], false, [], []⟩, ⟨114, [4], [], false, [], []⟩, ⟨115, [], [], false, [], []⟩, ⟨116, [], [], false, [], []⟩, ⟨117, [6, 7], [], false, [], []⟩, ⟨118, [8], [], false, [], []⟩, ⟨119, [5, 9], [], false, [], []⟩] [[], [], [], [], [], [], [], [], [], [], []] [[], [], [], [], [], [], [], [], [], [], []] tMixsb (fun _ => by rfl) (fun _ => by rfl) (by kernel_rfl) (by kernel_rfl) (by rfl) (by rfl)
              (fun β => ⟨.p rfl (by intro X; exact op_move rfl),
              ⟨.p rfl (by intro X; exact op_move rfl),
              ⟨.p rfl (by intro X; exact op_move rfl),
              ⟨.p rfl (by intro X; exact op_move rfl),
              ⟨.p rfl (by intro X; rintro _ _ ⟨rfl, rfl⟩ _ _ ⟨rfl, rfl⟩; exact op_idx rfl rfl tS36sb (Sl.ent (Sl.lab 3 rfl (by unfold maxLen; omega))) (by omega)),
              ⟨.p rfl (by intro X; rintro _ _ ⟨rfl, rfl⟩; exact op_ldx rfl tO3sb (Sl.lab 3 rfl (by unfold maxLen; omega)) (by assumption) (by rfl)),
              ⟨.p rfl (by intro X; exact op_move rfl),
              ⟨.p rfl (by intro X; exact op_move rfl),
              ⟨.p rfl (by intro X; rintro _ _ ⟨rfl, rfl⟩ _ _ ⟨rfl, rfl⟩; exact op_idxZ rfl rfl tS36sb (Sl.ent (Sl.lab 3 rfl (by unfold maxLen; omega))) (by omega) (by omega)),
              ⟨.p rfl (by intro X; rintro _ _ ⟨rfl, rfl⟩; exact op_ldx rfl tO3sb (Sl.lab 3 rfl (by unfold maxLen; omega)) (by assumption) (by rfl)),
              ⟨.p rfl (by intro X; rintro _ _ ⟨rfl, rfl⟩ _ _ ⟨rfl, rfl⟩; exact op_max rfl rfl),
              trivial⟩⟩⟩⟩⟩⟩⟩⟩⟩⟩⟩)
              (fun β β' => ⟨fun _ => by rfl, ⟨fun _ => by rfl, ⟨fun _ => by rfl, ⟨fun _ => by rfl, ⟨fun _ => by rfl, ⟨fun _ => by rfl, ⟨fun _ => by rfl, ⟨fun _ => by rfl, ⟨fun _ => by rfl, ⟨fun _ => by rfl, ⟨fun _ => by rfl, trivial⟩⟩⟩⟩⟩⟩⟩⟩⟩⟩⟩) ?_
          intro β
          rintro _ _ ⟨rfl, rfl⟩ _ _ ⟨rfl, rfl⟩ _ _ ⟨rfl, rfl⟩ _ _ ⟨rfl, rfl⟩ _ _ ⟨rfl, rfl⟩ _ _ ⟨rfl, rfl⟩ _ _ ⟨rfl, rfl⟩ _ _ ⟨rfl, rfl⟩ _ _ ⟨rfl, rfl⟩ _ _ ⟨rfl, rfl⟩ _ _ ⟨rfl, rfl⟩
          refine wl_norm (e' := [(1, _), (2, _), (3, _), (8, _), (109, _), (110, _), (119, _)]) (.cons rfl (.cons rfl (.cons rfl (.cons rfl (.cons rfl (.cons rfl (.cons rfl (.nil _)))))))) (by dsimp only [cond_false, cond_true, List.nil_append, List.cons_append]) ?_
          refine zd rfl (op_idx rfl rfl tS36sb (Sl.ent (Sl.lab 3 rfl (by unfold maxLen; omega))) (by omega)) ?_
          refine wl_op0 [3] rfl rfl rfl (op_storeX (lab := 3) (j := 0) rfl rfl tO3sb rfl rfl (by rfl) (by first | assumption | (simp [*]; done)) (Nat.le_of_ble_eq_true rfl) (by rfl)) ?_
          rintro _ _ ⟨rfl, rfl⟩
          refine wl_nil (st_bn (st_tn (w_region (zm rfl (zd rfl (op_sub' rfl rfl (by omega)) ?_)))))
          refine za rfl (wl_nil ?_)
          refine st_roundQ (x := (k, E)) ((k - 1, _)) [3, 2, 1] rfl (rfl) (.cons rfl (.nil _)) (.cons rfl (.cons rfl (.cons rfl (.nil _)))) (by
              try dsimp only
              refine ⟨by omega, by omega, by omega, ?_⟩; rw [hnx, fixN, ← hE, show t.calls.length - 1 - ((t.calls.length : Int) - 1 - k).toNat = k.toNat by omega]; unfold fixE; rw [hz]; dsimp only; rw [hd]; dsimp only; rw [if_pos hc108', hgp, hgk]) (by
              try dsimp only
              omega)
        · -- c108.f
          have hc108' : ¬ (parN c k.toNat < k.toNat ∧ kindV c = 3 ∧ kindV d = 2 ∧ ¬ d.fail = true) := fun h => hc108 ⟨by omega, h.2⟩
          refine w_skip (st_bn (st_tn (w_region (zm rfl (zd rfl (op_sub' rfl rfl (by omega)) ?_)))))
          refine za rfl (wl_nil ?_)
          refine st_roundQ (x := (k, E)) ((k - 1, _)) [3, 2, 1] rfl (rfl) (.cons rfl (.nil _)) (.cons rfl (.cons rfl (.cons rfl (.nil _)))) (by
              try dsimp only
              refine ⟨by omega, by omega, by omega, ?_⟩; rw [hnx, fixN, ← hE, show t.calls.length - 1 - ((t.calls.length : Int) - 1 - k).toNat = k.toNat by omega]; unfold fixE; rw [hz]; dsimp only; rw [hd]; dsimp only; rw [if_neg hc108']) (by
              try dsimp only
              omega)
    · -- c66.f
      refine w_exit (st_te ?_)
      refine st_te ?_
      refine st_be (st_tn (w_seq (w_region (zm rfl (zm rfl (za rfl (za rfl (wl_nil (st_tn (w_ret (st_ret (vs := [_, _]) [2, 3] Tryz.results41 ⟨rfl, ⟨rfl, trivial⟩⟩ rfl ?_)))))))))))
      refine ⟨[(lab1, _), (lab2, _)], rfl, ?_⟩
      have hEn : E = endL t := by
        rw [hE, hen]
        unfold endL
        congr 1
        omega
      have hss : st = startL t := hst
      have hle2 : en.length = (endL t).length := by rw [hel, hEB, startL_len]
      rw [hEn, hss, hle2]
      exact ⟨_, _, _, _, rfl, rfl⟩
end Go.Proofs.YtecmigildpkigaaGreat.Ser
namespace Go.Proofs.YtecmigildpkigaaGreat.Ser
open Go Go.SL Go.RowKit
set_option linter.unusedVariables false
set_option linter.unusedSimpArgs false
theorem tA129sc : aggB Tryz.prog 129 11 = true := by kernel_rfl
theorem tA27sc : aggB Tryz.prog 27 7 = true := by kernel_rfl
theorem tA70sc : aggB Tryz.prog 70 14 = true := by kernel_rfl
theorem tB132sc : placesB Tryz.prog 132 = some ([(0, 1), (1, 1)], [Value.int .i64 0, Value.int .i64 0]) := by kernel_rfl
theorem tB148sc : placesB Tryz.prog 148 = some ([(0, 1), (1, 1), (2, 1)], [Value.int .i64 0, Value.string .empty, Value.int .i64 0]) := by kernel_rfl
theorem tB150sc : placesB Tryz.prog 150 = some ([(0, 1), (1, 3)], [Value.string .empty, Value.int .i64 0, Value.string .empty, Value.int .i64 0]) := by kernel_rfl
theorem tB70sc : placesB Tryz.prog 70 = some ([(0, 1), (1, 1), (2, 1), (3, 1), (4, 1), (5, 1), (6, 1), (7, 1), (8, 1), (9, 1), (10, 1), (11, 1), (12, 1), (13, 1)], [Value.int .i64 0, Value.int .i64 0, Value.int .i64 0, Value.int .i64 0, Value.int .i64 0, Value.int .i64 0, Value.string .empty, Value.string .empty, Value.string .empty, Value.int .i64 0, Value.int .i64 0, Value.bool false, Value.slice none 0 0, Value.slice none 0 0]) := by kernel_rfl
theorem tF129_0sc : fieldB Tryz.prog 129 0 0 = true := by kernel_rfl
theorem tF129_1sc : fieldB Tryz.prog 129 1 1 = true := by kernel_rfl
theorem tF129_10sc : fieldB Tryz.prog 129 10 10 = true := by kernel_rfl
theorem tF129_3sc : fieldB Tryz.prog 129 3 3 = true := by kernel_rfl
theorem tF129_4sc : fieldB Tryz.prog 129 4 4 = true := by kernel_rfl
theorem tF129_5sc : fieldB Tryz.prog 129 5 5 = true := by kernel_rfl
theorem tF129_8sc : fieldB Tryz.prog 129 8 8 = true := by kernel_rfl
theorem tF129_9sc : fieldB Tryz.prog 129 9 9 = true := by kernel_rfl
theorem tF27_0sc : fieldB Tryz.prog 27 0 0 = true := by kernel_rfl
theorem tF56_2sc : fieldB Tryz.prog 56 2 2 = true := by kernel_rfl
theorem tF70_0sc : fieldB Tryz.prog 70 0 0 = true := by kernel_rfl
theorem tF70_12sc : fieldB Tryz.prog 70 12 12 = true := by kernel_rfl
theorem tF70_13sc : fieldB Tryz.prog 70 13 13 = true := by kernel_rfl
theorem tF70_2sc : fieldB Tryz.prog 70 2 2 = true := by kernel_rfl
theorem tF70_6sc : fieldB Tryz.prog 70 6 6 = true := by kernel_rfl
theorem tF70_7sc : fieldB Tryz.prog 70 7 7 = true := by kernel_rfl
theorem tF70_8sc : fieldB Tryz.prog 70 8 8 = true := by kernel_rfl
theorem tL33_3sc : zerosB Tryz.prog 33 9 1 3 = some [Value.string .empty, Value.string .empty, Value.string .empty] := by kernel_rfl
theorem tL33_4sc : zerosB Tryz.prog 33 9 1 4 = some [Value.string .empty, Value.string .empty, Value.string .empty, Value.string .empty] := by kernel_rfl
theorem tL67_3sc : zerosB Tryz.prog 67 150 4 3 = some [Value.string .empty, Value.int .i64 0, Value.string .empty, Value.int .i64 0, Value.string .empty, Value.int .i64 0, Value.string .empty, Value.int .i64 0, Value.string .empty, Value.int .i64 0, Value.string .empty, Value.int .i64 0] := by kernel_rfl
theorem tL68_1sc : zerosB Tryz.prog 68 132 2 1 = some [Value.int .i64 0, Value.int .i64 0] := by kernel_rfl
theorem tMixsc : Tryz.prog.follows .mixedOrders = true := by kernel_rfl
theorem tN129sc : (Tryz.prog.info? 129).bind (·.zero) = some (Value.agg #[Value.int .u8 0, Value.int .u8 0, Value.int .u8 0, Value.int .u8 0, Value.int .u8 0, Value.int .u8 0, Value.int .u8 0, Value.int .u8 0, Value.int .u8 0, Value.int .u8 0, Value.bool false]) := by kernel_rfl
theorem tN70sc : (Tryz.prog.info? 70).bind (·.zero) = some (Value.agg #[Value.int .i64 0, Value.int .i64 0, Value.int .i64 0, Value.int .i64 0, Value.int .i64 0, Value.int .i64 0, Value.string .empty, Value.string .empty, Value.string .empty, Value.int .i64 0, Value.int .i64 0, Value.bool false, Value.slice none 0 0, Value.slice none 0 0]) := by kernel_rfl
theorem tO22sc : oneB Tryz.prog 22 = true := by kernel_rfl
theorem tO3sc : oneB Tryz.prog 3 = true := by kernel_rfl
theorem tO4sc : oneB Tryz.prog 4 = true := by kernel_rfl
theorem tO5sc : oneB Tryz.prog 5 = true := by kernel_rfl
theorem tO54sc : oneB Tryz.prog 54 = true := by kernel_rfl
theorem tO9sc : oneB Tryz.prog 9 = true := by kernel_rfl
theorem tS22sc : sliceB Tryz.prog 22 56 3 = true := by kernel_rfl
theorem tS33sc : sliceB Tryz.prog 33 9 1 = true := by kernel_rfl
theorem tS36sc : sliceB Tryz.prog 36 3 1 = true := by kernel_rfl
theorem tS54sc : sliceB Tryz.prog 54 129 11 = true := by kernel_rfl
theorem tZ129sc : (Tryz.prog.info? 129).map (·.size) = some 11 := by kernel_rfl
theorem tZ3sc : (Tryz.prog.info? 3).map (·.size) = some 1 := by kernel_rfl
theorem tZ67sc : (Tryz.prog.info? 67).map (·.size) = some 1 := by kernel_rfl
theorem tZ68sc : (Tryz.prog.info? 68).map (·.size) = some 1 := by kernel_rfl
theorem tZ70sc : (Tryz.prog.info? 70).map (·.size) = some 14 := by kernel_rfl
theorem tZ9sc : (Tryz.prog.info? 9).map (·.size) = some 1 := by kernel_rfl
abbrev AtV := ByteArray × Int × ByteArray × Int
def encAt (x : AtV) : List Value := [.string x.1, .int .i64 x.2.1, .string x.2.2.1, .int .i64 x.2.2.2]
def encRf (x : Int × Int) : List Value := [.int .i64 x.1, .int .i64 x.2]
section
variable {P : Program} {σ : World} {n : Nat} {F : List Res} {e : Env} {R : RL} {dst : Option Tmp} {ty : TypeId} {pos : String} {after : Array Edge} {guard : Option (Nat × Bool)}
theorem wrap_u8' {z : Int} (h : 0 ≤ z ∧ z ≤ 255) : IntKind.u8.wrap z = z := by simp [IntKind.bits, IntKind.wrap, IntKind.signed]; omega
theorem op_quo8 {x y : Operand} {a b : Int} {t t2 : TypeId} (hx : ev e x = some (.int .u8 a)) (hy : ev e y = some (.int .u8 b)) (ha : 0 ≤ a) (hb : 0 < b) (hm : a ≤ 255) : OpT P σ n F ⟨dst, .binOp .quo t x y t2, ty, pos, after, guard⟩ e [] (Det (.int .u8 (a / b))) := by
  have := op_quo (P := P) (σ := σ) (n := n) (F := F) (dst := dst) (t := t) (t2 := t2) (ty := ty) (pos := pos) (after := after) (guard := guard) hx hy (by omega)
  rw [Int.tdiv_eq_ediv_of_nonneg ha, wrap_u8' ⟨by have := Int.ediv_nonneg ha (by omega : 0 ≤ b); omega, by have := Int.ediv_le_self b ha; omega⟩] at this
  exact this
end
def zoneL : List ByteArray := [⟨#[97]⟩, ⟨#[98]⟩, ⟨#[119, 101, 115, 116, 32, 49]⟩]
theorem zone_get (x : Int) : zoneL[(x % 3).toNat]? = some (zoneL.getD (x % 3).toNat .empty) := by
  rw [List.getD_eq_getElem?_getD, List.getElem?_eq_getElem (by simp [zoneL]; omega)]; rfl
theorem tS108s3 : sliceB Tryz.prog 67 150 4 = true := by kernel_rfl
set_option maxHeartbeats 2000000 in
set_option maxRecDepth 100000 in
theorem attrs_any {σ : World} {F : List Res} {c : CallV} (hc : CallOk c) : FnT Tryz.prog σ F 62 [.agg (encCall c).toArray] [] (fun u ρ => ∃ a n m, u = .slice a n m ∧ ρ = []) := by
  refine fn_of 32 Tryz.func62 rfl Tryz.ntmps62 rfl ?_
  have htg := hc.tag
  refine w_seq (w_region (wl_op [] rfl rfl rfl rfl (op_box (T := 129) (l := 1) rfl) ?_))
  rintro _ _ ⟨b1, rfl, rfl⟩
  refine za rfl (wl_nil (st_tn (w_seq ?_)))
  refine w_drawW (fun β => [⟨4, [], [], [], noW (_), false, [], []⟩, ⟨5, [0], [], [], noW (_), false, [], []⟩, ⟨6, [1], [], [], noW (_), false, [], []⟩, ⟨7, [2], [], [], noW (_), false, [], []⟩, ⟨8, [3], [], [], noW (_), false, [], []⟩, ⟨9, [4], [], [], noW (_), false, [], []⟩, ⟨10, [5], [], [], noW (_), false, [], []⟩, ⟨11, [], [], [], noW (_), false, [], []⟩, ⟨12, [7], [], [], noW (_), false, [], []⟩, ⟨13, [8], [], [], noW (_), false, [], []⟩, ⟨14, [9], [], [], noW (_), false, [], []⟩, ⟨15, [10], [], [], noW (_), false, [], []⟩, ⟨16, [11], [], [], noW (_), false, [], []⟩, ⟨17, [], [], [], fun w => DetW _ _, false, [], []⟩, ⟨18, [], [], [], noW (_), false, [], []⟩, ⟨19, [14], [], [], noW (_), false, [], []⟩, ⟨20, [15], [], [], noW (_), false, [], []⟩, ⟨21, [16], [], [], noW (_), false, [], []⟩, ⟨22, [13, 17], [], [], noW (_), false, [], []⟩, ⟨23, [18, 13], [], [], noW (_), false, [], []⟩, ⟨24, [19], [], [], noW (_), false, [], []⟩, ⟨25, [20], [], [], noW (_), false, [], []⟩]) [] [1] [⟨4, [], [], false, [], []⟩, ⟨5, [0], [], false, [], []⟩, ⟨6, [1], [], false, [], []⟩, ⟨7, [2], [], false, [], []⟩, ⟨8, [3], [], false, [], []⟩, ⟨9, [4], [], false, [], []⟩, ⟨10, [5], [], false, [], []⟩, ⟨11, [], [], false, [], []⟩, ⟨12, [7], [], false, [], []⟩, ⟨13, [8], [], false, [], []⟩, ⟨14, [9], [], false, [], []⟩, ⟨15, [10], [], false, [], []⟩, ⟨16, [11], [], false, [], []⟩, ⟨17, [], [], false, [], []⟩, ⟨18, [], [], false, [], []⟩, ⟨19, [14], [], false, [], []⟩, ⟨20, [15], [], false, [], []⟩, ⟨21, [16], [], false, [], []⟩, ⟨22, [13, 17], [], false, [], []⟩, ⟨23, [18, 13], [], false, [], []⟩, ⟨24, [19], [], false, [], []⟩, ⟨25, [20], [], false, [], []⟩] [[], [], [], [], [], [], [], [], [], [], [], [], [], [], [], [], [], [], [13], [13], [13], [13]] [[], [], [], [], [], [], [], [], [], [], [], [], [], [], [], [], [], [], [], [], [], []] tMixsc (fun _ => by rfl) (fun _ => by rfl) (by kernel_rfl) (by kernel_rfl) (by rfl) (by rfl)
      (fun β => ⟨.p rfl (by intro X; exact op_fieldAddr (off := 9) rfl tF129_9sc),
      ⟨.p rfl (by intro X; rintro _ _ ⟨rfl, rfl⟩; exact op_load1 rfl tO5sc (Ent.lab (l := 1) rfl (says_cel 9))),
      ⟨.p rfl (by intro X; rintro _ _ ⟨rfl, rfl⟩; exact op_quo8 rfl rfl (by omega) (by omega) (by omega)),
      ⟨.p rfl (by intro X; rintro _ _ ⟨rfl, rfl⟩; exact op_remN rfl rfl (by omega) (by omega)),
      ⟨.p rfl (by intro X; rintro _ _ ⟨rfl, rfl⟩; exact op_convI64 rfl (by rw [Tryz.underlying5]; rfl) Tryz.underlying3 (by omega)),
      ⟨.p rfl (by intro X; rintro _ _ ⟨rfl, rfl⟩; exact op_build tB148sc rfl rfl),
      ⟨.p rfl (by intro X; rintro _ _ ⟨rfl, rfl⟩; exact op_build tB150sc rfl rfl),
      ⟨.p rfl (by intro X; exact op_fieldAddr (off := 9) rfl tF129_9sc),
      ⟨.p rfl (by intro X; rintro _ _ ⟨rfl, rfl⟩; exact op_load1 rfl tO5sc (Ent.lab (l := 1) rfl (says_cel 9))),
      ⟨.p rfl (by intro X; rintro _ _ ⟨rfl, rfl⟩; exact op_convI64 rfl (by rw [Tryz.underlying5]; rfl) Tryz.underlying3 (by omega)),
      ⟨.p rfl (by intro X; rintro _ _ ⟨rfl, rfl⟩; exact op_sub' rfl rfl (by omega)),
      ⟨.p rfl (by intro X; rintro _ _ ⟨rfl, rfl⟩; exact op_build tB148sc rfl rfl),
      ⟨.p rfl (by intro X; rintro _ _ ⟨rfl, rfl⟩; exact op_build tB150sc rfl rfl),
      ⟨.px rfl (by intro X; refine OpT.mono (op_buildSlice (enc := SL.encS) (l := zoneL) (lab := 17) tL33_3sc rfl rfl (fun _ => rfl) rfl) ?_; rintro _ _ ⟨a17, c17, rfl, rfl⟩; obtain ⟨w, rfl, rfl⟩ : ∃ w : Wt, w.a = a17 ∧ w.c = c17 := ⟨{ a := a17, c := c17 }, rfl, rfl⟩; exact ⟨w, rfl, rfl⟩),
      ⟨.p rfl (by intro X; exact op_fieldAddr (off := 9) rfl tF129_9sc),
      ⟨.p rfl (by intro X; rintro _ _ ⟨rfl, rfl⟩; exact op_load1 rfl tO5sc (Ent.lab (l := 1) rfl (says_cel 9))),
      ⟨.p rfl (by intro X; rintro _ _ ⟨rfl, rfl⟩; exact op_quo8 rfl rfl (by omega) (by omega) (by omega)),
      ⟨.p rfl (by intro X; rintro _ _ ⟨rfl, rfl⟩; exact op_remN rfl rfl (by omega) (by omega)),
      ⟨.p rfl (by intro X; rintro _ _ ⟨rfl, rfl⟩ _ _ ⟨rfl, rfl⟩; exact op_idxK rfl rfl tS33sc (Sl.lab 17 rfl (by simp [maxLen, zoneL])) (by omega) (by simp [zoneL]; omega)),
      ⟨.p rfl (by intro X; rintro _ _ ⟨rfl, rfl⟩ _ _ ⟨rfl, rfl⟩; exact op_ldx rfl tO9sc (Sl.lab 17 rfl (by simp [maxLen, zoneL])) (zone_get _) rfl),
      ⟨.p rfl (by intro X; rintro _ _ ⟨rfl, rfl⟩; exact op_build tB148sc rfl rfl),
      ⟨.p rfl (by intro X; rintro _ _ ⟨rfl, rfl⟩; exact op_build tB150sc rfl rfl),
      trivial⟩⟩⟩⟩⟩⟩⟩⟩⟩⟩⟩⟩⟩⟩⟩⟩⟩⟩⟩⟩⟩⟩)
      (fun β β' => ⟨fun _ => by rfl, ⟨fun _ => by rfl, ⟨fun _ => by rfl, ⟨fun _ => by rfl, ⟨fun _ => by rfl, ⟨fun _ => by rfl, ⟨fun _ => by rfl, ⟨fun _ => by rfl, ⟨fun _ => by rfl, ⟨fun _ => by rfl, ⟨fun _ => by rfl, ⟨fun _ => by rfl, ⟨fun _ => by rfl, ⟨fun _ => by rfl, ⟨fun _ => by rfl, ⟨fun _ => by rfl, ⟨fun _ => by rfl, ⟨fun _ => by rfl, ⟨fun h => by first | rfl | (simp only [h 13 (by decide)]), ⟨fun h => by first | rfl | (simp only [h 13 (by decide)]), ⟨fun h => by first | rfl | (simp only [h 13 (by decide)]), ⟨fun h => by first | rfl | (simp only [h 13 (by decide)]), trivial⟩⟩⟩⟩⟩⟩⟩⟩⟩⟩⟩⟩⟩⟩⟩⟩⟩⟩⟩⟩⟩⟩) ?_
  intro β
  rintro _ _ ⟨rfl, rfl⟩ _ _ ⟨rfl, rfl⟩ _ _ ⟨rfl, rfl⟩ _ _ ⟨rfl, rfl⟩ _ _ ⟨rfl, rfl⟩ _ _ ⟨rfl, rfl⟩ _ _ ⟨rfl, rfl⟩ _ _ ⟨rfl, rfl⟩ _ _ ⟨rfl, rfl⟩ _ _ ⟨rfl, rfl⟩ _ _ ⟨rfl, rfl⟩ _ _ ⟨rfl, rfl⟩ _ _ ⟨rfl, rfl⟩ _ _ ⟨rfl, rfl⟩ _ _ ⟨rfl, rfl⟩ _ _ ⟨rfl, rfl⟩ _ _ ⟨rfl, rfl⟩ _ _ ⟨rfl, rfl⟩ _ _ ⟨rfl, rfl⟩ _ _ ⟨rfl, rfl⟩ _ _ ⟨rfl, rfl⟩ _ _ ⟨rfl, rfl⟩
  generalize (β 13).a = a17
  generalize (β 13).c = c17
  refine wl_norm (e' := [(1, _), (10, _), (16, _), (25, _)]) (.cons rfl (.cons rfl (.cons rfl (.cons rfl (.nil _))))) (by dsimp only [cond_false, cond_true, List.nil_append, List.cons_append]) ?_
  refine wl_op [] rfl rfl rfl rfl (op_buildSlice (enc := encAt) (l := [(⟨#[111, 107]⟩, 3, .empty, c.tag / 4 % 2), (⟨#[115, 105, 122, 101]⟩, 2, .empty, c.tag - 100), (⟨#[122, 111, 110, 101]⟩, 1, zoneL.getD (c.tag / 8 % 3).toNat .empty, 0)]) (lab := 26) tL67_3sc rfl rfl (fun _ => rfl) rfl) ?_
  rintro _ _ ⟨a26, c26, rfl, rfl⟩
  refine za rfl (wl_nil (st_tn (w_seq (w_region (zm rfl (zd rfl (op_fieldAddr (off := 9) rfl tF129_9sc) (zd rfl (op_load1 rfl tO5sc (Ent.lab (l := 1) rfl (says_cel 9))) (zd rfl (op_val (v' := .int .u8 (((c.tag % 4).toNat : Nat) : Int)) (by rw [Int.toNat_of_nonneg (by omega)]) (op_remN rfl rfl (by omega) (by omega))) ?_))))))))
  refine zd rfl (op_sliceRk rfl rfl tS108s3 (Sl.lab 26 rfl (by simp [maxLen])) (by show (c.tag % 4).toNat ≤ 3; omega)) ?_
  refine za rfl (wl_nil (st_tn (w_ret (st_ret (vs := [_]) [] Tryz.results62 ⟨rfl, trivial⟩ rfl ?_))))
  refine ⟨_, rfl, ?_⟩
  exact ⟨_, _, _, rfl, rfl⟩
structure SpV where
  tr : Int
  id : Int
  par : Int
  rev : Int
  clk : Int
  knd : Int
  svc : ByteArray
  ver : ByteArray
  op : ByteArray
  st : Int
  en : Int
  err : Bool
  aa : Option Addr
  an : Nat
  ac : Nat
  la : Option Addr
  ln : Nat
  lc : Nat
def encSp (x : SpV) : List Value := [.int .i64 x.tr, .int .i64 x.id, .int .i64 x.par, .int .i64 x.rev, .int .i64 x.clk, .int .i64 x.knd, .string x.svc, .string x.ver, .string x.op, .int .i64 x.st, .int .i64 x.en, .bool x.err, .slice x.aa x.an x.ac, .slice x.la x.ln x.lc]
def verL : List ByteArray := [⟨#[118, 49]⟩, ⟨#[118, 50]⟩, ⟨#[]⟩]
def actL : List ByteArray := [⟨#[103, 101, 116]⟩, ⟨#[112, 117, 116]⟩, ⟨#[108, 105, 115, 116]⟩]
theorem ver_get (x : Int) : verL[(x % 3).toNat]? = some (verL.getD (x % 3).toNat .empty) := by
  rw [List.getD_eq_getElem?_getD, List.getElem?_eq_getElem (by simp [verL]; omega)]; rfl
theorem act_get (x : Int) : actL[(x % 3).toNat]? = some (actL.getD (x % 3).toNat .empty) := by
  rw [List.getD_eq_getElem?_getD, List.getElem?_eq_getElem (by simp [actL]; omega)]; rfl
theorem tO3made : oneB Tryz.prog 3 = true := by kernel_rfl
structure MadeV (c : CallV) (s e : Int) (x : SpV) : Prop where
  svc : x.svc = svcL.getD (c.svc % 4).toNat .empty
  op : x.op = actL.getD (c.opn % 3).toNat .empty
  st : x.st = s
  en : x.en = e
  err : x.err = c.fail
  clk : x.clk = 1 + c.clk % 4
set_option maxHeartbeats 2000000 in
set_option maxRecDepth 100000 in
theorem made_any {σ : World} {F : List Res} {S : StoryV} {k i : Nat} {t : TreeV} {c : CallV} {a1 a2 : Option Addr} {c1 c2 : Nat} {l1 l2 : List Int} {s e : Int} (hS : StOk σ F S) (hsh : shortP S) (hk : S.trees[k]? = some t) (hci : t.calls[i]? = some c) (h1 : Sl σ F SL.encZ 1 (.slice a1 l1.length c1) l1) (h2 : Sl σ F SL.encZ 1 (.slice a2 l2.length c2) l2) (hs : l1[i]? = some s) (he : l2[i]? = some e) :
    FnT Tryz.prog σ F 42 [stV S, .int .i64 k, .int .i64 i, .slice a1 l1.length c1, .slice a2 l2.length c2] [] (fun u ρ => ∃ x : SpV, u = .agg (encSp x).toArray ∧ ρ = [] ∧ MadeV c s e x) := by
  refine fn_of 112 Tryz.func42 rfl Tryz.ntmps42 rfl ?_
  have hle := hS.tr.i64
  have htm := List.mem_of_getElem? hk
  have hcm := List.mem_of_getElem? hci
  have hcc := hS.b.call t htm c hcm
  have hsl := hsh.1 t htm
  have hst := hsh.2.1
  have hkl := (List.getElem?_eq_some_iff.1 hk).1
  have hil := (List.getElem?_eq_some_iff.1 hci).1
  have hs1 := (List.getElem?_eq_some_iff.1 hs).1
  have he1 := (List.getElem?_eq_some_iff.1 he).1
  have b1 := hcc.par
  have b2 := hcc.clk
  have b3 := hcc.knd
  have b4 := hcc.svc
  have b5 := hcc.ver
  have b6 := hcc.opn
  have b7 := hcc.link
  have hca := hS.ca t htm
  have hpl := parN_le c i
  obtain ⟨j, hjl⟩ : ∃ j : Nat, (j : Int) = c.link % 16 := ⟨(c.link % 16).toNat, by omega⟩
  have hpe : ((parN c i : Nat) : Int) = c.par % ((i : Int) + 1) := by unfold parN; have := Int.emod_nonneg c.par (show ((i : Int) + 1) ≠ 0 by omega); omega
  refine w_seq (w_region (wl_op [] rfl rfl rfl rfl (op_box (T := 27) (l := 5) rfl) ?_))
  rintro _ _ ⟨b5, rfl, rfl⟩
  refine wl_op [] rfl rfl rfl rfl (op_alloc (l := 10) tN70sc) ?_
  rintro _ _ ⟨b10, rfl, rfl⟩
  refine wl_nil (st_tn (w_seq (w_region (zd rfl (op_fieldAddr (off := 0) rfl tF27_0sc) (zd rfl (op_load1 rfl tO22sc (Ent.lab (l := 5) rfl (says_cel 0))) (zm rfl (zd rfl (op_idx rfl rfl tS22sc (Sl.ent (hS.tr.app _)) (by omega)) ?_)))))))
  refine zd rfl (op_fieldAddr (off := 2) rfl tF56_2sc) (zd rfl (op_ldxf rfl tO54sc (hS.tr.app _) (by assumption) (by rfl)) ?_)
  refine zm rfl (zd rfl (op_idx rfl rfl tS54sc (Sl.ent (hca.app _)) (by omega)) ?_)
  refine zd rfl (op_ldxA rfl tA129sc (hca.app _) (by assumption) (by rfl) (by rfl)) ?_
  refine wl_op [] rfl rfl rfl rfl (op_alloc (l := 11) tN129sc) ?_
  rintro _ _ ⟨b11, rfl, rfl⟩
  refine wl_op0 [11] rfl rfl rfl (op_store rfl rfl tZ129sc (by rfl) (by rfl) (by exact Nat.le_of_ble_eq_true rfl)) ?_
  rintro _ _ ⟨rfl, rfl⟩
  refine wl_nil (st_tn (w_seq ?_))
  refine w_drawW (fun β => [⟨24, [], [], [], noW (_), false, [], []⟩, ⟨25, [], [], [], noW (_), false, [], []⟩, ⟨26, [0, 1], [], [], noW (_), false, [], []⟩, ⟨27, [], [], [], noW (_), false, [], []⟩, ⟨28, [3], [], [], noW (_), false, [], []⟩, ⟨29, [], [], [], noW (_), false, [], []⟩, ⟨30, [5], [], [], noW (_), false, [], []⟩, ⟨31, [6], [], [], noW (_), false, [], []⟩, ⟨32, [7], [], [], noW (_), false, [], []⟩, ⟨33, [8], [], [], noW (_), false, [], []⟩, ⟨34, [], [], [], noW (_), false, [], []⟩, ⟨35, [10], [], [], noW (_), false, [], []⟩, ⟨36, [], [], [], noW (_), false, [], []⟩, ⟨37, [12], [], [], noW (_), false, [], []⟩, ⟨38, [], [], [], noW (_), false, [], []⟩, ⟨39, [], [], [], noW (_), false, [], []⟩, ⟨40, [14, 15], [], [], noW (_), false, [], []⟩, ⟨41, [16], [], [], noW (_), false, [], []⟩, ⟨42, [], [], [], noW (_), false, [], []⟩, ⟨43, [], [], [], noW (_), false, [], []⟩, ⟨44, [18, 19], [], [], noW (_), false, [], []⟩, ⟨45, [20], [], [], noW (_), false, [], []⟩, ⟨46, [2, 4, 9, 11, 13, 17, 21], [], [], noW (_), false, [], []⟩, ⟨12, [], [], [], fun w => DetW _ _, false, [], []⟩]) [] [5, 1, 2, 11, 3, 4] [⟨24, [], [], false, [], []⟩, ⟨25, [], [], false, [], []⟩, ⟨26, [0, 1], [], false, [], []⟩, ⟨27, [], [], false, [], []⟩, ⟨28, [3], [], false, [], []⟩, ⟨29, [], [], false, [], []⟩, ⟨30, [5], [], false, [], []⟩, ⟨31, [6], [], false, [], []⟩, ⟨32, [7], [], false, [], []⟩, ⟨33, [8], [], false, [], []⟩, ⟨34, [], [], false, [], []⟩, ⟨35, [10], [], false, [], []⟩, ⟨36, [], [], false, [], []⟩, ⟨37, [12], [], false, [], []⟩, ⟨38, [], [], false, [], []⟩, ⟨39, [], [], false, [], []⟩, ⟨40, [14, 15], [], false, [], []⟩, ⟨41, [16], [], false, [], []⟩, ⟨42, [], [], false, [], []⟩, ⟨43, [], [], false, [], []⟩, ⟨44, [18, 19], [], false, [], []⟩, ⟨45, [20], [], false, [], []⟩, ⟨46, [2, 4, 9, 11, 13, 17, 21], [], false, [], []⟩, ⟨12, [], [], false, [], []⟩] [[], [], [], [], [], [], [], [], [], [], [], [], [], [], [], [], [], [], [], [], [], [], [], []] [[], [], [], [], [], [], [], [], [], [], [], [], [], [], [], [], [], [], [], [], [], [], [], []] tMixsc (fun _ => by rfl) (fun _ => by rfl) (by kernel_rfl) (by kernel_rfl) (by rfl) (by rfl)
      (fun β => ⟨.p rfl (by intro X; exact op_loadA rfl tA27sc (Ent.lab (l := 5) rfl (says_cel 0)) (Nat.le_of_ble_eq_true rfl)),
      ⟨.p rfl (by intro X; exact op_move rfl),
      ⟨.p rfl (by intro X; rintro _ _ ⟨rfl, rfl⟩ _ _ ⟨rfl, rfl⟩; exact op_fn Tryz.func15 rfl rfl rfl (traceId_any ((hS.app _).app _) hsh hk)),
      ⟨.p rfl (by intro X; exact op_move rfl),
      ⟨.p rfl (by intro X; rintro _ _ ⟨rfl, rfl⟩; exact op_add' rfl rfl (by omega)),
      ⟨.p rfl (by intro X; exact op_fieldAddr (off := 1) rfl tF129_1sc),
      ⟨.p rfl (by intro X; rintro _ _ ⟨rfl, rfl⟩; exact op_load1 rfl tO5sc (Ent.lab (l := 11) rfl (says_cel 1))),
      ⟨.p rfl (by intro X; rintro _ _ ⟨rfl, rfl⟩; exact op_remN rfl rfl (by omega) (by omega)),
      ⟨.p rfl (by intro X; rintro _ _ ⟨rfl, rfl⟩; exact op_convI64 rfl (by rw [Tryz.underlying5]; rfl) Tryz.underlying3 (by omega)),
      ⟨.p rfl (by intro X; rintro _ _ ⟨rfl, rfl⟩; exact op_add' rfl rfl (by omega)),
      ⟨.p rfl (by intro X; exact op_loadA rfl tA129sc (Ent.lab (l := 11) rfl (says_cel 0)) (Nat.le_of_ble_eq_true rfl)),
      ⟨.p rfl (by intro X; rintro _ _ ⟨rfl, rfl⟩; exact op_fn Tryz.func61 rfl rfl rfl (kind_any (by assumption))),
      ⟨.p rfl (by intro X; exact op_fieldAddr (off := 10) rfl tF129_10sc),
      ⟨.p rfl (by intro X; rintro _ _ ⟨rfl, rfl⟩; exact op_load1 rfl tO4sc (Ent.lab (l := 11) rfl (says_cel 10))),
      ⟨.p rfl (by intro X; exact op_move rfl),
      ⟨.p rfl (by intro X; exact op_move rfl),
      ⟨.p rfl (by intro X; rintro _ _ ⟨rfl, rfl⟩ _ _ ⟨rfl, rfl⟩; exact op_idx rfl rfl tS36sc (Sl.ent (Sl.app (Sl.app h1 _) _)) (by omega)),
      ⟨.p rfl (by intro X; rintro _ _ ⟨rfl, rfl⟩; exact op_ldx rfl tO3made (Sl.app (Sl.app h1 _) _) hs (by rfl)),
      ⟨.p rfl (by intro X; exact op_move rfl),
      ⟨.p rfl (by intro X; exact op_move rfl),
      ⟨.p rfl (by intro X; rintro _ _ ⟨rfl, rfl⟩ _ _ ⟨rfl, rfl⟩; exact op_idx rfl rfl tS36sc (Sl.ent (Sl.app (Sl.app h2 _) _)) (by omega)),
      ⟨.p rfl (by intro X; rintro _ _ ⟨rfl, rfl⟩; exact op_ldx rfl tO3made (Sl.app (Sl.app h2 _) _) he (by rfl)),
      ⟨.p rfl (by intro X; rintro _ _ ⟨rfl, rfl⟩ _ _ ⟨rfl, rfl⟩ _ _ ⟨rfl, rfl⟩ _ _ ⟨rfl, rfl⟩ _ _ ⟨rfl, rfl⟩ _ _ ⟨rfl, rfl⟩ _ _ ⟨rfl, rfl⟩; exact op_build tB70sc rfl rfl),
      ⟨.px rfl (by intro X; refine OpT.mono (op_alloc (l := 12) tN70sc) ?_; rintro _ _ ⟨b12, rfl, rfl⟩; obtain ⟨w, rfl⟩ : ∃ w : Wt, w.b = b12 := ⟨{ b := b12 }, rfl⟩; exact ⟨w, rfl, rfl⟩),
      trivial⟩⟩⟩⟩⟩⟩⟩⟩⟩⟩⟩⟩⟩⟩⟩⟩⟩⟩⟩⟩⟩⟩⟩⟩)
      (fun β β' => ⟨fun _ => by rfl, ⟨fun _ => by rfl, ⟨fun _ => by rfl, ⟨fun _ => by rfl, ⟨fun _ => by rfl, ⟨fun _ => by rfl, ⟨fun _ => by rfl, ⟨fun _ => by rfl, ⟨fun _ => by rfl, ⟨fun _ => by rfl, ⟨fun _ => by rfl, ⟨fun _ => by rfl, ⟨fun _ => by rfl, ⟨fun _ => by rfl, ⟨fun _ => by rfl, ⟨fun _ => by rfl, ⟨fun _ => by rfl, ⟨fun _ => by rfl, ⟨fun _ => by rfl, ⟨fun _ => by rfl, ⟨fun _ => by rfl, ⟨fun _ => by rfl, ⟨fun _ => by rfl, ⟨fun _ => by rfl, trivial⟩⟩⟩⟩⟩⟩⟩⟩⟩⟩⟩⟩⟩⟩⟩⟩⟩⟩⟩⟩⟩⟩⟩⟩) ?_
  intro β
  rintro _ _ ⟨rfl, rfl⟩ _ _ ⟨rfl, rfl⟩ _ _ ⟨rfl, rfl⟩ _ _ ⟨rfl, rfl⟩ _ _ ⟨rfl, rfl⟩ _ _ ⟨rfl, rfl⟩ _ _ ⟨rfl, rfl⟩ _ _ ⟨rfl, rfl⟩ _ _ ⟨rfl, rfl⟩ _ _ ⟨rfl, rfl⟩ _ _ ⟨rfl, rfl⟩ _ _ ⟨rfl, rfl⟩ _ _ ⟨rfl, rfl⟩ _ _ ⟨rfl, rfl⟩ _ _ ⟨rfl, rfl⟩ _ _ ⟨rfl, rfl⟩ _ _ ⟨rfl, rfl⟩ _ _ ⟨rfl, rfl⟩ _ _ ⟨rfl, rfl⟩ _ _ ⟨rfl, rfl⟩ _ _ ⟨rfl, rfl⟩ _ _ ⟨rfl, rfl⟩ _ _ ⟨rfl, rfl⟩ _ _ ⟨rfl, rfl⟩
  generalize (β 23).b = b12
  refine wl_norm (e' := [(2, _), (3, _), (10, _), (11, _), (12, _), (46, _)]) (.cons rfl (.cons rfl (.cons rfl (.cons rfl (.cons rfl (.cons rfl (.nil _))))))) (by dsimp only [cond_false, cond_true, List.nil_append, List.cons_append]) ?_
  refine wl_op0 [12] rfl rfl rfl (op_store rfl rfl tZ70sc (by rfl) (by rfl) (by exact Nat.le_of_ble_eq_true rfl)) ?_
  rintro _ _ ⟨rfl, rfl⟩
  refine wl_nil (st_tn (w_seq (w_wk 12 (cel b12 (encSp ⟨idV t k, (i : Int) + 1, 0, 0, 1 + c.clk % 4, kindV c, .empty, .empty, .empty, s, e, c.fail, none, 0, 0, none, 0, 0⟩) 70) rfl (fun _ h => h) ?_)))
  refine w_region (wl_op [] rfl rfl rfl rfl (op_buildSlice (enc := SL.encS) (l := svcL) (lab := 47) tL33_4sc rfl rfl (fun _ => rfl) rfl) ?_)
  rintro _ _ ⟨a47, c47, rfl, rfl⟩
  refine zd rfl (op_fieldAddr (off := 3) rfl tF129_3sc) (zd rfl (op_load1 rfl tO5sc (Ent.lab (l := 11) rfl (says_cel 3))) (zd rfl (op_remN rfl rfl (by omega) (by omega)) ?_))
  refine zd rfl (op_idxK rfl rfl tS33sc (Sl.lab 47 rfl (by simp [maxLen, svcL])) (by omega) (by simp [svcL]; omega)) ?_
  refine zd rfl (op_ldx rfl tO9sc (Sl.lab 47 rfl (by simp [maxLen, svcL])) (svc_get _) rfl) ?_
  refine zd rfl (op_fieldAddr (off := 6) rfl tF70_6sc) (wl_op0 [12] rfl rfl rfl (op_store rfl rfl tZ9sc (by rfl) (by rfl) (by exact Nat.le_of_ble_eq_true rfl)) ?_)
  rintro _ _ ⟨rfl, rfl⟩
  refine wl_nil (st_tn (w_seq (w_wk 12 (cel b12 (encSp ⟨idV t k, (i : Int) + 1, 0, 0, 1 + c.clk % 4, kindV c, (svcL.getD (c.svc % 4).toNat .empty), .empty, .empty, s, e, c.fail, none, 0, 0, none, 0, 0⟩) 70) rfl (fun _ h => h) ?_)))
  refine w_region (wl_op [] rfl rfl rfl rfl (op_buildSlice (enc := SL.encS) (l := verL) (lab := 54) tL33_3sc rfl rfl (fun _ => rfl) rfl) ?_)
  rintro _ _ ⟨a54, c54, rfl, rfl⟩
  refine zd rfl (op_fieldAddr (off := 4) rfl tF129_4sc) (zd rfl (op_load1 rfl tO5sc (Ent.lab (l := 11) rfl (says_cel 4))) (zd rfl (op_remN rfl rfl (by omega) (by omega)) ?_))
  refine zd rfl (op_idxK rfl rfl tS33sc (Sl.lab 54 rfl (by simp [maxLen, verL])) (by omega) (by simp [verL]; omega)) ?_
  refine zd rfl (op_ldx rfl tO9sc (Sl.lab 54 rfl (by simp [maxLen, verL])) (ver_get _) rfl) ?_
  refine zd rfl (op_fieldAddr (off := 7) rfl tF70_7sc) (wl_op0 [12] rfl rfl rfl (op_store rfl rfl tZ9sc (by rfl) (by rfl) (by exact Nat.le_of_ble_eq_true rfl)) ?_)
  rintro _ _ ⟨rfl, rfl⟩
  refine wl_nil (st_tn (w_seq (w_wk 12 (cel b12 (encSp ⟨idV t k, (i : Int) + 1, 0, 0, 1 + c.clk % 4, kindV c, (svcL.getD (c.svc % 4).toNat .empty), (verL.getD (c.ver % 3).toNat .empty), .empty, s, e, c.fail, none, 0, 0, none, 0, 0⟩) 70) rfl (fun _ h => h) ?_)))
  refine w_region (wl_op [] rfl rfl rfl rfl (op_buildSlice (enc := SL.encS) (l := actL) (lab := 61) tL33_3sc rfl rfl (fun _ => rfl) rfl) ?_)
  rintro _ _ ⟨a61, c61, rfl, rfl⟩
  refine zd rfl (op_fieldAddr (off := 5) rfl tF129_5sc) (zd rfl (op_load1 rfl tO5sc (Ent.lab (l := 11) rfl (says_cel 5))) (zd rfl (op_remN rfl rfl (by omega) (by omega)) ?_))
  refine zd rfl (op_idxK rfl rfl tS33sc (Sl.lab 61 rfl (by simp [maxLen, actL])) (by omega) (by simp [actL]; omega)) ?_
  refine zd rfl (op_ldx rfl tO9sc (Sl.lab 61 rfl (by simp [maxLen, actL])) (act_get _) rfl) ?_
  refine zd rfl (op_fieldAddr (off := 8) rfl tF70_8sc) (wl_op0 [12] rfl rfl rfl (op_store rfl rfl tZ9sc (by rfl) (by rfl) (by exact Nat.le_of_ble_eq_true rfl)) ?_)
  rintro _ _ ⟨rfl, rfl⟩
  refine wl_nil (st_tn (w_seq (w_seq (w_wk 12 (cel b12 (encSp ⟨idV t k, (i : Int) + 1, 0, 0, 1 + c.clk % 4, kindV c, (svcL.getD (c.svc % 4).toNat .empty), (verL.getD (c.ver % 3).toNat .empty), (actL.getD (c.opn % 3).toNat .empty), s, e, c.fail, none, 0, 0, none, 0, 0⟩) 70) rfl (fun _ h => h) ?_))))
  refine w_region (zd rfl (op_fieldAddr (off := 0) rfl tF129_0sc) (zd rfl (op_load1 rfl tO5sc (Ent.lab (l := 11) rfl (says_cel 0))) (zd rfl (op_convI64 rfl (by rw [Tryz.underlying5]; rfl) Tryz.underlying3 (by omega)) ?_)))
  refine zm rfl (zd rfl (op_add' rfl rfl (by omega)) ?_)
  refine zd rfl (op_val (v' := .int .i64 ((parN c i : Nat) : Int)) (by rw [hpe]) (op_remN rfl rfl (by omega) (by omega))) ?_
  refine za rfl (wl_nil (st_tn (w_seq (w_region (zm rfl (zm rfl (zd rfl (op_lss rfl rfl) (wl_nil (st_tn (w_cond_d rfl (fun hc76 => ?_) (fun hc76 => ?_)))))))))))
  · -- c76.t
    refine w_region (zm rfl (zd rfl (op_add' rfl rfl (by omega)) ?_))
    refine zd rfl (op_fieldAddr (off := 2) rfl tF70_2sc) (wl_op0 [12] rfl rfl rfl (op_store rfl rfl tZ3sc (by rfl) (by rfl) (by exact Nat.le_of_ble_eq_true rfl)) ?_)
    rintro _ _ ⟨rfl, rfl⟩
    refine wl_nil (st_tn (w_seq (w_seq (Exists.elim (⟨((parN c i : Nat) : Int) + 1, rfl⟩ : ∃ pp : Int, pp = ((parN c i : Nat) : Int) + 1) (fun pp hpp => ?_)))))
    refine w_wk 12 (cel b12 (encSp ⟨idV t k, (i : Int) + 1, pp, 0, 1 + c.clk % 4, kindV c, (svcL.getD (c.svc % 4).toNat .empty), (verL.getD (c.ver % 3).toNat .empty), (actL.getD (c.opn % 3).toNat .empty), s, e, c.fail, none, 0, 0, none, 0, 0⟩) 70) rfl (fun _ h => by rw [hpp]; exact h) ?_
    refine w_region (zd rfl (op_fieldAddr (off := 8) rfl tF129_8sc) (zd rfl (op_load1 rfl tO5sc (Ent.lab (l := 11) rfl (says_cel 8))) (zd rfl (op_remN rfl rfl (by omega) (by omega)) ?_)))
    refine zd rfl (op_val (v' := .int .i64 ((j : Nat) : Int)) (by rw [hjl]) (op_convI64 rfl (by rw [Tryz.underlying5]; rfl) Tryz.underlying3 (by omega))) ?_
    refine za rfl (wl_nil (st_tn (w_seq ?_)))
    by_cases hj : (j : Int) < (i : Int)
    · -- hj True
      have hjl1 : j < l1.length := Nat.lt_trans (Int.ofNat_lt.1 hj) hs1
      refine Exists.elim (getE (l := l1) (i := j) hjl1) (fun y hy => ?_)
      refine w_drawW (fun β => [⟨87, [], [], [], noW (_), false, [], []⟩, ⟨88, [], [], [], noW (_), false, [], []⟩, ⟨89, [0, 1], [], [], noW (_), false, [], []⟩, ⟨90, [2], [], [], noW (_), false, [], []⟩, ⟨91, [], [], [], noW (_), false, [], []⟩, ⟨92, [], [], [], noW (_), false, [], []⟩, ⟨93, [4, 5], [], [], noW (_), false, [], []⟩, ⟨94, [6], [], [], noW (_), false, [], []⟩, ⟨95, [], [], [], noW (_), false, [], []⟩, ⟨96, [], [], [], noW (_), false, [], []⟩, ⟨97, [8, 9], [], [], noW (_), false, [], []⟩, ⟨98, [10], [], [], noW (_), false, [], []⟩, ⟨99, [7, 11], [], [], noW (_), false, [], []⟩, ⟨100, [3, 12], [], [], noW (_), false, [], []⟩]) [] [14, 2, 3] [⟨87, [], [], false, [], []⟩, ⟨88, [], [], false, [], []⟩, ⟨89, [0, 1], [], false, [], []⟩, ⟨90, [2], [], false, [], []⟩, ⟨91, [], [], false, [], []⟩, ⟨92, [], [], false, [], []⟩, ⟨93, [4, 5], [], false, [], []⟩, ⟨94, [6], [], false, [], []⟩, ⟨95, [], [], false, [], []⟩, ⟨96, [], [], false, [], []⟩, ⟨97, [8, 9], [], false, [], []⟩, ⟨98, [10], [], false, [], []⟩, ⟨99, [7, 11], [], false, [], []⟩, ⟨100, [3, 12], [], false, [], []⟩] [[], [], [], [], [], [], [], [], [], [], [], [], [], []] [[], [], [], [], [], [], [], [], [], [], [], [], [], []] tMixsc (fun _ => by rfl) (fun _ => by rfl) (by kernel_rfl) (by kernel_rfl) (by rfl) (by rfl)
          (fun β => ⟨.p rfl (by intro X; exact op_move rfl),
          ⟨.p rfl (by intro X; exact op_move rfl),
          ⟨.p rfl (by intro X; rintro _ _ ⟨rfl, rfl⟩ _ _ ⟨rfl, rfl⟩; exact op_lss rfl rfl),
          ⟨.p rfl (by intro X; rintro _ _ ⟨rfl, rfl⟩; exact op_move rfl),
          ⟨.w rfl rfl rfl (by rintro _ _ ⟨rfl, rfl⟩; first | rfl | (exact congrArg Value.bool (decide_eq_true (by omega))) | (exact congrArg Value.bool (decide_eq_false (by omega))) | (simp; done) | (simp; omega) | (simp [*]; done)) (by intro X; exact op_move rfl),
          ⟨.w rfl rfl rfl (by rintro _ _ ⟨rfl, rfl⟩; first | rfl | (exact congrArg Value.bool (decide_eq_true (by omega))) | (exact congrArg Value.bool (decide_eq_false (by omega))) | (simp; done) | (simp; omega) | (simp [*]; done)) (by intro X; exact op_move rfl),
          ⟨.w rfl rfl rfl (by rintro _ _ ⟨rfl, rfl⟩; first | rfl | (exact congrArg Value.bool (decide_eq_true (by omega))) | (exact congrArg Value.bool (decide_eq_false (by omega))) | (simp; done) | (simp; omega) | (simp [*]; done)) (by intro X; rintro _ _ ⟨rfl, rfl⟩ _ _ ⟨rfl, rfl⟩; exact op_idx rfl rfl tS36sc (Sl.ent (Sl.app (Sl.app h1 _) _)) (by omega)),
          ⟨.w rfl rfl rfl (by rintro _ _ ⟨rfl, rfl⟩; first | rfl | (exact congrArg Value.bool (decide_eq_true (by omega))) | (exact congrArg Value.bool (decide_eq_false (by omega))) | (simp; done) | (simp; omega) | (simp [*]; done)) (by intro X; rintro _ _ ⟨rfl, rfl⟩; exact op_ldx rfl tO3made (Sl.app (Sl.app h1 _) _) hy (by rfl)),
          ⟨.w rfl rfl rfl (by rintro _ _ ⟨rfl, rfl⟩; first | rfl | (exact congrArg Value.bool (decide_eq_true (by omega))) | (exact congrArg Value.bool (decide_eq_false (by omega))) | (simp; done) | (simp; omega) | (simp [*]; done)) (by intro X; exact op_move rfl),
          ⟨.w rfl rfl rfl (by rintro _ _ ⟨rfl, rfl⟩; first | rfl | (exact congrArg Value.bool (decide_eq_true (by omega))) | (exact congrArg Value.bool (decide_eq_false (by omega))) | (simp; done) | (simp; omega) | (simp [*]; done)) (by intro X; exact op_move rfl),
          ⟨.w rfl rfl rfl (by rintro _ _ ⟨rfl, rfl⟩; first | rfl | (exact congrArg Value.bool (decide_eq_true (by omega))) | (exact congrArg Value.bool (decide_eq_false (by omega))) | (simp; done) | (simp; omega) | (simp [*]; done)) (by intro X; rintro _ _ ⟨rfl, rfl⟩ _ _ ⟨rfl, rfl⟩; exact op_idx rfl rfl tS36sc (Sl.ent (Sl.app (Sl.app h1 _) _)) (by omega)),
          ⟨.w rfl rfl rfl (by rintro _ _ ⟨rfl, rfl⟩; first | rfl | (exact congrArg Value.bool (decide_eq_true (by omega))) | (exact congrArg Value.bool (decide_eq_false (by omega))) | (simp; done) | (simp; omega) | (simp [*]; done)) (by intro X; rintro _ _ ⟨rfl, rfl⟩; exact op_ldx rfl tO3made (Sl.app (Sl.app h1 _) _) hs (by rfl)),
          ⟨.w rfl rfl rfl (by rintro _ _ ⟨rfl, rfl⟩; first | rfl | (exact congrArg Value.bool (decide_eq_true (by omega))) | (exact congrArg Value.bool (decide_eq_false (by omega))) | (simp; done) | (simp; omega) | (simp [*]; done)) (by intro X; rintro _ _ ⟨rfl, rfl⟩ _ _ ⟨rfl, rfl⟩; exact op_leq rfl rfl),
          ⟨.p rfl (by intro X; rintro _ _ ⟨rfl, rfl⟩ _ _ ⟨rfl, rfl⟩; exact op_pick_t (by first | rfl | (show some (Value.bool (decide _)) = _; rw [decide_eq_true (by omega)]) | (show some (Value.bool (decide _)) = _; rw [decide_eq_false (by omega)]) | (simp [ev, lk]; done) | (simp [ev, lk]; omega) | (simp [ev, lk, *]; done)) rfl),
          trivial⟩⟩⟩⟩⟩⟩⟩⟩⟩⟩⟩⟩⟩⟩)
          (fun β β' => ⟨fun _ => by rfl, ⟨fun _ => by rfl, ⟨fun _ => by rfl, ⟨fun _ => by rfl, ⟨fun _ => by rfl, ⟨fun _ => by rfl, ⟨fun _ => by rfl, ⟨fun _ => by rfl, ⟨fun _ => by rfl, ⟨fun _ => by rfl, ⟨fun _ => by rfl, ⟨fun _ => by rfl, ⟨fun _ => by rfl, ⟨fun _ => by rfl, trivial⟩⟩⟩⟩⟩⟩⟩⟩⟩⟩⟩⟩⟩⟩) ?_
      intro β
      rintro _ _ ⟨rfl, rfl⟩ _ _ ⟨rfl, rfl⟩ _ _ ⟨rfl, rfl⟩ _ _ ⟨rfl, rfl⟩ _ _ ⟨rfl, rfl⟩ _ _ ⟨rfl, rfl⟩ _ _ ⟨rfl, rfl⟩ _ _ ⟨rfl, rfl⟩ _ _ ⟨rfl, rfl⟩ _ _ ⟨rfl, rfl⟩ _ _ ⟨rfl, rfl⟩ _ _ ⟨rfl, rfl⟩ _ _ ⟨rfl, rfl⟩ _ _ ⟨rfl, rfl⟩
      refine wl_norm (e' := [(10, _), (11, _), (12, _), (14, _), (100, _)]) (.cons rfl (.cons rfl (.cons rfl (.cons rfl (.cons rfl (.nil _)))))) (by dsimp only [cond_false, cond_true, List.nil_append, List.cons_append]) ?_
      refine wl_nil (st_tn (w_cond_d rfl (fun hc100 => ?_) (fun hc100 => ?_)))
      · -- c100.t
        refine w_region (zd rfl (op_fieldAddr (off := 0) rfl tF70_0sc) (zd rfl (op_load1 rfl tO3sc (Ent.lab (l := 12) rfl (says_cel 0))) (zm rfl (zd rfl (op_add' rfl rfl (by omega)) ?_))))
        refine zd rfl (op_build tB132sc rfl rfl) (wl_op [] rfl rfl rfl rfl (op_buildSlice (enc := encRf) (l := [(idV t k, (j : Int) + 1)]) (lab := 106) tL68_1sc rfl rfl (fun _ => rfl) rfl) ?_)
        rintro _ _ ⟨a106, c106, rfl, rfl⟩
        refine zd rfl (op_fieldAddr (off := 13) rfl tF70_13sc) (wl_op0 [12] rfl rfl rfl (op_store rfl rfl tZ68sc (by rfl) (by rfl) (by exact Nat.le_of_ble_eq_true rfl)) ?_)
        rintro _ _ ⟨rfl, rfl⟩
        refine wl_nil (st_tn (w_seq (w_wk 12 (cel b12 (encSp ⟨idV t k, (i : Int) + 1, pp, 0, 1 + c.clk % 4, kindV c, (svcL.getD (c.svc % 4).toNat .empty), (verL.getD (c.ver % 3).toNat .empty), (actL.getD (c.opn % 3).toNat .empty), s, e, c.fail, none, 0, 0, a106, 1, c106⟩) 70) rfl (fun _ h => h) ?_)))
        refine w_region (zd rfl (op_loadA rfl tA129sc (Ent.lab (l := 11) rfl (says_cel 0)) (Nat.le_of_ble_eq_true rfl)) (wl_op [] rfl rfl rfl rfl (op_fn Tryz.func62 rfl rfl rfl (attrs_any (by assumption))) ?_))
        rintro _ _ ⟨a109, b109, c109, rfl, rfl⟩
        refine zd rfl (op_fieldAddr (off := 12) rfl tF70_12sc) (wl_op0 [12] rfl rfl rfl (op_store rfl rfl tZ67sc (by rfl) (by rfl) (by exact Nat.le_of_ble_eq_true rfl)) ?_)
        rintro _ _ ⟨rfl, rfl⟩
        refine wl_nil (st_tn (w_seq (w_wk 12 (cel b12 (encSp ⟨idV t k, (i : Int) + 1, pp, 0, 1 + c.clk % 4, kindV c, (svcL.getD (c.svc % 4).toNat .empty), (verL.getD (c.ver % 3).toNat .empty), (actL.getD (c.opn % 3).toNat .empty), s, e, c.fail, a109, b109, c109, a106, 1, c106⟩) 70) rfl (fun _ h => h) ?_)))
        refine w_region (zd rfl (op_loadA rfl tA70sc (Ent.lab (l := 12) rfl (says_cel 0)) (Nat.le_of_ble_eq_true rfl)) (wl_op0 [10] rfl rfl rfl (op_store rfl rfl tZ70sc (by rfl) (by rfl) (by exact Nat.le_of_ble_eq_true rfl)) ?_))
        rintro _ _ ⟨rfl, rfl⟩
        refine wl_nil (st_tn (w_ret (st_ret (vs := [_]) [] Tryz.results42 ⟨⟨_, rfl, Ent.mono (Ent.lab (l := 10) rfl (says_cel 0)) (fun _ h => run_load_agg tA70sc h (Nat.le_of_ble_eq_true rfl))⟩, trivial⟩ rfl ?_)))
        refine ⟨_, rfl, ?_⟩
        exact ⟨⟨idV t k, (i : Int) + 1, pp, 0, 1 + c.clk % 4, kindV c, (svcL.getD (c.svc % 4).toNat .empty), (verL.getD (c.ver % 3).toNat .empty), (actL.getD (c.opn % 3).toNat .empty), s, e, c.fail, a109, b109, c109, a106, 1, c106⟩, rfl, rfl, ⟨rfl, rfl, rfl, rfl, rfl, rfl⟩⟩
      · -- c100.f
        refine w_skip (st_tn (w_seq (w_region (zd rfl (op_loadA rfl tA129sc (Ent.lab (l := 11) rfl (says_cel 0)) (Nat.le_of_ble_eq_true rfl)) (wl_op [] rfl rfl rfl rfl (op_fn Tryz.func62 rfl rfl rfl (attrs_any (by assumption))) ?_)))))
        rintro _ _ ⟨a109, b109, c109, rfl, rfl⟩
        refine zd rfl (op_fieldAddr (off := 12) rfl tF70_12sc) (wl_op0 [12] rfl rfl rfl (op_store rfl rfl tZ67sc (by rfl) (by rfl) (by exact Nat.le_of_ble_eq_true rfl)) ?_)
        rintro _ _ ⟨rfl, rfl⟩
        refine wl_nil (st_tn (w_seq (w_wk 12 (cel b12 (encSp ⟨idV t k, (i : Int) + 1, pp, 0, 1 + c.clk % 4, kindV c, (svcL.getD (c.svc % 4).toNat .empty), (verL.getD (c.ver % 3).toNat .empty), (actL.getD (c.opn % 3).toNat .empty), s, e, c.fail, a109, b109, c109, none, 0, 0⟩) 70) rfl (fun _ h => h) ?_)))
        refine w_region (zd rfl (op_loadA rfl tA70sc (Ent.lab (l := 12) rfl (says_cel 0)) (Nat.le_of_ble_eq_true rfl)) (wl_op0 [10] rfl rfl rfl (op_store rfl rfl tZ70sc (by rfl) (by rfl) (by exact Nat.le_of_ble_eq_true rfl)) ?_))
        rintro _ _ ⟨rfl, rfl⟩
        refine wl_nil (st_tn (w_ret (st_ret (vs := [_]) [] Tryz.results42 ⟨⟨_, rfl, Ent.mono (Ent.lab (l := 10) rfl (says_cel 0)) (fun _ h => run_load_agg tA70sc h (Nat.le_of_ble_eq_true rfl))⟩, trivial⟩ rfl ?_)))
        refine ⟨_, rfl, ?_⟩
        exact ⟨⟨idV t k, (i : Int) + 1, pp, 0, 1 + c.clk % 4, kindV c, (svcL.getD (c.svc % 4).toNat .empty), (verL.getD (c.ver % 3).toNat .empty), (actL.getD (c.opn % 3).toNat .empty), s, e, c.fail, a109, b109, c109, none, 0, 0⟩, rfl, rfl, ⟨rfl, rfl, rfl, rfl, rfl, rfl⟩⟩
    · -- hj False
      refine w_drawW (fun β => [⟨87, [], [], [], noW (_), false, [], []⟩, ⟨88, [], [], [], noW (_), false, [], []⟩, ⟨89, [0, 1], [], [], noW (_), false, [], []⟩, ⟨90, [2], [], [], noW (_), false, [], []⟩, ⟨91, [], [], [], noW (Det undef), false, [], []⟩, ⟨92, [], [], [], noW (Det undef), false, [], []⟩, ⟨93, [], [], [], noW (Det undef), false, [], []⟩, ⟨94, [], [], [], noW (Det undef), false, [], []⟩, ⟨95, [], [], [], noW (Det undef), false, [], []⟩, ⟨96, [], [], [], noW (Det undef), false, [], []⟩, ⟨97, [], [], [], noW (Det undef), false, [], []⟩, ⟨98, [], [], [], noW (Det undef), false, [], []⟩, ⟨99, [], [], [], noW (Det undef), false, [], []⟩, ⟨100, [3, 12], [], [], noW (_), false, [], []⟩]) [] [14, 2, 3] [⟨87, [], [], false, [], []⟩, ⟨88, [], [], false, [], []⟩, ⟨89, [0, 1], [], false, [], []⟩, ⟨90, [2], [], false, [], []⟩, ⟨91, [], [], false, [], []⟩, ⟨92, [], [], false, [], []⟩, ⟨93, [], [], false, [], []⟩, ⟨94, [], [], false, [], []⟩, ⟨95, [], [], false, [], []⟩, ⟨96, [], [], false, [], []⟩, ⟨97, [], [], false, [], []⟩, ⟨98, [], [], false, [], []⟩, ⟨99, [], [], false, [], []⟩, ⟨100, [3, 12], [], false, [], []⟩] [[], [], [], [], [], [], [], [], [], [], [], [], [], []] [[], [], [], [], [], [], [], [], [], [], [], [], [], []] tMixsc (fun _ => by rfl) (fun _ => by rfl) (by kernel_rfl) (by kernel_rfl) (by rfl) (by rfl)
          (fun β => ⟨.p rfl (by intro X; exact op_move rfl),
          ⟨.p rfl (by intro X; exact op_move rfl),
          ⟨.p rfl (by intro X; rintro _ _ ⟨rfl, rfl⟩ _ _ ⟨rfl, rfl⟩; exact op_lss rfl rfl),
          ⟨.p rfl (by intro X; rintro _ _ ⟨rfl, rfl⟩; exact op_move rfl),
          ⟨.u rfl rfl rfl (by rintro _ _ ⟨rfl, rfl⟩; exact congrArg (offB true) (by first | rfl | (exact congrArg Value.bool (decide_eq_true (by omega))) | (exact congrArg Value.bool (decide_eq_false (by omega))) | (simp; done) | (simp; omega) | (simp [*]; done) : _ = Value.bool false)) ⟨rfl, rfl⟩ rfl rfl,
          ⟨.u rfl rfl rfl (by rintro _ _ ⟨rfl, rfl⟩; exact congrArg (offB true) (by first | rfl | (exact congrArg Value.bool (decide_eq_true (by omega))) | (exact congrArg Value.bool (decide_eq_false (by omega))) | (simp; done) | (simp; omega) | (simp [*]; done) : _ = Value.bool false)) ⟨rfl, rfl⟩ rfl rfl,
          ⟨.u rfl rfl rfl (by rintro _ _ ⟨rfl, rfl⟩; exact congrArg (offB true) (by first | rfl | (exact congrArg Value.bool (decide_eq_true (by omega))) | (exact congrArg Value.bool (decide_eq_false (by omega))) | (simp; done) | (simp; omega) | (simp [*]; done) : _ = Value.bool false)) ⟨rfl, rfl⟩ rfl rfl,
          ⟨.u rfl rfl rfl (by rintro _ _ ⟨rfl, rfl⟩; exact congrArg (offB true) (by first | rfl | (exact congrArg Value.bool (decide_eq_true (by omega))) | (exact congrArg Value.bool (decide_eq_false (by omega))) | (simp; done) | (simp; omega) | (simp [*]; done) : _ = Value.bool false)) ⟨rfl, rfl⟩ rfl rfl,
          ⟨.u rfl rfl rfl (by rintro _ _ ⟨rfl, rfl⟩; exact congrArg (offB true) (by first | rfl | (exact congrArg Value.bool (decide_eq_true (by omega))) | (exact congrArg Value.bool (decide_eq_false (by omega))) | (simp; done) | (simp; omega) | (simp [*]; done) : _ = Value.bool false)) ⟨rfl, rfl⟩ rfl rfl,
          ⟨.u rfl rfl rfl (by rintro _ _ ⟨rfl, rfl⟩; exact congrArg (offB true) (by first | rfl | (exact congrArg Value.bool (decide_eq_true (by omega))) | (exact congrArg Value.bool (decide_eq_false (by omega))) | (simp; done) | (simp; omega) | (simp [*]; done) : _ = Value.bool false)) ⟨rfl, rfl⟩ rfl rfl,
          ⟨.u rfl rfl rfl (by rintro _ _ ⟨rfl, rfl⟩; exact congrArg (offB true) (by first | rfl | (exact congrArg Value.bool (decide_eq_true (by omega))) | (exact congrArg Value.bool (decide_eq_false (by omega))) | (simp; done) | (simp; omega) | (simp [*]; done) : _ = Value.bool false)) ⟨rfl, rfl⟩ rfl rfl,
          ⟨.u rfl rfl rfl (by rintro _ _ ⟨rfl, rfl⟩; exact congrArg (offB true) (by first | rfl | (exact congrArg Value.bool (decide_eq_true (by omega))) | (exact congrArg Value.bool (decide_eq_false (by omega))) | (simp; done) | (simp; omega) | (simp [*]; done) : _ = Value.bool false)) ⟨rfl, rfl⟩ rfl rfl,
          ⟨.u rfl rfl rfl (by rintro _ _ ⟨rfl, rfl⟩; exact congrArg (offB true) (by first | rfl | (exact congrArg Value.bool (decide_eq_true (by omega))) | (exact congrArg Value.bool (decide_eq_false (by omega))) | (simp; done) | (simp; omega) | (simp [*]; done) : _ = Value.bool false)) ⟨rfl, rfl⟩ rfl rfl,
          ⟨.p rfl (by intro X; rintro _ _ ⟨rfl, rfl⟩ _ _ ⟨rfl, rfl⟩; exact op_pick_f (by first | rfl | (show some (Value.bool (decide _)) = _; rw [decide_eq_true (by omega)]) | (show some (Value.bool (decide _)) = _; rw [decide_eq_false (by omega)]) | (simp [ev, lk]; done) | (simp [ev, lk]; omega) | (simp [ev, lk, *]; done)) rfl),
          trivial⟩⟩⟩⟩⟩⟩⟩⟩⟩⟩⟩⟩⟩⟩)
          (fun β β' => ⟨fun _ => by rfl, ⟨fun _ => by rfl, ⟨fun _ => by rfl, ⟨fun _ => by rfl, ⟨fun _ => by rfl, ⟨fun _ => by rfl, ⟨fun _ => by rfl, ⟨fun _ => by rfl, ⟨fun _ => by rfl, ⟨fun _ => by rfl, ⟨fun _ => by rfl, ⟨fun _ => by rfl, ⟨fun _ => by rfl, ⟨fun _ => by rfl, trivial⟩⟩⟩⟩⟩⟩⟩⟩⟩⟩⟩⟩⟩⟩) ?_
      intro β
      rintro _ _ ⟨rfl, rfl⟩ _ _ ⟨rfl, rfl⟩ _ _ ⟨rfl, rfl⟩ _ _ ⟨rfl, rfl⟩ _ _ ⟨rfl, rfl⟩ _ _ ⟨rfl, rfl⟩ _ _ ⟨rfl, rfl⟩ _ _ ⟨rfl, rfl⟩ _ _ ⟨rfl, rfl⟩ _ _ ⟨rfl, rfl⟩ _ _ ⟨rfl, rfl⟩ _ _ ⟨rfl, rfl⟩ _ _ ⟨rfl, rfl⟩ _ _ ⟨rfl, rfl⟩
      refine wl_norm (e' := [(10, _), (11, _), (12, _), (14, _), (100, _)]) (.cons rfl (.cons rfl (.cons rfl (.cons rfl (.cons rfl (.nil _)))))) (by dsimp only [cond_false, cond_true, List.nil_append, List.cons_append]) ?_
      refine wl_nil (st_tn (w_cond_f (rfl) ?_))
      refine w_skip (st_tn (w_seq (w_region (zd rfl (op_loadA rfl tA129sc (Ent.lab (l := 11) rfl (says_cel 0)) (Nat.le_of_ble_eq_true rfl)) (wl_op [] rfl rfl rfl rfl (op_fn Tryz.func62 rfl rfl rfl (attrs_any (by assumption))) ?_)))))
      rintro _ _ ⟨a109, b109, c109, rfl, rfl⟩
      refine zd rfl (op_fieldAddr (off := 12) rfl tF70_12sc) (wl_op0 [12] rfl rfl rfl (op_store rfl rfl tZ67sc (by rfl) (by rfl) (by exact Nat.le_of_ble_eq_true rfl)) ?_)
      rintro _ _ ⟨rfl, rfl⟩
      refine wl_nil (st_tn (w_seq (w_wk 12 (cel b12 (encSp ⟨idV t k, (i : Int) + 1, pp, 0, 1 + c.clk % 4, kindV c, (svcL.getD (c.svc % 4).toNat .empty), (verL.getD (c.ver % 3).toNat .empty), (actL.getD (c.opn % 3).toNat .empty), s, e, c.fail, a109, b109, c109, none, 0, 0⟩) 70) rfl (fun _ h => h) ?_)))
      refine w_region (zd rfl (op_loadA rfl tA70sc (Ent.lab (l := 12) rfl (says_cel 0)) (Nat.le_of_ble_eq_true rfl)) (wl_op0 [10] rfl rfl rfl (op_store rfl rfl tZ70sc (by rfl) (by rfl) (by exact Nat.le_of_ble_eq_true rfl)) ?_))
      rintro _ _ ⟨rfl, rfl⟩
      refine wl_nil (st_tn (w_ret (st_ret (vs := [_]) [] Tryz.results42 ⟨⟨_, rfl, Ent.mono (Ent.lab (l := 10) rfl (says_cel 0)) (fun _ h => run_load_agg tA70sc h (Nat.le_of_ble_eq_true rfl))⟩, trivial⟩ rfl ?_)))
      refine ⟨_, rfl, ?_⟩
      exact ⟨⟨idV t k, (i : Int) + 1, pp, 0, 1 + c.clk % 4, kindV c, (svcL.getD (c.svc % 4).toNat .empty), (verL.getD (c.ver % 3).toNat .empty), (actL.getD (c.opn % 3).toNat .empty), s, e, c.fail, a109, b109, c109, none, 0, 0⟩, rfl, rfl, ⟨rfl, rfl, rfl, rfl, rfl, rfl⟩⟩
  · -- c76.f
    refine w_seq (w_region (zm rfl (zd rfl (op_gtr rfl rfl) (wl_nil (st_tn (w_cond_d rfl (fun hc81 => ?_) (fun hc81 => ?_)))))))
    · -- c81.t
      refine w_region (zd rfl (op_fieldAddr (off := 2) rfl tF70_2sc) (wl_op0 [12] rfl rfl rfl (op_store rfl rfl tZ3sc (by rfl) (by rfl) (by exact Nat.le_of_ble_eq_true rfl)) ?_))
      rintro _ _ ⟨rfl, rfl⟩
      refine wl_nil (st_tn (w_seq (w_seq (Exists.elim (⟨100, rfl⟩ : ∃ pp : Int, pp = 100) (fun pp hpp => ?_)))))
      refine w_wk 12 (cel b12 (encSp ⟨idV t k, (i : Int) + 1, pp, 0, 1 + c.clk % 4, kindV c, (svcL.getD (c.svc % 4).toNat .empty), (verL.getD (c.ver % 3).toNat .empty), (actL.getD (c.opn % 3).toNat .empty), s, e, c.fail, none, 0, 0, none, 0, 0⟩) 70) rfl (fun _ h => by rw [hpp]; exact h) ?_
      refine w_region (zd rfl (op_fieldAddr (off := 8) rfl tF129_8sc) (zd rfl (op_load1 rfl tO5sc (Ent.lab (l := 11) rfl (says_cel 8))) (zd rfl (op_remN rfl rfl (by omega) (by omega)) ?_)))
      refine zd rfl (op_val (v' := .int .i64 ((j : Nat) : Int)) (by rw [hjl]) (op_convI64 rfl (by rw [Tryz.underlying5]; rfl) Tryz.underlying3 (by omega))) ?_
      refine za rfl (wl_nil (st_tn (w_seq ?_)))
      by_cases hj : (j : Int) < (i : Int)
      · -- hj True
        have hjl1 : j < l1.length := Nat.lt_trans (Int.ofNat_lt.1 hj) hs1
        refine Exists.elim (getE (l := l1) (i := j) hjl1) (fun y hy => ?_)
        refine w_drawW (fun β => [⟨87, [], [], [], noW (_), false, [], []⟩, ⟨88, [], [], [], noW (_), false, [], []⟩, ⟨89, [0, 1], [], [], noW (_), false, [], []⟩, ⟨90, [2], [], [], noW (_), false, [], []⟩, ⟨91, [], [], [], noW (_), false, [], []⟩, ⟨92, [], [], [], noW (_), false, [], []⟩, ⟨93, [4, 5], [], [], noW (_), false, [], []⟩, ⟨94, [6], [], [], noW (_), false, [], []⟩, ⟨95, [], [], [], noW (_), false, [], []⟩, ⟨96, [], [], [], noW (_), false, [], []⟩, ⟨97, [8, 9], [], [], noW (_), false, [], []⟩, ⟨98, [10], [], [], noW (_), false, [], []⟩, ⟨99, [7, 11], [], [], noW (_), false, [], []⟩, ⟨100, [3, 12], [], [], noW (_), false, [], []⟩]) [] [14, 2, 3] [⟨87, [], [], false, [], []⟩, ⟨88, [], [], false, [], []⟩, ⟨89, [0, 1], [], false, [], []⟩, ⟨90, [2], [], false, [], []⟩, ⟨91, [], [], false, [], []⟩, ⟨92, [], [], false, [], []⟩, ⟨93, [4, 5], [], false, [], []⟩, ⟨94, [6], [], false, [], []⟩, ⟨95, [], [], false, [], []⟩, ⟨96, [], [], false, [], []⟩, ⟨97, [8, 9], [], false, [], []⟩, ⟨98, [10], [], false, [], []⟩, ⟨99, [7, 11], [], false, [], []⟩, ⟨100, [3, 12], [], false, [], []⟩] [[], [], [], [], [], [], [], [], [], [], [], [], [], []] [[], [], [], [], [], [], [], [], [], [], [], [], [], []] tMixsc (fun _ => by rfl) (fun _ => by rfl) (by kernel_rfl) (by kernel_rfl) (by rfl) (by rfl)
            (fun β => ⟨.p rfl (by intro X; exact op_move rfl),
            ⟨.p rfl (by intro X; exact op_move rfl),
            ⟨.p rfl (by intro X; rintro _ _ ⟨rfl, rfl⟩ _ _ ⟨rfl, rfl⟩; exact op_lss rfl rfl),
            ⟨.p rfl (by intro X; rintro _ _ ⟨rfl, rfl⟩; exact op_move rfl),
            ⟨.w rfl rfl rfl (by rintro _ _ ⟨rfl, rfl⟩; first | rfl | (exact congrArg Value.bool (decide_eq_true (by omega))) | (exact congrArg Value.bool (decide_eq_false (by omega))) | (simp; done) | (simp; omega) | (simp [*]; done)) (by intro X; exact op_move rfl),
            ⟨.w rfl rfl rfl (by rintro _ _ ⟨rfl, rfl⟩; first | rfl | (exact congrArg Value.bool (decide_eq_true (by omega))) | (exact congrArg Value.bool (decide_eq_false (by omega))) | (simp; done) | (simp; omega) | (simp [*]; done)) (by intro X; exact op_move rfl),
            ⟨.w rfl rfl rfl (by rintro _ _ ⟨rfl, rfl⟩; first | rfl | (exact congrArg Value.bool (decide_eq_true (by omega))) | (exact congrArg Value.bool (decide_eq_false (by omega))) | (simp; done) | (simp; omega) | (simp [*]; done)) (by intro X; rintro _ _ ⟨rfl, rfl⟩ _ _ ⟨rfl, rfl⟩; exact op_idx rfl rfl tS36sc (Sl.ent (Sl.app (Sl.app h1 _) _)) (by omega)),
            ⟨.w rfl rfl rfl (by rintro _ _ ⟨rfl, rfl⟩; first | rfl | (exact congrArg Value.bool (decide_eq_true (by omega))) | (exact congrArg Value.bool (decide_eq_false (by omega))) | (simp; done) | (simp; omega) | (simp [*]; done)) (by intro X; rintro _ _ ⟨rfl, rfl⟩; exact op_ldx rfl tO3made (Sl.app (Sl.app h1 _) _) hy (by rfl)),
            ⟨.w rfl rfl rfl (by rintro _ _ ⟨rfl, rfl⟩; first | rfl | (exact congrArg Value.bool (decide_eq_true (by omega))) | (exact congrArg Value.bool (decide_eq_false (by omega))) | (simp; done) | (simp; omega) | (simp [*]; done)) (by intro X; exact op_move rfl),
            ⟨.w rfl rfl rfl (by rintro _ _ ⟨rfl, rfl⟩; first | rfl | (exact congrArg Value.bool (decide_eq_true (by omega))) | (exact congrArg Value.bool (decide_eq_false (by omega))) | (simp; done) | (simp; omega) | (simp [*]; done)) (by intro X; exact op_move rfl),
            ⟨.w rfl rfl rfl (by rintro _ _ ⟨rfl, rfl⟩; first | rfl | (exact congrArg Value.bool (decide_eq_true (by omega))) | (exact congrArg Value.bool (decide_eq_false (by omega))) | (simp; done) | (simp; omega) | (simp [*]; done)) (by intro X; rintro _ _ ⟨rfl, rfl⟩ _ _ ⟨rfl, rfl⟩; exact op_idx rfl rfl tS36sc (Sl.ent (Sl.app (Sl.app h1 _) _)) (by omega)),
            ⟨.w rfl rfl rfl (by rintro _ _ ⟨rfl, rfl⟩; first | rfl | (exact congrArg Value.bool (decide_eq_true (by omega))) | (exact congrArg Value.bool (decide_eq_false (by omega))) | (simp; done) | (simp; omega) | (simp [*]; done)) (by intro X; rintro _ _ ⟨rfl, rfl⟩; exact op_ldx rfl tO3made (Sl.app (Sl.app h1 _) _) hs (by rfl)),
            ⟨.w rfl rfl rfl (by rintro _ _ ⟨rfl, rfl⟩; first | rfl | (exact congrArg Value.bool (decide_eq_true (by omega))) | (exact congrArg Value.bool (decide_eq_false (by omega))) | (simp; done) | (simp; omega) | (simp [*]; done)) (by intro X; rintro _ _ ⟨rfl, rfl⟩ _ _ ⟨rfl, rfl⟩; exact op_leq rfl rfl),
            ⟨.p rfl (by intro X; rintro _ _ ⟨rfl, rfl⟩ _ _ ⟨rfl, rfl⟩; exact op_pick_t (by first | rfl | (show some (Value.bool (decide _)) = _; rw [decide_eq_true (by omega)]) | (show some (Value.bool (decide _)) = _; rw [decide_eq_false (by omega)]) | (simp [ev, lk]; done) | (simp [ev, lk]; omega) | (simp [ev, lk, *]; done)) rfl),
            trivial⟩⟩⟩⟩⟩⟩⟩⟩⟩⟩⟩⟩⟩⟩)
            (fun β β' => ⟨fun _ => by rfl, ⟨fun _ => by rfl, ⟨fun _ => by rfl, ⟨fun _ => by rfl, ⟨fun _ => by rfl, ⟨fun _ => by rfl, ⟨fun _ => by rfl, ⟨fun _ => by rfl, ⟨fun _ => by rfl, ⟨fun _ => by rfl, ⟨fun _ => by rfl, ⟨fun _ => by rfl, ⟨fun _ => by rfl, ⟨fun _ => by rfl, trivial⟩⟩⟩⟩⟩⟩⟩⟩⟩⟩⟩⟩⟩⟩) ?_
        intro β
        rintro _ _ ⟨rfl, rfl⟩ _ _ ⟨rfl, rfl⟩ _ _ ⟨rfl, rfl⟩ _ _ ⟨rfl, rfl⟩ _ _ ⟨rfl, rfl⟩ _ _ ⟨rfl, rfl⟩ _ _ ⟨rfl, rfl⟩ _ _ ⟨rfl, rfl⟩ _ _ ⟨rfl, rfl⟩ _ _ ⟨rfl, rfl⟩ _ _ ⟨rfl, rfl⟩ _ _ ⟨rfl, rfl⟩ _ _ ⟨rfl, rfl⟩ _ _ ⟨rfl, rfl⟩
        refine wl_norm (e' := [(10, _), (11, _), (12, _), (14, _), (100, _)]) (.cons rfl (.cons rfl (.cons rfl (.cons rfl (.cons rfl (.nil _)))))) (by dsimp only [cond_false, cond_true, List.nil_append, List.cons_append]) ?_
        refine wl_nil (st_tn (w_cond_d rfl (fun hc100 => ?_) (fun hc100 => ?_)))
        · -- c100.t
          refine w_region (zd rfl (op_fieldAddr (off := 0) rfl tF70_0sc) (zd rfl (op_load1 rfl tO3sc (Ent.lab (l := 12) rfl (says_cel 0))) (zm rfl (zd rfl (op_add' rfl rfl (by omega)) ?_))))
          refine zd rfl (op_build tB132sc rfl rfl) (wl_op [] rfl rfl rfl rfl (op_buildSlice (enc := encRf) (l := [(idV t k, (j : Int) + 1)]) (lab := 106) tL68_1sc rfl rfl (fun _ => rfl) rfl) ?_)
          rintro _ _ ⟨a106, c106, rfl, rfl⟩
          refine zd rfl (op_fieldAddr (off := 13) rfl tF70_13sc) (wl_op0 [12] rfl rfl rfl (op_store rfl rfl tZ68sc (by rfl) (by rfl) (by exact Nat.le_of_ble_eq_true rfl)) ?_)
          rintro _ _ ⟨rfl, rfl⟩
          refine wl_nil (st_tn (w_seq (w_wk 12 (cel b12 (encSp ⟨idV t k, (i : Int) + 1, pp, 0, 1 + c.clk % 4, kindV c, (svcL.getD (c.svc % 4).toNat .empty), (verL.getD (c.ver % 3).toNat .empty), (actL.getD (c.opn % 3).toNat .empty), s, e, c.fail, none, 0, 0, a106, 1, c106⟩) 70) rfl (fun _ h => h) ?_)))
          refine w_region (zd rfl (op_loadA rfl tA129sc (Ent.lab (l := 11) rfl (says_cel 0)) (Nat.le_of_ble_eq_true rfl)) (wl_op [] rfl rfl rfl rfl (op_fn Tryz.func62 rfl rfl rfl (attrs_any (by assumption))) ?_))
          rintro _ _ ⟨a109, b109, c109, rfl, rfl⟩
          refine zd rfl (op_fieldAddr (off := 12) rfl tF70_12sc) (wl_op0 [12] rfl rfl rfl (op_store rfl rfl tZ67sc (by rfl) (by rfl) (by exact Nat.le_of_ble_eq_true rfl)) ?_)
          rintro _ _ ⟨rfl, rfl⟩
          refine wl_nil (st_tn (w_seq (w_wk 12 (cel b12 (encSp ⟨idV t k, (i : Int) + 1, pp, 0, 1 + c.clk % 4, kindV c, (svcL.getD (c.svc % 4).toNat .empty), (verL.getD (c.ver % 3).toNat .empty), (actL.getD (c.opn % 3).toNat .empty), s, e, c.fail, a109, b109, c109, a106, 1, c106⟩) 70) rfl (fun _ h => h) ?_)))
          refine w_region (zd rfl (op_loadA rfl tA70sc (Ent.lab (l := 12) rfl (says_cel 0)) (Nat.le_of_ble_eq_true rfl)) (wl_op0 [10] rfl rfl rfl (op_store rfl rfl tZ70sc (by rfl) (by rfl) (by exact Nat.le_of_ble_eq_true rfl)) ?_))
          rintro _ _ ⟨rfl, rfl⟩
          refine wl_nil (st_tn (w_ret (st_ret (vs := [_]) [] Tryz.results42 ⟨⟨_, rfl, Ent.mono (Ent.lab (l := 10) rfl (says_cel 0)) (fun _ h => run_load_agg tA70sc h (Nat.le_of_ble_eq_true rfl))⟩, trivial⟩ rfl ?_)))
          refine ⟨_, rfl, ?_⟩
          exact ⟨⟨idV t k, (i : Int) + 1, pp, 0, 1 + c.clk % 4, kindV c, (svcL.getD (c.svc % 4).toNat .empty), (verL.getD (c.ver % 3).toNat .empty), (actL.getD (c.opn % 3).toNat .empty), s, e, c.fail, a109, b109, c109, a106, 1, c106⟩, rfl, rfl, ⟨rfl, rfl, rfl, rfl, rfl, rfl⟩⟩
        · -- c100.f
          refine w_skip (st_tn (w_seq (w_region (zd rfl (op_loadA rfl tA129sc (Ent.lab (l := 11) rfl (says_cel 0)) (Nat.le_of_ble_eq_true rfl)) (wl_op [] rfl rfl rfl rfl (op_fn Tryz.func62 rfl rfl rfl (attrs_any (by assumption))) ?_)))))
          rintro _ _ ⟨a109, b109, c109, rfl, rfl⟩
          refine zd rfl (op_fieldAddr (off := 12) rfl tF70_12sc) (wl_op0 [12] rfl rfl rfl (op_store rfl rfl tZ67sc (by rfl) (by rfl) (by exact Nat.le_of_ble_eq_true rfl)) ?_)
          rintro _ _ ⟨rfl, rfl⟩
          refine wl_nil (st_tn (w_seq (w_wk 12 (cel b12 (encSp ⟨idV t k, (i : Int) + 1, pp, 0, 1 + c.clk % 4, kindV c, (svcL.getD (c.svc % 4).toNat .empty), (verL.getD (c.ver % 3).toNat .empty), (actL.getD (c.opn % 3).toNat .empty), s, e, c.fail, a109, b109, c109, none, 0, 0⟩) 70) rfl (fun _ h => h) ?_)))
          refine w_region (zd rfl (op_loadA rfl tA70sc (Ent.lab (l := 12) rfl (says_cel 0)) (Nat.le_of_ble_eq_true rfl)) (wl_op0 [10] rfl rfl rfl (op_store rfl rfl tZ70sc (by rfl) (by rfl) (by exact Nat.le_of_ble_eq_true rfl)) ?_))
          rintro _ _ ⟨rfl, rfl⟩
          refine wl_nil (st_tn (w_ret (st_ret (vs := [_]) [] Tryz.results42 ⟨⟨_, rfl, Ent.mono (Ent.lab (l := 10) rfl (says_cel 0)) (fun _ h => run_load_agg tA70sc h (Nat.le_of_ble_eq_true rfl))⟩, trivial⟩ rfl ?_)))
          refine ⟨_, rfl, ?_⟩
          exact ⟨⟨idV t k, (i : Int) + 1, pp, 0, 1 + c.clk % 4, kindV c, (svcL.getD (c.svc % 4).toNat .empty), (verL.getD (c.ver % 3).toNat .empty), (actL.getD (c.opn % 3).toNat .empty), s, e, c.fail, a109, b109, c109, none, 0, 0⟩, rfl, rfl, ⟨rfl, rfl, rfl, rfl, rfl, rfl⟩⟩
      · -- hj False
        refine w_drawW (fun β => [⟨87, [], [], [], noW (_), false, [], []⟩, ⟨88, [], [], [], noW (_), false, [], []⟩, ⟨89, [0, 1], [], [], noW (_), false, [], []⟩, ⟨90, [2], [], [], noW (_), false, [], []⟩, ⟨91, [], [], [], noW (Det undef), false, [], []⟩, ⟨92, [], [], [], noW (Det undef), false, [], []⟩, ⟨93, [], [], [], noW (Det undef), false, [], []⟩, ⟨94, [], [], [], noW (Det undef), false, [], []⟩, ⟨95, [], [], [], noW (Det undef), false, [], []⟩, ⟨96, [], [], [], noW (Det undef), false, [], []⟩, ⟨97, [], [], [], noW (Det undef), false, [], []⟩, ⟨98, [], [], [], noW (Det undef), false, [], []⟩, ⟨99, [], [], [], noW (Det undef), false, [], []⟩, ⟨100, [3, 12], [], [], noW (_), false, [], []⟩]) [] [14, 2, 3] [⟨87, [], [], false, [], []⟩, ⟨88, [], [], false, [], []⟩, ⟨89, [0, 1], [], false, [], []⟩, ⟨90, [2], [], false, [], []⟩, ⟨91, [], [], false, [], []⟩, ⟨92, [], [], false, [], []⟩, ⟨93, [], [], false, [], []⟩, ⟨94, [], [], false, [], []⟩, ⟨95, [], [], false, [], []⟩, ⟨96, [], [], false, [], []⟩, ⟨97, [], [], false, [], []⟩, ⟨98, [], [], false, [], []⟩, ⟨99, [], [], false, [], []⟩, ⟨100, [3, 12], [], false, [], []⟩] [[], [], [], [], [], [], [], [], [], [], [], [], [], []] [[], [], [], [], [], [], [], [], [], [], [], [], [], []] tMixsc (fun _ => by rfl) (fun _ => by rfl) (by kernel_rfl) (by kernel_rfl) (by rfl) (by rfl)
            (fun β => ⟨.p rfl (by intro X; exact op_move rfl),
            ⟨.p rfl (by intro X; exact op_move rfl),
            ⟨.p rfl (by intro X; rintro _ _ ⟨rfl, rfl⟩ _ _ ⟨rfl, rfl⟩; exact op_lss rfl rfl),
            ⟨.p rfl (by intro X; rintro _ _ ⟨rfl, rfl⟩; exact op_move rfl),
            ⟨.u rfl rfl rfl (by rintro _ _ ⟨rfl, rfl⟩; exact congrArg (offB true) (by first | rfl | (exact congrArg Value.bool (decide_eq_true (by omega))) | (exact congrArg Value.bool (decide_eq_false (by omega))) | (simp; done) | (simp; omega) | (simp [*]; done) : _ = Value.bool false)) ⟨rfl, rfl⟩ rfl rfl,
            ⟨.u rfl rfl rfl (by rintro _ _ ⟨rfl, rfl⟩; exact congrArg (offB true) (by first | rfl | (exact congrArg Value.bool (decide_eq_true (by omega))) | (exact congrArg Value.bool (decide_eq_false (by omega))) | (simp; done) | (simp; omega) | (simp [*]; done) : _ = Value.bool false)) ⟨rfl, rfl⟩ rfl rfl,
            ⟨.u rfl rfl rfl (by rintro _ _ ⟨rfl, rfl⟩; exact congrArg (offB true) (by first | rfl | (exact congrArg Value.bool (decide_eq_true (by omega))) | (exact congrArg Value.bool (decide_eq_false (by omega))) | (simp; done) | (simp; omega) | (simp [*]; done) : _ = Value.bool false)) ⟨rfl, rfl⟩ rfl rfl,
            ⟨.u rfl rfl rfl (by rintro _ _ ⟨rfl, rfl⟩; exact congrArg (offB true) (by first | rfl | (exact congrArg Value.bool (decide_eq_true (by omega))) | (exact congrArg Value.bool (decide_eq_false (by omega))) | (simp; done) | (simp; omega) | (simp [*]; done) : _ = Value.bool false)) ⟨rfl, rfl⟩ rfl rfl,
            ⟨.u rfl rfl rfl (by rintro _ _ ⟨rfl, rfl⟩; exact congrArg (offB true) (by first | rfl | (exact congrArg Value.bool (decide_eq_true (by omega))) | (exact congrArg Value.bool (decide_eq_false (by omega))) | (simp; done) | (simp; omega) | (simp [*]; done) : _ = Value.bool false)) ⟨rfl, rfl⟩ rfl rfl,
            ⟨.u rfl rfl rfl (by rintro _ _ ⟨rfl, rfl⟩; exact congrArg (offB true) (by first | rfl | (exact congrArg Value.bool (decide_eq_true (by omega))) | (exact congrArg Value.bool (decide_eq_false (by omega))) | (simp; done) | (simp; omega) | (simp [*]; done) : _ = Value.bool false)) ⟨rfl, rfl⟩ rfl rfl,
            ⟨.u rfl rfl rfl (by rintro _ _ ⟨rfl, rfl⟩; exact congrArg (offB true) (by first | rfl | (exact congrArg Value.bool (decide_eq_true (by omega))) | (exact congrArg Value.bool (decide_eq_false (by omega))) | (simp; done) | (simp; omega) | (simp [*]; done) : _ = Value.bool false)) ⟨rfl, rfl⟩ rfl rfl,
            ⟨.u rfl rfl rfl (by rintro _ _ ⟨rfl, rfl⟩; exact congrArg (offB true) (by first | rfl | (exact congrArg Value.bool (decide_eq_true (by omega))) | (exact congrArg Value.bool (decide_eq_false (by omega))) | (simp; done) | (simp; omega) | (simp [*]; done) : _ = Value.bool false)) ⟨rfl, rfl⟩ rfl rfl,
            ⟨.u rfl rfl rfl (by rintro _ _ ⟨rfl, rfl⟩; exact congrArg (offB true) (by first | rfl | (exact congrArg Value.bool (decide_eq_true (by omega))) | (exact congrArg Value.bool (decide_eq_false (by omega))) | (simp; done) | (simp; omega) | (simp [*]; done) : _ = Value.bool false)) ⟨rfl, rfl⟩ rfl rfl,
            ⟨.p rfl (by intro X; rintro _ _ ⟨rfl, rfl⟩ _ _ ⟨rfl, rfl⟩; exact op_pick_f (by first | rfl | (show some (Value.bool (decide _)) = _; rw [decide_eq_true (by omega)]) | (show some (Value.bool (decide _)) = _; rw [decide_eq_false (by omega)]) | (simp [ev, lk]; done) | (simp [ev, lk]; omega) | (simp [ev, lk, *]; done)) rfl),
            trivial⟩⟩⟩⟩⟩⟩⟩⟩⟩⟩⟩⟩⟩⟩)
            (fun β β' => ⟨fun _ => by rfl, ⟨fun _ => by rfl, ⟨fun _ => by rfl, ⟨fun _ => by rfl, ⟨fun _ => by rfl, ⟨fun _ => by rfl, ⟨fun _ => by rfl, ⟨fun _ => by rfl, ⟨fun _ => by rfl, ⟨fun _ => by rfl, ⟨fun _ => by rfl, ⟨fun _ => by rfl, ⟨fun _ => by rfl, ⟨fun _ => by rfl, trivial⟩⟩⟩⟩⟩⟩⟩⟩⟩⟩⟩⟩⟩⟩) ?_
        intro β
        rintro _ _ ⟨rfl, rfl⟩ _ _ ⟨rfl, rfl⟩ _ _ ⟨rfl, rfl⟩ _ _ ⟨rfl, rfl⟩ _ _ ⟨rfl, rfl⟩ _ _ ⟨rfl, rfl⟩ _ _ ⟨rfl, rfl⟩ _ _ ⟨rfl, rfl⟩ _ _ ⟨rfl, rfl⟩ _ _ ⟨rfl, rfl⟩ _ _ ⟨rfl, rfl⟩ _ _ ⟨rfl, rfl⟩ _ _ ⟨rfl, rfl⟩ _ _ ⟨rfl, rfl⟩
        refine wl_norm (e' := [(10, _), (11, _), (12, _), (14, _), (100, _)]) (.cons rfl (.cons rfl (.cons rfl (.cons rfl (.cons rfl (.nil _)))))) (by dsimp only [cond_false, cond_true, List.nil_append, List.cons_append]) ?_
        refine wl_nil (st_tn (w_cond_f (rfl) ?_))
        refine w_skip (st_tn (w_seq (w_region (zd rfl (op_loadA rfl tA129sc (Ent.lab (l := 11) rfl (says_cel 0)) (Nat.le_of_ble_eq_true rfl)) (wl_op [] rfl rfl rfl rfl (op_fn Tryz.func62 rfl rfl rfl (attrs_any (by assumption))) ?_)))))
        rintro _ _ ⟨a109, b109, c109, rfl, rfl⟩
        refine zd rfl (op_fieldAddr (off := 12) rfl tF70_12sc) (wl_op0 [12] rfl rfl rfl (op_store rfl rfl tZ67sc (by rfl) (by rfl) (by exact Nat.le_of_ble_eq_true rfl)) ?_)
        rintro _ _ ⟨rfl, rfl⟩
        refine wl_nil (st_tn (w_seq (w_wk 12 (cel b12 (encSp ⟨idV t k, (i : Int) + 1, pp, 0, 1 + c.clk % 4, kindV c, (svcL.getD (c.svc % 4).toNat .empty), (verL.getD (c.ver % 3).toNat .empty), (actL.getD (c.opn % 3).toNat .empty), s, e, c.fail, a109, b109, c109, none, 0, 0⟩) 70) rfl (fun _ h => h) ?_)))
        refine w_region (zd rfl (op_loadA rfl tA70sc (Ent.lab (l := 12) rfl (says_cel 0)) (Nat.le_of_ble_eq_true rfl)) (wl_op0 [10] rfl rfl rfl (op_store rfl rfl tZ70sc (by rfl) (by rfl) (by exact Nat.le_of_ble_eq_true rfl)) ?_))
        rintro _ _ ⟨rfl, rfl⟩
        refine wl_nil (st_tn (w_ret (st_ret (vs := [_]) [] Tryz.results42 ⟨⟨_, rfl, Ent.mono (Ent.lab (l := 10) rfl (says_cel 0)) (fun _ h => run_load_agg tA70sc h (Nat.le_of_ble_eq_true rfl))⟩, trivial⟩ rfl ?_)))
        refine ⟨_, rfl, ?_⟩
        exact ⟨⟨idV t k, (i : Int) + 1, pp, 0, 1 + c.clk % 4, kindV c, (svcL.getD (c.svc % 4).toNat .empty), (verL.getD (c.ver % 3).toNat .empty), (actL.getD (c.opn % 3).toNat .empty), s, e, c.fail, a109, b109, c109, none, 0, 0⟩, rfl, rfl, ⟨rfl, rfl, rfl, rfl, rfl, rfl⟩⟩
    · -- c81.f
      refine w_skip (st_tn (w_seq (w_seq (Exists.elim (⟨0, rfl⟩ : ∃ pp : Int, pp = 0) (fun pp hpp => ?_)))))
      refine w_wk 12 (cel b12 (encSp ⟨idV t k, (i : Int) + 1, pp, 0, 1 + c.clk % 4, kindV c, (svcL.getD (c.svc % 4).toNat .empty), (verL.getD (c.ver % 3).toNat .empty), (actL.getD (c.opn % 3).toNat .empty), s, e, c.fail, none, 0, 0, none, 0, 0⟩) 70) rfl (fun _ h => by rw [hpp]; exact h) ?_
      refine w_region (zd rfl (op_fieldAddr (off := 8) rfl tF129_8sc) (zd rfl (op_load1 rfl tO5sc (Ent.lab (l := 11) rfl (says_cel 8))) (zd rfl (op_remN rfl rfl (by omega) (by omega)) ?_)))
      refine zd rfl (op_val (v' := .int .i64 ((j : Nat) : Int)) (by rw [hjl]) (op_convI64 rfl (by rw [Tryz.underlying5]; rfl) Tryz.underlying3 (by omega))) ?_
      refine za rfl (wl_nil (st_tn (w_seq ?_)))
      by_cases hj : (j : Int) < (i : Int)
      · -- hj True
        have hjl1 : j < l1.length := Nat.lt_trans (Int.ofNat_lt.1 hj) hs1
        refine Exists.elim (getE (l := l1) (i := j) hjl1) (fun y hy => ?_)
        refine w_drawW (fun β => [⟨87, [], [], [], noW (_), false, [], []⟩, ⟨88, [], [], [], noW (_), false, [], []⟩, ⟨89, [0, 1], [], [], noW (_), false, [], []⟩, ⟨90, [2], [], [], noW (_), false, [], []⟩, ⟨91, [], [], [], noW (_), false, [], []⟩, ⟨92, [], [], [], noW (_), false, [], []⟩, ⟨93, [4, 5], [], [], noW (_), false, [], []⟩, ⟨94, [6], [], [], noW (_), false, [], []⟩, ⟨95, [], [], [], noW (_), false, [], []⟩, ⟨96, [], [], [], noW (_), false, [], []⟩, ⟨97, [8, 9], [], [], noW (_), false, [], []⟩, ⟨98, [10], [], [], noW (_), false, [], []⟩, ⟨99, [7, 11], [], [], noW (_), false, [], []⟩, ⟨100, [3, 12], [], [], noW (_), false, [], []⟩]) [] [14, 2, 3] [⟨87, [], [], false, [], []⟩, ⟨88, [], [], false, [], []⟩, ⟨89, [0, 1], [], false, [], []⟩, ⟨90, [2], [], false, [], []⟩, ⟨91, [], [], false, [], []⟩, ⟨92, [], [], false, [], []⟩, ⟨93, [4, 5], [], false, [], []⟩, ⟨94, [6], [], false, [], []⟩, ⟨95, [], [], false, [], []⟩, ⟨96, [], [], false, [], []⟩, ⟨97, [8, 9], [], false, [], []⟩, ⟨98, [10], [], false, [], []⟩, ⟨99, [7, 11], [], false, [], []⟩, ⟨100, [3, 12], [], false, [], []⟩] [[], [], [], [], [], [], [], [], [], [], [], [], [], []] [[], [], [], [], [], [], [], [], [], [], [], [], [], []] tMixsc (fun _ => by rfl) (fun _ => by rfl) (by kernel_rfl) (by kernel_rfl) (by rfl) (by rfl)
            (fun β => ⟨.p rfl (by intro X; exact op_move rfl),
            ⟨.p rfl (by intro X; exact op_move rfl),
            ⟨.p rfl (by intro X; rintro _ _ ⟨rfl, rfl⟩ _ _ ⟨rfl, rfl⟩; exact op_lss rfl rfl),
            ⟨.p rfl (by intro X; rintro _ _ ⟨rfl, rfl⟩; exact op_move rfl),
            ⟨.w rfl rfl rfl (by rintro _ _ ⟨rfl, rfl⟩; first | rfl | (exact congrArg Value.bool (decide_eq_true (by omega))) | (exact congrArg Value.bool (decide_eq_false (by omega))) | (simp; done) | (simp; omega) | (simp [*]; done)) (by intro X; exact op_move rfl),
            ⟨.w rfl rfl rfl (by rintro _ _ ⟨rfl, rfl⟩; first | rfl | (exact congrArg Value.bool (decide_eq_true (by omega))) | (exact congrArg Value.bool (decide_eq_false (by omega))) | (simp; done) | (simp; omega) | (simp [*]; done)) (by intro X; exact op_move rfl),
            ⟨.w rfl rfl rfl (by rintro _ _ ⟨rfl, rfl⟩; first | rfl | (exact congrArg Value.bool (decide_eq_true (by omega))) | (exact congrArg Value.bool (decide_eq_false (by omega))) | (simp; done) | (simp; omega) | (simp [*]; done)) (by intro X; rintro _ _ ⟨rfl, rfl⟩ _ _ ⟨rfl, rfl⟩; exact op_idx rfl rfl tS36sc (Sl.ent (Sl.app (Sl.app h1 _) _)) (by omega)),
            ⟨.w rfl rfl rfl (by rintro _ _ ⟨rfl, rfl⟩; first | rfl | (exact congrArg Value.bool (decide_eq_true (by omega))) | (exact congrArg Value.bool (decide_eq_false (by omega))) | (simp; done) | (simp; omega) | (simp [*]; done)) (by intro X; rintro _ _ ⟨rfl, rfl⟩; exact op_ldx rfl tO3made (Sl.app (Sl.app h1 _) _) hy (by rfl)),
            ⟨.w rfl rfl rfl (by rintro _ _ ⟨rfl, rfl⟩; first | rfl | (exact congrArg Value.bool (decide_eq_true (by omega))) | (exact congrArg Value.bool (decide_eq_false (by omega))) | (simp; done) | (simp; omega) | (simp [*]; done)) (by intro X; exact op_move rfl),
            ⟨.w rfl rfl rfl (by rintro _ _ ⟨rfl, rfl⟩; first | rfl | (exact congrArg Value.bool (decide_eq_true (by omega))) | (exact congrArg Value.bool (decide_eq_false (by omega))) | (simp; done) | (simp; omega) | (simp [*]; done)) (by intro X; exact op_move rfl),
            ⟨.w rfl rfl rfl (by rintro _ _ ⟨rfl, rfl⟩; first | rfl | (exact congrArg Value.bool (decide_eq_true (by omega))) | (exact congrArg Value.bool (decide_eq_false (by omega))) | (simp; done) | (simp; omega) | (simp [*]; done)) (by intro X; rintro _ _ ⟨rfl, rfl⟩ _ _ ⟨rfl, rfl⟩; exact op_idx rfl rfl tS36sc (Sl.ent (Sl.app (Sl.app h1 _) _)) (by omega)),
            ⟨.w rfl rfl rfl (by rintro _ _ ⟨rfl, rfl⟩; first | rfl | (exact congrArg Value.bool (decide_eq_true (by omega))) | (exact congrArg Value.bool (decide_eq_false (by omega))) | (simp; done) | (simp; omega) | (simp [*]; done)) (by intro X; rintro _ _ ⟨rfl, rfl⟩; exact op_ldx rfl tO3made (Sl.app (Sl.app h1 _) _) hs (by rfl)),
            ⟨.w rfl rfl rfl (by rintro _ _ ⟨rfl, rfl⟩; first | rfl | (exact congrArg Value.bool (decide_eq_true (by omega))) | (exact congrArg Value.bool (decide_eq_false (by omega))) | (simp; done) | (simp; omega) | (simp [*]; done)) (by intro X; rintro _ _ ⟨rfl, rfl⟩ _ _ ⟨rfl, rfl⟩; exact op_leq rfl rfl),
            ⟨.p rfl (by intro X; rintro _ _ ⟨rfl, rfl⟩ _ _ ⟨rfl, rfl⟩; exact op_pick_t (by first | rfl | (show some (Value.bool (decide _)) = _; rw [decide_eq_true (by omega)]) | (show some (Value.bool (decide _)) = _; rw [decide_eq_false (by omega)]) | (simp [ev, lk]; done) | (simp [ev, lk]; omega) | (simp [ev, lk, *]; done)) rfl),
            trivial⟩⟩⟩⟩⟩⟩⟩⟩⟩⟩⟩⟩⟩⟩)
            (fun β β' => ⟨fun _ => by rfl, ⟨fun _ => by rfl, ⟨fun _ => by rfl, ⟨fun _ => by rfl, ⟨fun _ => by rfl, ⟨fun _ => by rfl, ⟨fun _ => by rfl, ⟨fun _ => by rfl, ⟨fun _ => by rfl, ⟨fun _ => by rfl, ⟨fun _ => by rfl, ⟨fun _ => by rfl, ⟨fun _ => by rfl, ⟨fun _ => by rfl, trivial⟩⟩⟩⟩⟩⟩⟩⟩⟩⟩⟩⟩⟩⟩) ?_
        intro β
        rintro _ _ ⟨rfl, rfl⟩ _ _ ⟨rfl, rfl⟩ _ _ ⟨rfl, rfl⟩ _ _ ⟨rfl, rfl⟩ _ _ ⟨rfl, rfl⟩ _ _ ⟨rfl, rfl⟩ _ _ ⟨rfl, rfl⟩ _ _ ⟨rfl, rfl⟩ _ _ ⟨rfl, rfl⟩ _ _ ⟨rfl, rfl⟩ _ _ ⟨rfl, rfl⟩ _ _ ⟨rfl, rfl⟩ _ _ ⟨rfl, rfl⟩ _ _ ⟨rfl, rfl⟩
        refine wl_norm (e' := [(10, _), (11, _), (12, _), (14, _), (100, _)]) (.cons rfl (.cons rfl (.cons rfl (.cons rfl (.cons rfl (.nil _)))))) (by dsimp only [cond_false, cond_true, List.nil_append, List.cons_append]) ?_
        refine wl_nil (st_tn (w_cond_d rfl (fun hc100 => ?_) (fun hc100 => ?_)))
        · -- c100.t
          refine w_region (zd rfl (op_fieldAddr (off := 0) rfl tF70_0sc) (zd rfl (op_load1 rfl tO3sc (Ent.lab (l := 12) rfl (says_cel 0))) (zm rfl (zd rfl (op_add' rfl rfl (by omega)) ?_))))
          refine zd rfl (op_build tB132sc rfl rfl) (wl_op [] rfl rfl rfl rfl (op_buildSlice (enc := encRf) (l := [(idV t k, (j : Int) + 1)]) (lab := 106) tL68_1sc rfl rfl (fun _ => rfl) rfl) ?_)
          rintro _ _ ⟨a106, c106, rfl, rfl⟩
          refine zd rfl (op_fieldAddr (off := 13) rfl tF70_13sc) (wl_op0 [12] rfl rfl rfl (op_store rfl rfl tZ68sc (by rfl) (by rfl) (by exact Nat.le_of_ble_eq_true rfl)) ?_)
          rintro _ _ ⟨rfl, rfl⟩
          refine wl_nil (st_tn (w_seq (w_wk 12 (cel b12 (encSp ⟨idV t k, (i : Int) + 1, pp, 0, 1 + c.clk % 4, kindV c, (svcL.getD (c.svc % 4).toNat .empty), (verL.getD (c.ver % 3).toNat .empty), (actL.getD (c.opn % 3).toNat .empty), s, e, c.fail, none, 0, 0, a106, 1, c106⟩) 70) rfl (fun _ h => h) ?_)))
          refine w_region (zd rfl (op_loadA rfl tA129sc (Ent.lab (l := 11) rfl (says_cel 0)) (Nat.le_of_ble_eq_true rfl)) (wl_op [] rfl rfl rfl rfl (op_fn Tryz.func62 rfl rfl rfl (attrs_any (by assumption))) ?_))
          rintro _ _ ⟨a109, b109, c109, rfl, rfl⟩
          refine zd rfl (op_fieldAddr (off := 12) rfl tF70_12sc) (wl_op0 [12] rfl rfl rfl (op_store rfl rfl tZ67sc (by rfl) (by rfl) (by exact Nat.le_of_ble_eq_true rfl)) ?_)
          rintro _ _ ⟨rfl, rfl⟩
          refine wl_nil (st_tn (w_seq (w_wk 12 (cel b12 (encSp ⟨idV t k, (i : Int) + 1, pp, 0, 1 + c.clk % 4, kindV c, (svcL.getD (c.svc % 4).toNat .empty), (verL.getD (c.ver % 3).toNat .empty), (actL.getD (c.opn % 3).toNat .empty), s, e, c.fail, a109, b109, c109, a106, 1, c106⟩) 70) rfl (fun _ h => h) ?_)))
          refine w_region (zd rfl (op_loadA rfl tA70sc (Ent.lab (l := 12) rfl (says_cel 0)) (Nat.le_of_ble_eq_true rfl)) (wl_op0 [10] rfl rfl rfl (op_store rfl rfl tZ70sc (by rfl) (by rfl) (by exact Nat.le_of_ble_eq_true rfl)) ?_))
          rintro _ _ ⟨rfl, rfl⟩
          refine wl_nil (st_tn (w_ret (st_ret (vs := [_]) [] Tryz.results42 ⟨⟨_, rfl, Ent.mono (Ent.lab (l := 10) rfl (says_cel 0)) (fun _ h => run_load_agg tA70sc h (Nat.le_of_ble_eq_true rfl))⟩, trivial⟩ rfl ?_)))
          refine ⟨_, rfl, ?_⟩
          exact ⟨⟨idV t k, (i : Int) + 1, pp, 0, 1 + c.clk % 4, kindV c, (svcL.getD (c.svc % 4).toNat .empty), (verL.getD (c.ver % 3).toNat .empty), (actL.getD (c.opn % 3).toNat .empty), s, e, c.fail, a109, b109, c109, a106, 1, c106⟩, rfl, rfl, ⟨rfl, rfl, rfl, rfl, rfl, rfl⟩⟩
        · -- c100.f
          refine w_skip (st_tn (w_seq (w_region (zd rfl (op_loadA rfl tA129sc (Ent.lab (l := 11) rfl (says_cel 0)) (Nat.le_of_ble_eq_true rfl)) (wl_op [] rfl rfl rfl rfl (op_fn Tryz.func62 rfl rfl rfl (attrs_any (by assumption))) ?_)))))
          rintro _ _ ⟨a109, b109, c109, rfl, rfl⟩
          refine zd rfl (op_fieldAddr (off := 12) rfl tF70_12sc) (wl_op0 [12] rfl rfl rfl (op_store rfl rfl tZ67sc (by rfl) (by rfl) (by exact Nat.le_of_ble_eq_true rfl)) ?_)
          rintro _ _ ⟨rfl, rfl⟩
          refine wl_nil (st_tn (w_seq (w_wk 12 (cel b12 (encSp ⟨idV t k, (i : Int) + 1, pp, 0, 1 + c.clk % 4, kindV c, (svcL.getD (c.svc % 4).toNat .empty), (verL.getD (c.ver % 3).toNat .empty), (actL.getD (c.opn % 3).toNat .empty), s, e, c.fail, a109, b109, c109, none, 0, 0⟩) 70) rfl (fun _ h => h) ?_)))
          refine w_region (zd rfl (op_loadA rfl tA70sc (Ent.lab (l := 12) rfl (says_cel 0)) (Nat.le_of_ble_eq_true rfl)) (wl_op0 [10] rfl rfl rfl (op_store rfl rfl tZ70sc (by rfl) (by rfl) (by exact Nat.le_of_ble_eq_true rfl)) ?_))
          rintro _ _ ⟨rfl, rfl⟩
          refine wl_nil (st_tn (w_ret (st_ret (vs := [_]) [] Tryz.results42 ⟨⟨_, rfl, Ent.mono (Ent.lab (l := 10) rfl (says_cel 0)) (fun _ h => run_load_agg tA70sc h (Nat.le_of_ble_eq_true rfl))⟩, trivial⟩ rfl ?_)))
          refine ⟨_, rfl, ?_⟩
          exact ⟨⟨idV t k, (i : Int) + 1, pp, 0, 1 + c.clk % 4, kindV c, (svcL.getD (c.svc % 4).toNat .empty), (verL.getD (c.ver % 3).toNat .empty), (actL.getD (c.opn % 3).toNat .empty), s, e, c.fail, a109, b109, c109, none, 0, 0⟩, rfl, rfl, ⟨rfl, rfl, rfl, rfl, rfl, rfl⟩⟩
      · -- hj False
        refine w_drawW (fun β => [⟨87, [], [], [], noW (_), false, [], []⟩, ⟨88, [], [], [], noW (_), false, [], []⟩, ⟨89, [0, 1], [], [], noW (_), false, [], []⟩, ⟨90, [2], [], [], noW (_), false, [], []⟩, ⟨91, [], [], [], noW (Det undef), false, [], []⟩, ⟨92, [], [], [], noW (Det undef), false, [], []⟩, ⟨93, [], [], [], noW (Det undef), false, [], []⟩, ⟨94, [], [], [], noW (Det undef), false, [], []⟩, ⟨95, [], [], [], noW (Det undef), false, [], []⟩, ⟨96, [], [], [], noW (Det undef), false, [], []⟩, ⟨97, [], [], [], noW (Det undef), false, [], []⟩, ⟨98, [], [], [], noW (Det undef), false, [], []⟩, ⟨99, [], [], [], noW (Det undef), false, [], []⟩, ⟨100, [3, 12], [], [], noW (_), false, [], []⟩]) [] [14, 2, 3] [⟨87, [], [], false, [], []⟩, ⟨88, [], [], false, [], []⟩, ⟨89, [0, 1], [], false, [], []⟩, ⟨90, [2], [], false, [], []⟩, ⟨91, [], [], false, [], []⟩, ⟨92, [], [], false, [], []⟩, ⟨93, [], [], false, [], []⟩, ⟨94, [], [], false, [], []⟩, ⟨95, [], [], false, [], []⟩, ⟨96, [], [], false, [], []⟩, ⟨97, [], [], false, [], []⟩, ⟨98, [], [], false, [], []⟩, ⟨99, [], [], false, [], []⟩, ⟨100, [3, 12], [], false, [], []⟩] [[], [], [], [], [], [], [], [], [], [], [], [], [], []] [[], [], [], [], [], [], [], [], [], [], [], [], [], []] tMixsc (fun _ => by rfl) (fun _ => by rfl) (by kernel_rfl) (by kernel_rfl) (by rfl) (by rfl)
            (fun β => ⟨.p rfl (by intro X; exact op_move rfl),
            ⟨.p rfl (by intro X; exact op_move rfl),
            ⟨.p rfl (by intro X; rintro _ _ ⟨rfl, rfl⟩ _ _ ⟨rfl, rfl⟩; exact op_lss rfl rfl),
            ⟨.p rfl (by intro X; rintro _ _ ⟨rfl, rfl⟩; exact op_move rfl),
            ⟨.u rfl rfl rfl (by rintro _ _ ⟨rfl, rfl⟩; exact congrArg (offB true) (by first | rfl | (exact congrArg Value.bool (decide_eq_true (by omega))) | (exact congrArg Value.bool (decide_eq_false (by omega))) | (simp; done) | (simp; omega) | (simp [*]; done) : _ = Value.bool false)) ⟨rfl, rfl⟩ rfl rfl,
            ⟨.u rfl rfl rfl (by rintro _ _ ⟨rfl, rfl⟩; exact congrArg (offB true) (by first | rfl | (exact congrArg Value.bool (decide_eq_true (by omega))) | (exact congrArg Value.bool (decide_eq_false (by omega))) | (simp; done) | (simp; omega) | (simp [*]; done) : _ = Value.bool false)) ⟨rfl, rfl⟩ rfl rfl,
            ⟨.u rfl rfl rfl (by rintro _ _ ⟨rfl, rfl⟩; exact congrArg (offB true) (by first | rfl | (exact congrArg Value.bool (decide_eq_true (by omega))) | (exact congrArg Value.bool (decide_eq_false (by omega))) | (simp; done) | (simp; omega) | (simp [*]; done) : _ = Value.bool false)) ⟨rfl, rfl⟩ rfl rfl,
            ⟨.u rfl rfl rfl (by rintro _ _ ⟨rfl, rfl⟩; exact congrArg (offB true) (by first | rfl | (exact congrArg Value.bool (decide_eq_true (by omega))) | (exact congrArg Value.bool (decide_eq_false (by omega))) | (simp; done) | (simp; omega) | (simp [*]; done) : _ = Value.bool false)) ⟨rfl, rfl⟩ rfl rfl,
            ⟨.u rfl rfl rfl (by rintro _ _ ⟨rfl, rfl⟩; exact congrArg (offB true) (by first | rfl | (exact congrArg Value.bool (decide_eq_true (by omega))) | (exact congrArg Value.bool (decide_eq_false (by omega))) | (simp; done) | (simp; omega) | (simp [*]; done) : _ = Value.bool false)) ⟨rfl, rfl⟩ rfl rfl,
            ⟨.u rfl rfl rfl (by rintro _ _ ⟨rfl, rfl⟩; exact congrArg (offB true) (by first | rfl | (exact congrArg Value.bool (decide_eq_true (by omega))) | (exact congrArg Value.bool (decide_eq_false (by omega))) | (simp; done) | (simp; omega) | (simp [*]; done) : _ = Value.bool false)) ⟨rfl, rfl⟩ rfl rfl,
            ⟨.u rfl rfl rfl (by rintro _ _ ⟨rfl, rfl⟩; exact congrArg (offB true) (by first | rfl | (exact congrArg Value.bool (decide_eq_true (by omega))) | (exact congrArg Value.bool (decide_eq_false (by omega))) | (simp; done) | (simp; omega) | (simp [*]; done) : _ = Value.bool false)) ⟨rfl, rfl⟩ rfl rfl,
            ⟨.u rfl rfl rfl (by rintro _ _ ⟨rfl, rfl⟩; exact congrArg (offB true) (by first | rfl | (exact congrArg Value.bool (decide_eq_true (by omega))) | (exact congrArg Value.bool (decide_eq_false (by omega))) | (simp; done) | (simp; omega) | (simp [*]; done) : _ = Value.bool false)) ⟨rfl, rfl⟩ rfl rfl,
            ⟨.u rfl rfl rfl (by rintro _ _ ⟨rfl, rfl⟩; exact congrArg (offB true) (by first | rfl | (exact congrArg Value.bool (decide_eq_true (by omega))) | (exact congrArg Value.bool (decide_eq_false (by omega))) | (simp; done) | (simp; omega) | (simp [*]; done) : _ = Value.bool false)) ⟨rfl, rfl⟩ rfl rfl,
            ⟨.p rfl (by intro X; rintro _ _ ⟨rfl, rfl⟩ _ _ ⟨rfl, rfl⟩; exact op_pick_f (by first | rfl | (show some (Value.bool (decide _)) = _; rw [decide_eq_true (by omega)]) | (show some (Value.bool (decide _)) = _; rw [decide_eq_false (by omega)]) | (simp [ev, lk]; done) | (simp [ev, lk]; omega) | (simp [ev, lk, *]; done)) rfl),
            trivial⟩⟩⟩⟩⟩⟩⟩⟩⟩⟩⟩⟩⟩⟩)
            (fun β β' => ⟨fun _ => by rfl, ⟨fun _ => by rfl, ⟨fun _ => by rfl, ⟨fun _ => by rfl, ⟨fun _ => by rfl, ⟨fun _ => by rfl, ⟨fun _ => by rfl, ⟨fun _ => by rfl, ⟨fun _ => by rfl, ⟨fun _ => by rfl, ⟨fun _ => by rfl, ⟨fun _ => by rfl, ⟨fun _ => by rfl, ⟨fun _ => by rfl, trivial⟩⟩⟩⟩⟩⟩⟩⟩⟩⟩⟩⟩⟩⟩) ?_
        intro β
        rintro _ _ ⟨rfl, rfl⟩ _ _ ⟨rfl, rfl⟩ _ _ ⟨rfl, rfl⟩ _ _ ⟨rfl, rfl⟩ _ _ ⟨rfl, rfl⟩ _ _ ⟨rfl, rfl⟩ _ _ ⟨rfl, rfl⟩ _ _ ⟨rfl, rfl⟩ _ _ ⟨rfl, rfl⟩ _ _ ⟨rfl, rfl⟩ _ _ ⟨rfl, rfl⟩ _ _ ⟨rfl, rfl⟩ _ _ ⟨rfl, rfl⟩ _ _ ⟨rfl, rfl⟩
        refine wl_norm (e' := [(10, _), (11, _), (12, _), (14, _), (100, _)]) (.cons rfl (.cons rfl (.cons rfl (.cons rfl (.cons rfl (.nil _)))))) (by dsimp only [cond_false, cond_true, List.nil_append, List.cons_append]) ?_
        refine wl_nil (st_tn (w_cond_f (rfl) ?_))
        refine w_skip (st_tn (w_seq (w_region (zd rfl (op_loadA rfl tA129sc (Ent.lab (l := 11) rfl (says_cel 0)) (Nat.le_of_ble_eq_true rfl)) (wl_op [] rfl rfl rfl rfl (op_fn Tryz.func62 rfl rfl rfl (attrs_any (by assumption))) ?_)))))
        rintro _ _ ⟨a109, b109, c109, rfl, rfl⟩
        refine zd rfl (op_fieldAddr (off := 12) rfl tF70_12sc) (wl_op0 [12] rfl rfl rfl (op_store rfl rfl tZ67sc (by rfl) (by rfl) (by exact Nat.le_of_ble_eq_true rfl)) ?_)
        rintro _ _ ⟨rfl, rfl⟩
        refine wl_nil (st_tn (w_seq (w_wk 12 (cel b12 (encSp ⟨idV t k, (i : Int) + 1, pp, 0, 1 + c.clk % 4, kindV c, (svcL.getD (c.svc % 4).toNat .empty), (verL.getD (c.ver % 3).toNat .empty), (actL.getD (c.opn % 3).toNat .empty), s, e, c.fail, a109, b109, c109, none, 0, 0⟩) 70) rfl (fun _ h => h) ?_)))
        refine w_region (zd rfl (op_loadA rfl tA70sc (Ent.lab (l := 12) rfl (says_cel 0)) (Nat.le_of_ble_eq_true rfl)) (wl_op0 [10] rfl rfl rfl (op_store rfl rfl tZ70sc (by rfl) (by rfl) (by exact Nat.le_of_ble_eq_true rfl)) ?_))
        rintro _ _ ⟨rfl, rfl⟩
        refine wl_nil (st_tn (w_ret (st_ret (vs := [_]) [] Tryz.results42 ⟨⟨_, rfl, Ent.mono (Ent.lab (l := 10) rfl (says_cel 0)) (fun _ h => run_load_agg tA70sc h (Nat.le_of_ble_eq_true rfl))⟩, trivial⟩ rfl ?_)))
        refine ⟨_, rfl, ?_⟩
        exact ⟨⟨idV t k, (i : Int) + 1, pp, 0, 1 + c.clk % 4, kindV c, (svcL.getD (c.svc % 4).toNat .empty), (verL.getD (c.ver % 3).toNat .empty), (actL.getD (c.opn % 3).toNat .empty), s, e, c.fail, a109, b109, c109, none, 0, 0⟩, rfl, rfl, ⟨rfl, rfl, rfl, rfl, rfl, rfl⟩⟩
end Go.Proofs.YtecmigildpkigaaGreat.Ser
namespace Go.Proofs.YtecmigildpkigaaGreat.Ser
open Go Go.SL Go.RowKit
set_option linter.unusedVariables false
set_option linter.unusedSimpArgs false
theorem tA27sd : aggB Tryz.prog 27 7 = true := by kernel_rfl
theorem tA56sd : aggB Tryz.prog 56 3 = true := by kernel_rfl
theorem tA70sd : aggB Tryz.prog 70 14 = true := by kernel_rfl
theorem tF27_0sd : fieldB Tryz.prog 27 0 0 = true := by kernel_rfl
theorem tF27_3sd : fieldB Tryz.prog 27 3 6 = true := by kernel_rfl
theorem tF56_2sd : fieldB Tryz.prog 56 2 2 = true := by kernel_rfl
theorem tF70_10sd : fieldB Tryz.prog 70 10 10 = true := by kernel_rfl
theorem tF70_4sd : fieldB Tryz.prog 70 4 4 = true := by kernel_rfl
theorem tF70_9sd : fieldB Tryz.prog 70 9 9 = true := by kernel_rfl
theorem tL58_1sd : zerosB Tryz.prog 58 70 14 1 = some [Value.int .i64 0, Value.int .i64 0, Value.int .i64 0, Value.int .i64 0, Value.int .i64 0, Value.int .i64 0, Value.string .empty, Value.string .empty, Value.string .empty, Value.int .i64 0, Value.int .i64 0, Value.bool false, Value.slice none 0 0, Value.slice none 0 0] := by kernel_rfl
theorem tN70sd : (Tryz.prog.info? 70).bind (·.zero) = some (Value.agg #[Value.int .i64 0, Value.int .i64 0, Value.int .i64 0, Value.int .i64 0, Value.int .i64 0, Value.int .i64 0, Value.string .empty, Value.string .empty, Value.string .empty, Value.int .i64 0, Value.int .i64 0, Value.bool false, Value.slice none 0 0, Value.slice none 0 0]) := by kernel_rfl
theorem tO22sd : oneB Tryz.prog 22 = true := by kernel_rfl
theorem tO3sd : oneB Tryz.prog 3 = true := by kernel_rfl
theorem tO5sd : oneB Tryz.prog 5 = true := by kernel_rfl
theorem tO54sd : oneB Tryz.prog 54 = true := by kernel_rfl
theorem tP58sd : appB Tryz.prog 58 70 14 168 = true := by kernel_rfl
theorem tS22sd : sliceB Tryz.prog 22 56 3 = true := by kernel_rfl
theorem tS54sd : sliceB Tryz.prog 54 129 11 = true := by kernel_rfl
theorem tZ3sd : (Tryz.prog.info? 3).map (·.size) = some 1 := by kernel_rfl
theorem tZ70sd : (Tryz.prog.info? 70).map (·.size) = some 14 := by kernel_rfl
theorem enc1Sp : Enc1 encSp 14 := ⟨fun _ => rfl, fun a u h => by simp only [encSp, List.mem_cons, List.not_mem_nil, or_false] at h; rcases h with rfl | rfl | rfl | rfl | rfl | rfl | rfl | rfl | rfl | rfl | rfl | rfl | rfl | rfl <;> rfl⟩
structure SpR where
  svc : ByteArray
  op : ByteArray
  st : Int
  en : Int
  err : Bool
def keyS (x : SpV) : SpR := ⟨x.svc, x.op, x.st, x.en, x.err⟩
def wrongP (S : StoryV) (k i : Nat) : Prop := (S.wr > 0 ∧ S.wr % 8 = i) ∧ S.wr / 8 % 3 = k
instance (S : StoryV) (k i : Nat) : Decidable (wrongP S k i) := by unfold wrongP; infer_instance
def byV (S : StoryV) (k i : Nat) (c : CallV) : Int := offV S (1 + c.clk % 4) + if wrongP S k i then 500 else 0
def spR (S : StoryV) (k i : Nat) (c : CallV) (s e : Int) : SpR := ⟨svcL.getD (c.svc % 4).toNat .empty, actL.getD (c.opn % 3).toNat .empty, s + byV S k i c, e + byV S k i c, c.fail⟩
def traceN (S : StoryV) (k : Nat) (t : TreeV) : Nat → List SpR
  | 0 => []
  | i + 1 => match t.calls[i]?, (startL t)[i]?, (endL t)[i]? with
    | some c, some s, some e => traceN S k t i ++ [spR S k i c s e]
    | _, _, _ => traceN S k t i
def traceR (S : StoryV) (k : Nat) (t : TreeV) : List SpR := traceN S k t t.calls.length
theorem traceN_succ {S : StoryV} {k i : Nat} {t : TreeV} {c : CallV} {s e : Int} (h1 : t.calls[i]? = some c) (h2 : (startL t)[i]? = some s) (h3 : (endL t)[i]? = some e) : traceN S k t (i + 1) = traceN S k t i ++ [spR S k i c s e] := by rw [traceN, h1, h2, h3]
set_option maxHeartbeats 400000 in
set_option maxRecDepth 100000 in
theorem trace_any {σ : World} {F : List Res} {S : StoryV} {k : Nat} {t : TreeV} (lab : Nat) (hS : StOk σ F S) (hsh : shortP S) (hk : S.trees[k]? = some t) :
    FnT Tryz.prog σ F 16 [stV S, .int .i64 k, .bool false] [] (fun u ρ => ∃ (L : List SpV) (a : Option Addr) (c : Nat), L.map keyS = traceR S k t ∧ L.length = t.calls.length ∧ u = .slice a L.length c ∧ ρ = [(lab, slW 70 encSp 14 (.slice a L.length c) L)]) := by
  refine fn_of 82 Tryz.func16 rfl Tryz.ntmps16 rfl ?_
  have hle := hS.tr.i64
  have htm := List.mem_of_getElem? hk
  have hsl := hsh.1 t htm
  have hst := hsh.2.1
  have hkl := (List.getElem?_eq_some_iff.1 hk).1
  have hca := hS.ca t htm
  have hwb := hS.b.wr
  have hsL := startL_len t
  have heL := endL_len t
  have hsB := startN_bd (st := t.start) (cs := t.calls) (Nat.le_refl _)
  have heB := (endL_B t).2
  refine w_seq (w_region (wl_op [] rfl rfl rfl rfl (op_box (T := 27) (l := 3) rfl) ?_))
  rintro _ _ ⟨b3, rfl, rfl⟩
  refine za rfl (wl_nil (st_tn (w_seq (w_region (za rfl (wl_nil (st_tn (w_seq (w_region (zd rfl (op_fieldAddr (off := 0) rfl tF27_0sd) (zd rfl (op_load1 rfl tO22sd (Ent.lab (l := 3) rfl (says_cel 0))) (zm rfl (zd rfl (op_idx rfl rfl tS22sd (Sl.ent (hS.tr.app _)) (by omega)) ?_)))))))))))))
  refine zd rfl (op_ldxA rfl tA56sd (hS.tr.app _) (by assumption) (by rfl) (by rfl)) ?_
  refine wl_op [] rfl rfl rfl rfl (op_fn Tryz.func41 rfl rfl rfl (times_any 20 21 (hca.app _) (hS.b.call t htm) (hS.b.start t htm) hsl)) ?_
  rintro _ _ ⟨a20, c20, a21, c21, rfl, rfl⟩
  refine zm rfl (zd rfl (op_extract rfl rfl) (zd rfl (op_extract rfl rfl) (za rfl (za rfl (wl_nil (st_tn (w_seq (w_seq (w_region (za rfl (wl_nil (st_tn (w_block ?_)))))))))))))
  refine w_emp 7 (slO_nil 70 14) ?_
  refine w_loopQ (X := List SpV × Option Addr × Nat × Nat) (fun z => z.2.2.2 ≤ t.calls.length ∧ z.1.length = z.2.2.2 ∧ z.1.map keyS = traceN S k t z.2.2.2) (fun z => [(7, .slice (z.2.1) (z.1).length (z.2.2.1)), (10, .int .i64 (z.2.2.2))]) (fun z => [(7, slW 70 encSp 14 (.slice (z.2.1) (z.1).length (z.2.2.1)) (z.1))]) (fun z => t.calls.length - z.2.2.2) (([], none, 0, 0)) [(1, _), (2, _), (3, _), (8, _), (9, _)] [(3, _), (20, _), (21, _)] [7, 3, 20, 21] rfl (rfl) (.cons rfl (.cons rfl (.nil _))) (.cons rfl (.cons rfl (.cons rfl (.cons rfl (.cons rfl (.nil _)))))) (by
      try dsimp only
      exact ⟨Nat.zero_le _, rfl, rfl⟩) ?_
  rintro ⟨out, a_out, c_out, i⟩ ⟨hi, hol, hom⟩
  refine w_norm2 (by dsimp only [List.cons_append, List.nil_append]) (by dsimp only [List.cons_append, List.nil_append]) ?_
  try dsimp only at hi hol hom ⊢
  refine w_seq (w_seq (w_region (zm rfl (zd rfl (op_fieldAddr (off := 0) rfl tF27_0sd) (zd rfl (op_load1 rfl tO22sd (Ent.lab (l := 3) rfl (says_cel 0))) (zm rfl (zd rfl (op_idx rfl rfl tS22sd (Sl.ent (hS.tr.app _)) (by omega)) ?_)))))))
  refine zd rfl (op_fieldAddr (off := 2) rfl tF56_2sd) (zd rfl (op_ldxf rfl tO54sd (hS.tr.app _) (by assumption) (by rfl)) ?_)
  refine zd rfl (op_lenT rfl tS54sd (Sl.ent (hca.app _))) (zd rfl (op_lss rfl rfl) (wl_nil (st_tn (w_cond_d rfl (fun hc30 => ?_) (fun hc30 => ?_)))))
  · -- c30.t
    obtain ⟨c, hz⟩ := getE (l := t.calls) (i := i) (by omega)
    obtain ⟨s, hs⟩ := getE (l := startL t) (i := i) (by omega)
    obtain ⟨e, he⟩ := getE (l := endL t) (i := i) (by omega)
    have hcc := hS.b.call t htm c (List.mem_of_getElem? hz)
    have hb2 := hcc.clk
    have hsb := hsB s (List.mem_of_getElem? hs)
    have heb := heB i s e hs he
    refine w_skip (st_tn (w_seq (w_block (w_seq (w_region (zd rfl (op_loadA rfl tA27sd (Ent.lab (l := 3) rfl (says_cel 0)) (Nat.le_of_ble_eq_true rfl)) (zm rfl (zm rfl (zm rfl (zm rfl (wl_op [] rfl rfl rfl rfl (op_fn Tryz.func42 rfl rfl rfl (made_any (hS.app _) hsh hk hz (Sl.lab 20 rfl (by unfold maxLen; omega)) (Sl.lab 21 rfl (by unfold maxLen; omega)) hs he)) ?_)))))))))))
    rintro _ _ ⟨x, rfl, rfl, hx⟩
    refine wl_op [] rfl rfl rfl rfl (op_alloc (l := 11) tN70sd) ?_
    rintro _ _ ⟨b11, rfl, rfl⟩
    refine wl_op0 [11] rfl rfl rfl (op_store rfl rfl tZ70sd (by rfl) (by rfl) (by exact Nat.le_of_ble_eq_true rfl)) ?_
    rintro _ _ ⟨rfl, rfl⟩
    refine wl_nil (st_tn (w_seq (w_seq (w_wk 11 (cel b11 (encSp x) 70) rfl (fun _ h => h) ?_))))
    have hov := offV_bd hS.b x.clk
    have hxs := hx.st
    have hxe := hx.en
    have hxc := hx.clk
    refine w_region (zm rfl (zd rfl (op_not_f rfl) (wl_nil (st_tn (w_cond_t (rfl) ?_)))))
    refine w_seq (w_region (zd rfl (op_loadA rfl tA27sd (Ent.lab (l := 3) rfl (says_cel 0)) (Nat.le_of_ble_eq_true rfl)) (zd rfl (op_fieldAddr (off := 4) rfl tF70_4sd) (zd rfl (op_load1 rfl tO3sd (Ent.lab (l := 11) rfl (says_cel 4))) (zd rfl (op_fn Tryz.func43 rfl rfl rfl (offset_any (hS.app _) (by omega))) ?_)))))
    refine za rfl (wl_nil (st_tn (w_seq (w_seq (w_cutL [(64, .bool (decide (wrongP S k i)))] [1, 2, 3, 7, 8, 9, 10, 11, 12] [7, 3, 20, 21, 11] rfl (fun K' hK => ?_) ?_)))))
    · -- cut r9
      refine w_region (zd rfl (op_fieldAddr (off := 6) rfl tF27_3sd) (zd rfl (op_load1 rfl tO5sd (Ent.lab (l := 3) rfl (says_cel 6))) (zd rfl (op_gtr rfl rfl) (zm rfl (wl_gsplit (t := 48) rfl (fun hg48 => ?_) (fun hg48 => ?_))))))
      · -- 48 is True
        refine wl_wanted_det rfl rfl rfl rfl rfl rfl rfl (op_fieldAddr (off := 6) rfl tF27_3sd) (wl_wanted_det rfl rfl rfl rfl rfl rfl rfl (op_load1 rfl tO5sd (Ent.lab (l := 3) rfl (says_cel 6))) (wl_wanted_det rfl rfl rfl rfl rfl rfl rfl (op_convI64 rfl (by rw [Tryz.underlying5]; rfl) Tryz.underlying3 (by omega)) ?_))
        refine wl_wanted_det rfl rfl rfl rfl rfl rfl rfl (op_remN rfl rfl (by omega) (by omega)) ?_
        refine wl_wanted_det rfl rfl rfl rfl rfl rfl rfl (op_move rfl) (wl_wanted_det rfl rfl rfl rfl rfl rfl rfl (op_eql rfl rfl) (zd rfl (op_pick_t rfl rfl) (zm rfl (wl_gsplit (t := 56) rfl (fun hg56 => ?_) (fun hg56 => ?_)))))
        · -- 56 is True
          refine wl_wanted_det rfl rfl rfl rfl rfl rfl rfl (op_fieldAddr (off := 6) rfl tF27_3sd) (wl_wanted_det rfl rfl rfl rfl rfl rfl rfl (op_load1 rfl tO5sd (Ent.lab (l := 3) rfl (says_cel 6))) (wl_wanted_det rfl rfl rfl rfl rfl rfl rfl (op_convI64 rfl (by rw [Tryz.underlying5]; rfl) Tryz.underlying3 (by omega)) ?_))
          refine wl_wanted_det rfl rfl rfl rfl rfl rfl rfl (op_quoN rfl rfl (by omega) (by omega) (by omega)) ?_
          refine wl_wanted_det rfl rfl rfl rfl rfl rfl rfl (op_remN rfl rfl (by omega) (by omega)) ?_
          refine wl_wanted_det rfl rfl rfl rfl rfl rfl rfl (op_move rfl) (wl_wanted_det rfl rfl rfl rfl rfl rfl rfl (op_eql rfl rfl) (zd rfl (op_pick_t rfl rfl) (wl_nil (st_tn ?_))))
          exact cut_done1 [7, 3, 20, 21, 11] hK rfl (by first | (rw [decide_eq_decide]; exact ⟨fun h => ⟨⟨by assumption, by assumption⟩, h⟩, fun h => h.2⟩) | (symm; rw [decide_eq_false_iff_not]; intro h; first | exact absurd h.1.1 (by assumption) | exact absurd h.1.2 (by assumption) | (have h1 := h.1.1; have h2 := h.1.2; omega))) (by rfl) rfl rfl
        · -- 56 is False
          refine wl_unwanted rfl rfl rfl rfl rfl rfl rfl rfl (wl_unwanted rfl rfl rfl rfl rfl rfl rfl rfl (wl_unwanted rfl rfl rfl rfl rfl rfl rfl rfl (wl_unwanted rfl rfl rfl rfl rfl rfl rfl rfl (wl_unwanted rfl rfl rfl rfl rfl rfl rfl rfl (wl_unwanted rfl rfl rfl rfl rfl rfl rfl rfl (wl_unwanted rfl rfl rfl rfl rfl rfl rfl rfl (zd rfl (op_pick_f rfl rfl) (wl_nil (st_tn ?_)))))))))
          exact cut_done1 [7, 3, 20, 21, 11] hK rfl (by first | (rw [decide_eq_decide]; exact ⟨fun h => ⟨⟨by assumption, by assumption⟩, h⟩, fun h => h.2⟩) | (symm; rw [decide_eq_false_iff_not]; intro h; first | exact absurd h.1.1 (by assumption) | exact absurd h.1.2 (by assumption) | (have h1 := h.1.1; have h2 := h.1.2; omega))) (by rfl) rfl rfl
      · -- 48 is False
        refine wl_unwanted rfl rfl rfl rfl rfl rfl rfl rfl (wl_unwanted rfl rfl rfl rfl rfl rfl rfl rfl (wl_unwanted rfl rfl rfl rfl rfl rfl rfl rfl (wl_unwanted rfl rfl rfl rfl rfl rfl rfl rfl (wl_unwanted rfl rfl rfl rfl rfl rfl rfl rfl (wl_unwanted rfl rfl rfl rfl rfl rfl rfl rfl (zd rfl (op_pick_f rfl rfl) (zm rfl (wl_unwanted rfl rfl rfl rfl rfl rfl rfl rfl (wl_unwanted rfl rfl rfl rfl rfl rfl rfl rfl (wl_unwanted rfl rfl rfl rfl rfl rfl rfl rfl (wl_unwanted rfl rfl rfl rfl rfl rfl rfl rfl (wl_unwanted rfl rfl rfl rfl rfl rfl rfl rfl (wl_unwanted rfl rfl rfl rfl rfl rfl rfl rfl ?_)))))))))))))
        refine wl_unwanted rfl rfl rfl rfl rfl rfl rfl rfl (zd rfl (op_pick_f rfl rfl) (wl_nil (st_tn ?_)))
        exact cut_done1 [7, 3, 20, 21, 11] hK rfl (by first | (rw [decide_eq_decide]; exact ⟨fun h => ⟨⟨by assumption, by assumption⟩, h⟩, fun h => h.2⟩) | (symm; rw [decide_eq_false_iff_not]; intro h; first | exact absurd h.1.1 (by assumption) | exact absurd h.1.2 (by assumption) | (have h1 := h.1.1; have h2 := h.1.2; omega))) (by rfl) rfl rfl
    · -- behind r9
      show W _ _ _ _ _ [(64, _), (1, _), (2, _), (3, _), (7, _), (8, _), (9, _), (10, _), (11, _), (12, _)] [(7, _), (3, _), (20, _), (21, _), (11, _)] _
      refine w_cond_d rfl (fun hc64 => ?_) (fun hc64 => ?_)
      · -- c64.t
        refine w_region (zm rfl (zd rfl (op_add' rfl rfl (by omega)) ?_))
        refine za rfl (wl_nil (st_tn (w_region (zd rfl (op_fieldAddr (off := 9) rfl tF70_9sd) (zd rfl (op_load1 rfl tO3sd (Ent.lab (l := 11) rfl (says_cel 9))) (zm rfl (zd rfl (op_add' rfl rfl (by omega)) ?_)))))))
        refine zd rfl (op_fieldAddr (off := 10) rfl tF70_10sd) (zd rfl (op_load1 rfl tO3sd (Ent.lab (l := 11) rfl (says_cel 10))) (zm rfl (zd rfl (op_add' rfl rfl (by omega)) ?_)))
        refine zd rfl (op_fieldAddr (off := 9) rfl tF70_9sd) (wl_op0 [11] rfl rfl rfl (op_store rfl rfl tZ3sd (by rfl) (by rfl) (by exact Nat.le_of_ble_eq_true rfl)) ?_)
        rintro _ _ ⟨rfl, rfl⟩
        refine zd rfl (op_fieldAddr (off := 10) rfl tF70_10sd) (wl_op0 [11] rfl rfl rfl (op_store rfl rfl tZ3sd (by rfl) (by rfl) (by exact Nat.le_of_ble_eq_true rfl)) ?_)
        rintro _ _ ⟨rfl, rfl⟩
        refine wl_nil (st_tn (w_wk 11 (cel b11 (encSp { x with st := x.st + (offV S x.clk + 500), en := x.en + (offV S x.clk + 500) }) 70) rfl (fun _ h => h) ?_))
        refine w_region (zm rfl (zd rfl (op_loadA rfl tA70sd (Ent.lab (l := 11) rfl (says_cel 0)) (Nat.le_of_ble_eq_true rfl)) (wl_op [] rfl rfl rfl rfl (op_buildSlice (enc := encSp) (l := [{ x with st := x.st + (offV S x.clk + 500), en := x.en + (offV S x.clk + 500) }]) (lab := 79) tL58_1sd rfl rfl (fun _ => rfl) rfl) ?_)))
        rintro _ _ ⟨a79, c79, rfl, rfl⟩
        refine wl_op [7] rfl rfl rfl rfl (op_append (lab := 7) (lab' := 80) rfl rfl tP58sd enc1Sp (Sl.lab 79 rfl (by simp [maxLen])) (by first | omega | (simp; done) | (simp; omega) | (simp [*]; omega)) (by first | omega | (simp; done) | (simp; omega) | (simp [*]; omega))) ?_
        rintro _ _ ⟨a80, c80, rfl, rfl⟩
        refine za rfl (wl_nil (st_bn (st_tn (w_region (zm rfl (zd rfl (op_add' rfl rfl (by omega)) ?_))))))
        refine za rfl (wl_nil ?_)
        refine st_roundQ (x := (out, a_out, c_out, i)) ((_, _, _, i + 1)) [80, 3, 20, 21] rfl (rfl) (.cons rfl (.cons rfl (.nil _))) (.cons rfl (.cons rfl (.cons rfl (.cons rfl (.cons rfl (.nil _)))))) (by
            try dsimp only
            refine ⟨by omega, by rw [List.length_append, hol]; rfl, ?_⟩; rw [traceN_succ hz hs he, List.map_append, hom]; unfold spR byV; rw [if_pos hc64]; unfold keyS; rw [← hx.svc, ← hx.op, ← hx.err, ← hx.st, ← hx.en, ← hx.clk]; rfl) (by
            try dsimp only
            omega)
      · -- c64.f
        refine w_skip (st_tn (w_region (zd rfl (op_fieldAddr (off := 9) rfl tF70_9sd) (zd rfl (op_load1 rfl tO3sd (Ent.lab (l := 11) rfl (says_cel 9))) (zm rfl (zd rfl (op_add' rfl rfl (by omega)) ?_))))))
        refine zd rfl (op_fieldAddr (off := 10) rfl tF70_10sd) (zd rfl (op_load1 rfl tO3sd (Ent.lab (l := 11) rfl (says_cel 10))) (zm rfl (zd rfl (op_add' rfl rfl (by omega)) ?_)))
        refine zd rfl (op_fieldAddr (off := 9) rfl tF70_9sd) (wl_op0 [11] rfl rfl rfl (op_store rfl rfl tZ3sd (by rfl) (by rfl) (by exact Nat.le_of_ble_eq_true rfl)) ?_)
        rintro _ _ ⟨rfl, rfl⟩
        refine zd rfl (op_fieldAddr (off := 10) rfl tF70_10sd) (wl_op0 [11] rfl rfl rfl (op_store rfl rfl tZ3sd (by rfl) (by rfl) (by exact Nat.le_of_ble_eq_true rfl)) ?_)
        rintro _ _ ⟨rfl, rfl⟩
        refine wl_nil (st_tn (w_wk 11 (cel b11 (encSp { x with st := x.st + offV S x.clk, en := x.en + offV S x.clk }) 70) rfl (fun _ h => h) ?_))
        refine w_region (zm rfl (zd rfl (op_loadA rfl tA70sd (Ent.lab (l := 11) rfl (says_cel 0)) (Nat.le_of_ble_eq_true rfl)) (wl_op [] rfl rfl rfl rfl (op_buildSlice (enc := encSp) (l := [{ x with st := x.st + offV S x.clk, en := x.en + offV S x.clk }]) (lab := 79) tL58_1sd rfl rfl (fun _ => rfl) rfl) ?_)))
        rintro _ _ ⟨a79, c79, rfl, rfl⟩
        refine wl_op [7] rfl rfl rfl rfl (op_append (lab := 7) (lab' := 80) rfl rfl tP58sd enc1Sp (Sl.lab 79 rfl (by simp [maxLen])) (by first | omega | (simp; done) | (simp; omega) | (simp [*]; omega)) (by first | omega | (simp; done) | (simp; omega) | (simp [*]; omega))) ?_
        rintro _ _ ⟨a80, c80, rfl, rfl⟩
        refine za rfl (wl_nil (st_bn (st_tn (w_region (zm rfl (zd rfl (op_add' rfl rfl (by omega)) ?_))))))
        refine za rfl (wl_nil ?_)
        refine st_roundQ (x := (out, a_out, c_out, i)) ((_, _, _, i + 1)) [80, 3, 20, 21] rfl (rfl) (.cons rfl (.cons rfl (.nil _))) (.cons rfl (.cons rfl (.cons rfl (.cons rfl (.cons rfl (.nil _)))))) (by
            try dsimp only
            refine ⟨by omega, by rw [List.length_append, hol]; rfl, ?_⟩; rw [traceN_succ hz hs he, List.map_append, hom]; unfold spR byV; rw [if_neg hc64, Int.add_zero]; unfold keyS; rw [← hx.svc, ← hx.op, ← hx.err, ← hx.st, ← hx.en, ← hx.clk]; rfl) (by
            try dsimp only
            omega)
  · -- c30.f
    refine w_exit (st_te ?_)
    refine st_te ?_
    refine st_be (st_tn (w_seq (w_region (zm rfl (za rfl (wl_nil (st_tn (w_ret (st_ret (vs := [_]) [7] Tryz.results16 ⟨rfl, trivial⟩ rfl ?_)))))))))
    refine ⟨[(lab, _)], rfl, ?_⟩
    have hin : i = t.calls.length := by omega
    rw [hin] at hom hol
    exact ⟨out, _, _, hom, hol, rfl, rfl⟩
end Go.Proofs.YtecmigildpkigaaGreat.Ser
namespace Go.Proofs.YtecmigildpkigaaGreat.Ser
open Go Go.SL Go.RowKit
set_option linter.unusedVariables false
set_option linter.unusedSimpArgs false
theorem tA27se : aggB Tryz.prog 27 7 = true := by kernel_rfl
theorem tA61se : aggB Tryz.prog 61 3 = true := by kernel_rfl
theorem tB61se : placesB Tryz.prog 61 = some ([(0, 1), (1, 1), (2, 1)], [Value.int .i64 0, Value.int .i64 0, Value.slice none 0 0]) := by kernel_rfl
theorem tF27_0se : fieldB Tryz.prog 27 0 0 = true := by kernel_rfl
theorem tF56_2se : fieldB Tryz.prog 56 2 2 = true := by kernel_rfl
theorem tF61_0se : fieldB Tryz.prog 61 0 0 = true := by kernel_rfl
theorem tL31_1se : zerosB Tryz.prog 31 61 3 1 = some [Value.int .i64 0, Value.int .i64 0, Value.slice none 0 0] := by kernel_rfl
theorem tMixse : Tryz.prog.follows .mixedOrders = true := by kernel_rfl
theorem tN61se : (Tryz.prog.info? 61).bind (·.zero) = some (Value.agg #[Value.int .i64 0, Value.int .i64 0, Value.slice none 0 0]) := by kernel_rfl
theorem tO22se : oneB Tryz.prog 22 = true := by kernel_rfl
theorem tO3se : oneB Tryz.prog 3 = true := by kernel_rfl
theorem tO54se : oneB Tryz.prog 54 = true := by kernel_rfl
theorem tP31se : appB Tryz.prog 31 61 3 40 = true := by kernel_rfl
theorem tS22se : sliceB Tryz.prog 22 56 3 = true := by kernel_rfl
theorem tS31se : sliceB Tryz.prog 31 61 3 = true := by kernel_rfl
theorem tS54se : sliceB Tryz.prog 54 129 11 = true := by kernel_rfl
theorem tZ61se : (Tryz.prog.info? 61).map (·.size) = some 3 := by kernel_rfl
structure TrV where
  id : Int
  w : Int
  a : Option Addr
  c : Nat
  sp : List SpV
def encTr (t : TrV) : List Value := [.int .i64 t.id, .int .i64 t.w, .slice t.a t.sp.length t.c]
theorem enc1Tr : Enc1 encTr 3 := ⟨fun _ => rfl, fun a u h => by simp only [encTr, List.mem_cons, List.not_mem_nil, or_false] at h; rcases h with rfl | rfl | rfl <;> rfl⟩
abbrev PSp := List (Value × List SpV)
def poolT (P : PSp) : Res := pool 70 encSp 14 P
theorem poolT_nil : poolT [] (fun _ => none) := rfl
def keyT (t : TrV) : Int × List SpR := (t.id, t.sp.map keyS)
def InP (P : PSp) (l : List TrV) : Prop := ∀ t ∈ l, (Value.slice t.a t.sp.length t.c, t.sp) ∈ P
abbrev KT := List (Int × List SpR)
def posD (l : KT) (id : Int) : Nat → Nat
  | 0 => 0
  | n + 1 => match l[n]? with
    | some q => if q.1 > id then posD l id n else n + 1
    | none => n + 1
def insK (x : Int × List SpR) (l : KT) : KT := l.take (posD l x.1 l.length) ++ [x] ++ l.drop (posD l x.1 l.length)
def tracesN (S : StoryV) : Nat → KT
  | 0 => []
  | k + 1 => match S.trees[k]? with
    | some t => if t.calls.length = 0 then tracesN S k else insK (idV t k, traceR S k t) (tracesN S k)
    | none => tracesN S k
def tracesR (S : StoryV) : KT := tracesN S S.trees.length
def trcR (n : Nat) (R : List SpR) (a : Option Addr) (c : Nat) : Res := fun mem => ∃ L : List SpV, (L.map keyS = R ∧ L.length = n) ∧ slW 70 encSp 14 (.slice a L.length c) L mem
theorem trc_opens {σ : World} (n : Nat) (R : List SpR) (a : Option Addr) (c : Nat) : Opens σ [trcR n R a c] {L : List SpV // L.map keyS = R ∧ L.length = n} (fun L => [slW 70 encSp 14 (.slice a L.1.length c) L.1]) := fun F w h => by
  obtain ⟨L, h1⟩ := own_ex h
  obtain ⟨h2, h3⟩ := own_and h1
  exact ⟨⟨L, h2⟩, h3⟩
theorem opens_id {σ : World} (A : List Res) : Opens σ A PUnit (fun _ => A) := fun F w h => ⟨⟨⟩, h⟩
theorem trace_c {σ : World} {F : List Res} {S : StoryV} {k : Nat} {t : TreeV} (lab : Nat) (hS : StOk σ F S) (hsh : shortP S) (hk : S.trees[k]? = some t) :
    FnT Tryz.prog σ F 16 [stV S, .int .i64 k, .bool false] [] (fun u ρ => ∃ (a : Option Addr) (c : Nat), u = .slice a t.calls.length c ∧ ρ = [(lab, trcR t.calls.length (traceR S k t) a c)]) :=
  fn_oc (opens_id []) rfl (R := fun _ => []) (fun _ => rfl) (fun _ => trace_any lab hS hsh hk)
    fun i u ρ ⟨L, a, c, h1, h2, h3, h4⟩ => ⟨[(lab, trcR t.calls.length (traceR S k t) a c)], ⟨a, c, by rw [← h2]; exact h3, rfl⟩, by
      rw [h4]
      exact fun F w hw => hw.imp fun mem hm => ⟨L, ⟨h1, h2⟩, hm⟩⟩
theorem tracesN_len {S : StoryV} : ∀ k, (tracesN S k).length ≤ k
  | 0 => by simp [tracesN]
  | k + 1 => by
    have ih := tracesN_len (S := S) k
    rw [tracesN]
    split
    · split
      · omega
      · unfold insK; simp only [List.length_append, List.length_take, List.length_drop, List.length_singleton]; omega
    · omega
set_option maxHeartbeats 2000000 in
set_option maxRecDepth 100000 in
theorem traces_any {σ : World} {F : List Res} {S : StoryV} (lab1 lab2 : Nat) (hS : StOk σ F S) (hsh : shortP S) :
    FnT Tryz.prog σ F 6 [stV S] [] (fun u ρ => ∃ (T : List TrV) (P : PSp) (a : Option Addr) (c : Nat), T.map keyT = tracesR S ∧ InP P T ∧ u = .slice a T.length c ∧ ρ = [(lab1, slW 61 encTr 3 (.slice a T.length c) T), (lab2, poolT P)]) := by
  refine fn_of 59 Tryz.func6 rfl Tryz.ntmps6 rfl ?_
  have hle := hS.tr.i64
  have hst := hsh.2.1
  refine w_seq (w_region (wl_op [] rfl rfl rfl rfl (op_box (T := 27) (l := 1) rfl) ?_))
  rintro _ _ ⟨b1, rfl, rfl⟩
  refine za rfl (wl_nil (st_tn (w_seq (w_emp 605 poolT_nil ?_))))
  refine w_region (za rfl (wl_nil (st_tn (w_seq (w_seq (w_region (za rfl (wl_nil (st_tn (w_block (w_emp 3 (slO_nil 61 3) ?_)))))))))))
  refine w_loopQ (X := List TrV × Option Addr × Nat × Nat × PSp) (fun z => z.2.2.2.1 ≤ S.trees.length ∧ z.1.map keyT = tracesN S z.2.2.2.1 ∧ InP z.2.2.2.2 z.1) (fun z => [(3, .slice (z.2.1) (z.1).length (z.2.2.1)), (4, .int .i64 (z.2.2.2.1))]) (fun z => [(3, slW 61 encTr 3 (.slice (z.2.1) (z.1).length (z.2.2.1)) (z.1)), (605, poolT (z.2.2.2.2))]) (fun z => S.trees.length - z.2.2.2.1) (([], none, 0, 0, [])) [(1, _)] [(1, _)] [3, 605, 1] rfl (rfl) (.cons rfl (.cons rfl (.nil _))) (.cons rfl (.nil _)) (by
      try dsimp only
      exact ⟨Nat.zero_le _, rfl, fun t ht => by simp at ht⟩) ?_
  rintro ⟨out, a_out, c_out, k, P⟩ ⟨hk, hom, hP⟩
  refine w_norm2 (by dsimp only [List.cons_append, List.nil_append]) (by dsimp only [List.cons_append, List.nil_append]) ?_
  try dsimp only at hk hom hP ⊢
  refine w_seq (w_seq (w_region (zm rfl (zd rfl (op_fieldAddr (off := 0) rfl tF27_0se) (zd rfl (op_load1 rfl tO22se (Ent.lab (l := 1) rfl (says_cel 0))) (zd rfl (op_lenT rfl tS22se (Sl.ent (hS.tr.app _))) (zd rfl (op_lss rfl rfl) (wl_nil (st_tn (w_cond_d rfl (fun hc11 => ?_) (fun hc11 => ?_)))))))))))
  · -- c11.t
    obtain ⟨t, hz⟩ := getE (l := S.trees) (i := k) (by omega)
    have htm := List.mem_of_getElem? hz
    have hca := hS.ca t htm
    have hcl := hsh.1 t htm
    have hslb := hS.b.slot t htm
    have hol : out.length ≤ k := by have h1 := tracesN_len (S := S) k; rw [← hom, List.length_map] at h1; exact h1
    refine w_skip (st_tn (w_seq (w_block (w_seq (w_seq (w_region (zd rfl (op_fieldAddr (off := 0) rfl tF27_0se) (zd rfl (op_load1 rfl tO22se (Ent.lab (l := 1) rfl (says_cel 0))) (zm rfl (zd rfl (op_idx rfl rfl tS22se (Sl.ent (hS.tr.app _)) (by omega)) ?_))))))))))
    refine zd rfl (op_fieldAddr (off := 2) rfl tF56_2se) (zd rfl (op_ldxf rfl tO54se (hS.tr.app _) (by assumption) (by rfl)) ?_)
    refine zd rfl (op_lenT rfl tS54se (Sl.ent (hca.app _))) (zd rfl (op_eql rfl rfl) (wl_nil (st_tn (w_cond_d rfl (fun hc21 => ?_) (fun hc21 => ?_)))))
    · -- c21.t
      refine w_exit (st_te ?_)
      refine st_be (st_tn (w_region (zm rfl (zd rfl (op_add' rfl rfl (by omega)) ?_))))
      refine za rfl (wl_nil ?_)
      refine st_roundQ (x := (out, a_out, c_out, k, P)) ((_, _, _, k + 1, P)) [3, 605, 1] rfl (rfl) (.cons rfl (.cons rfl (.nil _))) (.cons rfl (.nil _)) (by
          try dsimp only
          rw [tracesN, hz]; dsimp only; rw [if_pos (by omega)]; exact ⟨by omega, hom, hP⟩) (by
          try dsimp only
          omega)
    · -- c21.f
      refine w_skip (st_tn (w_seq ?_))
      refine w_drawW (fun β => [⟨22, [], [], [], noW (_), false, [], []⟩, ⟨23, [], [], [], noW (_), false, [], []⟩, ⟨24, [0, 1], [], [], noW (_), false, [], []⟩, ⟨25, [], [], [], noW (_), false, [], []⟩, ⟨26, [], [], [], noW (_), false, [], []⟩, ⟨27, [3, 4], [], [], fun w => DetW _ _, false, [], []⟩, ⟨28, [2, 5], [], [], noW (_), false, [], []⟩, ⟨5, [], [], [], fun w => DetW _ _, false, [], []⟩]) [] [1, 4] [⟨22, [], [], false, [], []⟩, ⟨23, [], [], false, [], []⟩, ⟨24, [0, 1], [], false, [], []⟩, ⟨25, [], [], false, [], []⟩, ⟨26, [], [], false, [], []⟩, ⟨27, [3, 4], [], false, [], []⟩, ⟨28, [2, 5], [], false, [], []⟩, ⟨5, [], [], false, [], []⟩] [[], [], [], [], [], [], [5], []] [[], [], [], [], [], [], [], []] tMixse (fun _ => by rfl) (fun _ => by rfl) (by kernel_rfl) (by kernel_rfl) (by rfl) (by rfl)
          (fun β => ⟨.p rfl (by intro X; exact op_loadA rfl tA27se (Ent.lab (l := 1) rfl (says_cel 0)) (Nat.le_of_ble_eq_true rfl)),
          ⟨.p rfl (by intro X; exact op_move rfl),
          ⟨.p rfl (by intro X; rintro _ _ ⟨rfl, rfl⟩ _ _ ⟨rfl, rfl⟩; exact op_fn Tryz.func15 rfl rfl rfl (traceId_any ((hS.app _).app _) hsh hz)),
          ⟨.p rfl (by intro X; exact op_loadA rfl tA27se (Ent.lab (l := 1) rfl (says_cel 0)) (Nat.le_of_ble_eq_true rfl)),
          ⟨.p rfl (by intro X; exact op_move rfl),
          ⟨.px rfl (by intro X; rintro _ _ ⟨rfl, rfl⟩ _ _ ⟨rfl, rfl⟩; refine OpT.mono (op_fn Tryz.func16 rfl rfl rfl (trace_c 27 ((hS.app _).app _) hsh hz)) ?_; rintro _ _ ⟨a27, c27, rfl, rfl⟩; obtain ⟨w, rfl, rfl⟩ : ∃ w : Wt, w.a = a27 ∧ w.c = c27 := ⟨{ a := a27, c := c27 }, rfl, rfl⟩; exact ⟨w, rfl, rfl⟩),
          ⟨.p rfl (by intro X; rintro _ _ ⟨rfl, rfl⟩ _ _ ⟨rfl, rfl⟩; exact op_build tB61se rfl rfl),
          ⟨.px rfl (by intro X; refine OpT.mono (op_alloc (l := 5) tN61se) ?_; rintro _ _ ⟨b5, rfl, rfl⟩; obtain ⟨w, rfl⟩ : ∃ w : Wt, w.b = b5 := ⟨{ b := b5 }, rfl⟩; exact ⟨w, rfl, rfl⟩),
          trivial⟩⟩⟩⟩⟩⟩⟩⟩)
          (fun β β' => ⟨fun _ => by rfl, ⟨fun _ => by rfl, ⟨fun _ => by rfl, ⟨fun _ => by rfl, ⟨fun _ => by rfl, ⟨fun _ => by rfl, ⟨fun h => by first | rfl | (simp only [h 5 (by decide)]), ⟨fun _ => by rfl, trivial⟩⟩⟩⟩⟩⟩⟩⟩) ?_
      intro β
      rintro _ _ ⟨rfl, rfl⟩ _ _ ⟨rfl, rfl⟩ _ _ ⟨rfl, rfl⟩ _ _ ⟨rfl, rfl⟩ _ _ ⟨rfl, rfl⟩ _ _ ⟨rfl, rfl⟩ _ _ ⟨rfl, rfl⟩ _ _ ⟨rfl, rfl⟩
      generalize (β 5).a = a27
      generalize (β 5).c = c27
      generalize (β 7).b = b5
      refine wl_norm (e' := [(1, _), (3, _), (4, _), (5, _), (28, _)]) (.cons rfl (.cons rfl (.cons rfl (.cons rfl (.cons rfl (.nil _)))))) (by dsimp only [cond_false, cond_true, List.nil_append, List.cons_append]) ?_
      refine wl_op0 [5] rfl rfl rfl (op_store rfl rfl tZ61se (by rfl) (by rfl) (by exact Nat.le_of_ble_eq_true rfl)) ?_
      rintro _ _ ⟨rfl, rfl⟩
      refine wl_nil (st_tn (w_seq (w_opn 27 (trc_opens t.calls.length (traceR S k t) a27 c27) (B := fun (L : {L : List SpV // L.map keyS = traceR S k t ∧ L.length = t.calls.length}) => [(27, slW 70 encSp 14 (.slice a27 L.1.length c27) L.1)]) rfl (fun L0 => ?_))))
      obtain ⟨L, hLk, hLn⟩ := L0
      refine w_star 27 605 605 rfl ?_
      refine w_wk 605 (poolT ((.slice a27 L.length c27, L) :: P)) rfl (fun _ h => h) ?_
      refine w_wk 5 (cel b5 (encTr ⟨idV t k, 1, a27, c27, L⟩) 61) rfl (fun _ h => by unfold encTr; dsimp only; rw [hLn]; exact h) ?_
      refine w_region (zm rfl (zd rfl (op_lenT rfl tS31se (Sl.ent (Sl.lab 3 rfl (by unfold maxLen; omega)))) ?_))
      refine za rfl (wl_nil (st_tn (w_seq (w_block ?_))))
      refine w_loopQ (X := Nat) (fun z => z ≤ out.length ∧ posD (out.map keyT) (idV t k) out.length = posD (out.map keyT) (idV t k) z) (fun z => [(6, .int .i64 (z))]) (fun _ => []) (fun z => z) (out.length) [(1, _), (3, _), (4, _), (5, _)] [(1, _), (3, _), (5, _), (605, _)] [1, 3, 5, 605] rfl (rfl) (.cons rfl (.nil _)) (.cons rfl (.cons rfl (.cons rfl (.cons rfl (.nil _))))) (by
          try dsimp only
          exact ⟨Nat.le_refl _, rfl⟩) ?_
      rintro n ⟨hn, hpn⟩
      refine w_norm2 (by dsimp only [List.cons_append, List.nil_append]) (by dsimp only [List.cons_append, List.nil_append]) ?_
      try dsimp only at hn hpn ⊢
      refine w_seq (w_seq ?_)
      by_cases hz0 : (n : Int) > 0
      · -- hz0 True
        refine Exists.elim (getE (l := out) (i := n - 1) (by omega)) (fun x hx => ?_)
        refine w_drawW (fun β => [⟨31, [], [], [], noW (_), false, [], []⟩, ⟨32, [0], [], [], noW (_), false, [], []⟩, ⟨33, [1], [], [], noW (_), false, [], []⟩, ⟨34, [], [], [], noW (_), false, [], []⟩, ⟨35, [], [], [], noW (_), false, [], []⟩, ⟨36, [4], [], [], noW (_), false, [], []⟩, ⟨37, [3, 5], [], [], noW (_), false, [], []⟩, ⟨38, [6], [], [], noW (_), false, [], []⟩, ⟨39, [7], [], [], noW (_), false, [], []⟩, ⟨40, [], [], [], noW (_), false, [], []⟩, ⟨41, [9], [], [], noW (_), false, [], []⟩, ⟨42, [8, 10], [], [], noW (_), false, [], []⟩, ⟨43, [2, 11], [], [], noW (_), false, [], []⟩]) [] [6, 3, 5] [⟨31, [], [], false, [], []⟩, ⟨32, [0], [], false, [], []⟩, ⟨33, [1], [], false, [], []⟩, ⟨34, [], [], false, [], []⟩, ⟨35, [], [], false, [], []⟩, ⟨36, [4], [], false, [], []⟩, ⟨37, [3, 5], [], false, [], []⟩, ⟨38, [6], [], false, [], []⟩, ⟨39, [7], [], false, [], []⟩, ⟨40, [], [], false, [], []⟩, ⟨41, [9], [], false, [], []⟩, ⟨42, [8, 10], [], false, [], []⟩, ⟨43, [2, 11], [], false, [], []⟩] [[], [], [], [], [], [], [], [], [], [], [], [], []] [[], [], [], [], [], [], [], [], [], [], [], [], []] tMixse (fun _ => by rfl) (fun _ => by rfl) (by kernel_rfl) (by kernel_rfl) (by rfl) (by rfl)
            (fun β => ⟨.p rfl (by intro X; exact op_move rfl),
            ⟨.p rfl (by intro X; rintro _ _ ⟨rfl, rfl⟩; exact op_gtr rfl rfl),
            ⟨.p rfl (by intro X; rintro _ _ ⟨rfl, rfl⟩; exact op_move rfl),
            ⟨.w rfl rfl rfl (by rintro _ _ ⟨rfl, rfl⟩; first | rfl | (exact congrArg Value.bool (decide_eq_true (by omega))) | (exact congrArg Value.bool (decide_eq_false (by omega))) | (simp; done) | (simp; omega) | (simp [*]; done)) (by intro X; exact op_move rfl),
            ⟨.w rfl rfl rfl (by rintro _ _ ⟨rfl, rfl⟩; first | rfl | (exact congrArg Value.bool (decide_eq_true (by omega))) | (exact congrArg Value.bool (decide_eq_false (by omega))) | (simp; done) | (simp; omega) | (simp [*]; done)) (by intro X; exact op_move rfl),
            ⟨.w rfl rfl rfl (by rintro _ _ ⟨rfl, rfl⟩; first | rfl | (exact congrArg Value.bool (decide_eq_true (by omega))) | (exact congrArg Value.bool (decide_eq_false (by omega))) | (simp; done) | (simp; omega) | (simp [*]; done)) (by intro X; rintro _ _ ⟨rfl, rfl⟩; exact op_val (v' := .int .i64 ((n - 1 : Nat) : Int)) (by rw [show ((n - 1 : Nat) : Int) = (n : Int) - 1 by omega]) (op_sub' rfl rfl (by omega))),
            ⟨.w rfl rfl rfl (by rintro _ _ ⟨rfl, rfl⟩; first | rfl | (exact congrArg Value.bool (decide_eq_true (by omega))) | (exact congrArg Value.bool (decide_eq_false (by omega))) | (simp; done) | (simp; omega) | (simp [*]; done)) (by intro X; rintro _ _ ⟨rfl, rfl⟩ _ _ ⟨rfl, rfl⟩; exact op_idx rfl rfl tS31se (Sl.ent (Sl.lab 3 rfl (by unfold maxLen; omega))) (by omega)),
            ⟨.w rfl rfl rfl (by rintro _ _ ⟨rfl, rfl⟩; first | rfl | (exact congrArg Value.bool (decide_eq_true (by omega))) | (exact congrArg Value.bool (decide_eq_false (by omega))) | (simp; done) | (simp; omega) | (simp [*]; done)) (by intro X; rintro _ _ ⟨rfl, rfl⟩; exact op_fieldAddr (off := 0) rfl tF61_0se),
            ⟨.w rfl rfl rfl (by rintro _ _ ⟨rfl, rfl⟩; first | rfl | (exact congrArg Value.bool (decide_eq_true (by omega))) | (exact congrArg Value.bool (decide_eq_false (by omega))) | (simp; done) | (simp; omega) | (simp [*]; done)) (by intro X; rintro _ _ ⟨rfl, rfl⟩; exact op_ldxf rfl tO3se (Sl.lab 3 rfl (by unfold maxLen; omega)) (by assumption) (by rfl)),
            ⟨.w rfl rfl rfl (by rintro _ _ ⟨rfl, rfl⟩; first | rfl | (exact congrArg Value.bool (decide_eq_true (by omega))) | (exact congrArg Value.bool (decide_eq_false (by omega))) | (simp; done) | (simp; omega) | (simp [*]; done)) (by intro X; exact op_fieldAddr (off := 0) rfl tF61_0se),
            ⟨.w rfl rfl rfl (by rintro _ _ ⟨rfl, rfl⟩; first | rfl | (exact congrArg Value.bool (decide_eq_true (by omega))) | (exact congrArg Value.bool (decide_eq_false (by omega))) | (simp; done) | (simp; omega) | (simp [*]; done)) (by intro X; rintro _ _ ⟨rfl, rfl⟩; exact op_load1 rfl tO3se (Ent.lab (l := 5) rfl (says_cel 0))),
            ⟨.w rfl rfl rfl (by rintro _ _ ⟨rfl, rfl⟩; first | rfl | (exact congrArg Value.bool (decide_eq_true (by omega))) | (exact congrArg Value.bool (decide_eq_false (by omega))) | (simp; done) | (simp; omega) | (simp [*]; done)) (by intro X; rintro _ _ ⟨rfl, rfl⟩ _ _ ⟨rfl, rfl⟩; exact op_gtr rfl rfl),
            ⟨.p rfl (by intro X; rintro _ _ ⟨rfl, rfl⟩ _ _ ⟨rfl, rfl⟩; exact op_pick_t (by first | rfl | (show some (Value.bool (decide _)) = _; rw [decide_eq_true (by omega)]) | (show some (Value.bool (decide _)) = _; rw [decide_eq_false (by omega)]) | (simp [ev, lk]; done) | (simp [ev, lk]; omega) | (simp [ev, lk, *]; done)) rfl),
            trivial⟩⟩⟩⟩⟩⟩⟩⟩⟩⟩⟩⟩⟩)
            (fun β β' => ⟨fun _ => by rfl, ⟨fun _ => by rfl, ⟨fun _ => by rfl, ⟨fun _ => by rfl, ⟨fun _ => by rfl, ⟨fun _ => by rfl, ⟨fun _ => by rfl, ⟨fun _ => by rfl, ⟨fun _ => by rfl, ⟨fun _ => by rfl, ⟨fun _ => by rfl, ⟨fun _ => by rfl, ⟨fun _ => by rfl, trivial⟩⟩⟩⟩⟩⟩⟩⟩⟩⟩⟩⟩⟩) ?_
        intro β
        rintro _ _ ⟨rfl, rfl⟩ _ _ ⟨rfl, rfl⟩ _ _ ⟨rfl, rfl⟩ _ _ ⟨rfl, rfl⟩ _ _ ⟨rfl, rfl⟩ _ _ ⟨rfl, rfl⟩ _ _ ⟨rfl, rfl⟩ _ _ ⟨rfl, rfl⟩ _ _ ⟨rfl, rfl⟩ _ _ ⟨rfl, rfl⟩ _ _ ⟨rfl, rfl⟩ _ _ ⟨rfl, rfl⟩ _ _ ⟨rfl, rfl⟩
        refine wl_norm (e' := [(1, _), (3, _), (4, _), (5, _), (6, _), (43, _)]) (.cons rfl (.cons rfl (.cons rfl (.cons rfl (.cons rfl (.cons rfl (.nil _))))))) (by dsimp only [cond_false, cond_true, List.nil_append, List.cons_append]) ?_
        refine wl_nil (st_tn (w_cond_d rfl (fun hc43 => ?_) (fun hc43 => ?_)))
        · -- c43.t
          refine w_skip (st_tn (w_block (w_region (zm rfl (zd rfl (op_val (v' := .int .i64 ((n - 1 : Nat) : Int)) (by rw [show ((n - 1 : Nat) : Int) = (n : Int) - 1 by omega]) (op_sub' rfl rfl (by omega))) ?_)))))
          refine za rfl (wl_nil (st_bn ?_))
          refine st_roundQ (x := n) (n - 1) [1, 3, 5, 605] rfl (rfl) (.cons rfl (.nil _)) (.cons rfl (.cons rfl (.cons rfl (.cons rfl (.nil _))))) (by
              try dsimp only
              refine ⟨by omega, ?_⟩; rw [hpn]; obtain ⟨m, rfl⟩ : ∃ m, n = m + 1 := ⟨n - 1, by omega⟩; rw [posD, List.getElem?_map, show out[m]? = some x from hx]; dsimp only [Option.map_some]; exact if_pos hc43) (by
              try dsimp only
              omega)
        · -- c43.f
          refine w_exit (st_te ?_)
          refine st_te ?_
          refine st_be (st_tn ?_)
          have hpos : posD (out.map keyT) (idV t k) out.length = n := by
            rw [hpn]
            clear hpn
            cases n with
            | zero => rfl
            | succ m =>
              rw [posD, List.getElem?_map, show out[m]? = some x from hx]
              dsimp only [Option.map_some]
              exact if_neg hc43
          refine w_drawW (fun β => [⟨46, [], [], [], fun w => DetW _ _, true, [], []⟩, ⟨47, [], [], [], noW (_), false, [], []⟩, ⟨48, [], [], [], noW (_), false, [], []⟩, ⟨49, [1, 2], [], [], noW (_), false, [], []⟩, ⟨50, [3], [0], [], fun w => DetW _ _, true, [], []⟩, ⟨51, [], [], [], noW (_), false, [], []⟩, ⟨52, [5], [], [], fun w => DetW _ _, false, [], []⟩, ⟨53, [6], [4], [], fun w => DetW _ _, false, [], []⟩, ⟨54, [], [], [], noW (_), false, [], []⟩, ⟨55, [], [], [], noW (_), false, [], []⟩, ⟨56, [8, 9], [], [], noW (_), false, [], []⟩]) [] [3, 6, 5] [⟨46, [], [], true, [], []⟩, ⟨47, [], [], false, [], []⟩, ⟨48, [], [], false, [], []⟩, ⟨49, [1, 2], [], false, [], []⟩, ⟨50, [3], [0], true, [], []⟩, ⟨51, [], [], false, [], []⟩, ⟨52, [5], [], false, [], []⟩, ⟨53, [6], [4], false, [], []⟩, ⟨54, [], [], false, [], []⟩, ⟨55, [], [], false, [], []⟩, ⟨56, [8, 9], [], false, [], []⟩] [[], [], [], [], [0], [], [], [0, 4, 6], [], [], []] [[], [], [], [], [], [], [], [], [], [], []] tMixse (fun _ => by rfl) (fun _ => by rfl) (by kernel_rfl) (by kernel_rfl) (by rfl) (by rfl)
              (fun β => ⟨.px rfl (by intro X; refine OpT.mono (op_lit0 (enc := encTr) (lab := 46) tS31se) ?_; rintro _ _ ⟨a46, c46, rfl, rfl⟩; obtain ⟨w, rfl, rfl⟩ : ∃ w : Wt, w.a = a46 ∧ w.c = c46 := ⟨{ a := a46, c := c46 }, rfl, rfl⟩; exact ⟨w, rfl, rfl⟩),
              ⟨.p rfl (by intro X; exact op_move rfl),
              ⟨.p rfl (by intro X; exact op_move rfl),
              ⟨.p rfl (by intro X; rintro _ _ ⟨rfl, rfl⟩ _ _ ⟨rfl, rfl⟩; exact op_sliceR rfl rfl tS31se (Sl.lab 3 rfl (by unfold maxLen; omega)) (by omega)),
              ⟨.px rfl (by intro X; rintro _ _ ⟨rfl, rfl⟩ _ _ ⟨rfl, rfl⟩; show OpT _ _ _ _ _ _ [(_, _)] _; refine OpT.mono (op_append (lab := 46) (lab' := 50) rfl rfl tP31se enc1Tr (Sl.sub (Sl.lab 3 rfl (by unfold maxLen; omega)) (lo := 0) (hi := n) (by omega) (by omega)) (by first | omega | (simp; done) | (simp; omega) | (simp [*]; omega)) (by first | omega | (simp; done) | (simp; omega) | (simp [*]; omega))) ?_; rintro _ _ ⟨a50, c50, rfl, rfl⟩; obtain ⟨w, rfl, rfl⟩ : ∃ w : Wt, w.a = a50 ∧ w.c = c50 := ⟨{ a := a50, c := c50 }, rfl, rfl⟩; exact ⟨w, rfl, rfl⟩),
              ⟨.p rfl (by intro X; exact op_loadA rfl tA61se (Ent.lab (l := 5) rfl (says_cel 0)) (Nat.le_of_ble_eq_true rfl)),
              ⟨.px rfl (by intro X; rintro _ _ ⟨rfl, rfl⟩; refine OpT.mono (op_buildSlice (enc := encTr) (l := [⟨idV t k, 1, a27, c27, L⟩]) (lab := 52) tL31_1se rfl rfl (fun _ => rfl) rfl) ?_; rintro _ _ ⟨a52, c52, rfl, rfl⟩; obtain ⟨w, rfl, rfl⟩ : ∃ w : Wt, w.a = a52 ∧ w.c = c52 := ⟨{ a := a52, c := c52 }, rfl, rfl⟩; exact ⟨w, rfl, rfl⟩),
              ⟨.px rfl (by intro X; rintro _ _ ⟨rfl, rfl⟩ _ _ ⟨rfl, rfl⟩; show OpT _ _ _ _ _ _ [(_, _)] _; refine OpT.mono (op_append (lab := 50) (lab' := 53) rfl rfl tP31se enc1Tr (Sl.lab 52 rfl (by simp [maxLen])) (by first | omega | (simp; done) | (simp; omega) | (simp [*]; omega)) (by first | omega | (simp; done) | (simp; omega) | (simp [*]; omega))) ?_; rintro _ _ ⟨a53, c53, rfl, rfl⟩; obtain ⟨w, rfl, rfl⟩ : ∃ w : Wt, w.a = a53 ∧ w.c = c53 := ⟨{ a := a53, c := c53 }, rfl, rfl⟩; exact ⟨w, rfl, rfl⟩),
              ⟨.p rfl (by intro X; exact op_move rfl),
              ⟨.p rfl (by intro X; exact op_move rfl),
              ⟨.p rfl (by intro X; rintro _ _ ⟨rfl, rfl⟩ _ _ ⟨rfl, rfl⟩; exact op_sliceL rfl rfl tS31se (Sl.lab 3 rfl (by unfold maxLen; omega)) (by omega)),
              trivial⟩⟩⟩⟩⟩⟩⟩⟩⟩⟩⟩)
              (fun β β' => ⟨fun _ => by rfl, ⟨fun _ => by rfl, ⟨fun _ => by rfl, ⟨fun _ => by rfl, ⟨fun h => by first | rfl | (simp only [h 0 (by decide)]), ⟨fun _ => by rfl, ⟨fun _ => by rfl, ⟨fun h => by first | rfl | (simp only [h 0 (by decide), h 4 (by decide), h 6 (by decide)]), ⟨fun _ => by rfl, ⟨fun _ => by rfl, ⟨fun _ => by rfl, trivial⟩⟩⟩⟩⟩⟩⟩⟩⟩⟩⟩) ?_
          intro β
          rintro _ _ ⟨rfl, rfl⟩ _ _ ⟨rfl, rfl⟩ _ _ ⟨rfl, rfl⟩ _ _ ⟨rfl, rfl⟩ _ _ ⟨rfl, rfl⟩ _ _ ⟨rfl, rfl⟩ _ _ ⟨rfl, rfl⟩ _ _ ⟨rfl, rfl⟩ _ _ ⟨rfl, rfl⟩ _ _ ⟨rfl, rfl⟩ _ _ ⟨rfl, rfl⟩
          generalize (β 0).a = a46
          generalize (β 0).c = c46
          generalize (β 4).a = a50
          generalize (β 4).c = c50
          generalize (β 6).a = a52
          generalize (β 6).c = c52
          generalize (β 7).a = a53
          generalize (β 7).c = c53
          refine wl_norm (e' := [(1, _), (4, _), (53, _), (56, _)]) (.cons rfl (.cons rfl (.cons rfl (.cons rfl (.nil _))))) (by dsimp only [cond_false, cond_true, List.nil_append, List.cons_append]) ?_
          refine wl_op [53] rfl rfl rfl rfl (op_append (lab := 53) (lab' := 57) rfl rfl tP31se enc1Tr (Sl.sub (Sl.lab 3 rfl (by unfold maxLen; omega)) (lo := n) (hi := out.length) (by omega) (by omega)) (by first | omega | (simp; done) | (simp; omega) | (simp [*]; omega)) (by first | omega | (simp; done) | (simp; omega) | (simp [*]; omega))) ?_
          rintro _ _ ⟨a57, c57, rfl, rfl⟩
          refine za rfl (wl_nil (st_bn (st_tn (w_region (zm rfl (zd rfl (op_add' rfl rfl (by omega)) ?_))))))
          refine za rfl (wl_nil ?_)
          refine st_roundQ (x := (out, a_out, c_out, k, P)) ((_, _, _, k + 1, ((.slice a27 L.length c27, L) :: P))) [57, 605, 1] rfl (rfl) (.cons rfl (.cons rfl (.nil _))) (.cons rfl (.nil _)) (by
              try dsimp only
              refine ⟨by omega, ?_, ?_⟩
              · rw [tracesN, hz]; dsimp only; rw [if_neg (by omega), ← hom]; unfold insK
                have hq : posD (out.map keyT) (idV t k) (out.map keyT).length = n := by rw [List.length_map]; exact hpos
                dsimp only
                rw [hq, List.drop_zero, List.take_length, List.map_append, List.map_append, List.map_take, List.map_drop, ← hLk]; rfl
              · intro q hq
                rcases List.mem_append.1 hq with hq | hq
                · rcases List.mem_append.1 hq with hq | hq
                  · exact List.mem_cons_of_mem _ (hP q (List.mem_of_mem_take (List.mem_of_mem_drop hq)))
                  · rw [List.mem_singleton] at hq; subst hq; exact List.mem_cons_self
                · exact List.mem_cons_of_mem _ (hP q (List.mem_of_mem_take (List.mem_of_mem_drop hq)))) (by
              try dsimp only
              omega)
      · -- hz0 False
        refine w_drawW (fun β => [⟨31, [], [], [], noW (_), false, [], []⟩, ⟨32, [0], [], [], noW (_), false, [], []⟩, ⟨33, [1], [], [], noW (_), false, [], []⟩, ⟨34, [], [], [], noW (Det undef), false, [], []⟩, ⟨35, [], [], [], noW (Det undef), false, [], []⟩, ⟨36, [], [], [], noW (Det undef), false, [], []⟩, ⟨37, [], [], [], noW (Det undef), false, [], []⟩, ⟨38, [], [], [], noW (Det undef), false, [], []⟩, ⟨39, [], [], [], noW (Det undef), false, [], []⟩, ⟨40, [], [], [], noW (Det undef), false, [], []⟩, ⟨41, [], [], [], noW (Det undef), false, [], []⟩, ⟨42, [], [], [], noW (Det undef), false, [], []⟩, ⟨43, [2, 11], [], [], noW (_), false, [], []⟩]) [] [6, 3, 5] [⟨31, [], [], false, [], []⟩, ⟨32, [0], [], false, [], []⟩, ⟨33, [1], [], false, [], []⟩, ⟨34, [], [], false, [], []⟩, ⟨35, [], [], false, [], []⟩, ⟨36, [], [], false, [], []⟩, ⟨37, [], [], false, [], []⟩, ⟨38, [], [], false, [], []⟩, ⟨39, [], [], false, [], []⟩, ⟨40, [], [], false, [], []⟩, ⟨41, [], [], false, [], []⟩, ⟨42, [], [], false, [], []⟩, ⟨43, [2, 11], [], false, [], []⟩] [[], [], [], [], [], [], [], [], [], [], [], [], []] [[], [], [], [], [], [], [], [], [], [], [], [], []] tMixse (fun _ => by rfl) (fun _ => by rfl) (by kernel_rfl) (by kernel_rfl) (by rfl) (by rfl)
            (fun β => ⟨.p rfl (by intro X; exact op_move rfl),
            ⟨.p rfl (by intro X; rintro _ _ ⟨rfl, rfl⟩; exact op_gtr rfl rfl),
            ⟨.p rfl (by intro X; rintro _ _ ⟨rfl, rfl⟩; exact op_move rfl),
            ⟨.u rfl rfl rfl (by rintro _ _ ⟨rfl, rfl⟩; exact congrArg (offB true) (by first | rfl | (exact congrArg Value.bool (decide_eq_true (by omega))) | (exact congrArg Value.bool (decide_eq_false (by omega))) | (simp; done) | (simp; omega) | (simp [*]; done) : _ = Value.bool false)) ⟨rfl, rfl⟩ rfl rfl,
            ⟨.u rfl rfl rfl (by rintro _ _ ⟨rfl, rfl⟩; exact congrArg (offB true) (by first | rfl | (exact congrArg Value.bool (decide_eq_true (by omega))) | (exact congrArg Value.bool (decide_eq_false (by omega))) | (simp; done) | (simp; omega) | (simp [*]; done) : _ = Value.bool false)) ⟨rfl, rfl⟩ rfl rfl,
            ⟨.u rfl rfl rfl (by rintro _ _ ⟨rfl, rfl⟩; exact congrArg (offB true) (by first | rfl | (exact congrArg Value.bool (decide_eq_true (by omega))) | (exact congrArg Value.bool (decide_eq_false (by omega))) | (simp; done) | (simp; omega) | (simp [*]; done) : _ = Value.bool false)) ⟨rfl, rfl⟩ rfl rfl,
            ⟨.u rfl rfl rfl (by rintro _ _ ⟨rfl, rfl⟩; exact congrArg (offB true) (by first | rfl | (exact congrArg Value.bool (decide_eq_true (by omega))) | (exact congrArg Value.bool (decide_eq_false (by omega))) | (simp; done) | (simp; omega) | (simp [*]; done) : _ = Value.bool false)) ⟨rfl, rfl⟩ rfl rfl,
            ⟨.u rfl rfl rfl (by rintro _ _ ⟨rfl, rfl⟩; exact congrArg (offB true) (by first | rfl | (exact congrArg Value.bool (decide_eq_true (by omega))) | (exact congrArg Value.bool (decide_eq_false (by omega))) | (simp; done) | (simp; omega) | (simp [*]; done) : _ = Value.bool false)) ⟨rfl, rfl⟩ rfl rfl,
            ⟨.u rfl rfl rfl (by rintro _ _ ⟨rfl, rfl⟩; exact congrArg (offB true) (by first | rfl | (exact congrArg Value.bool (decide_eq_true (by omega))) | (exact congrArg Value.bool (decide_eq_false (by omega))) | (simp; done) | (simp; omega) | (simp [*]; done) : _ = Value.bool false)) ⟨rfl, rfl⟩ rfl rfl,
            ⟨.u rfl rfl rfl (by rintro _ _ ⟨rfl, rfl⟩; exact congrArg (offB true) (by first | rfl | (exact congrArg Value.bool (decide_eq_true (by omega))) | (exact congrArg Value.bool (decide_eq_false (by omega))) | (simp; done) | (simp; omega) | (simp [*]; done) : _ = Value.bool false)) ⟨rfl, rfl⟩ rfl rfl,
            ⟨.u rfl rfl rfl (by rintro _ _ ⟨rfl, rfl⟩; exact congrArg (offB true) (by first | rfl | (exact congrArg Value.bool (decide_eq_true (by omega))) | (exact congrArg Value.bool (decide_eq_false (by omega))) | (simp; done) | (simp; omega) | (simp [*]; done) : _ = Value.bool false)) ⟨rfl, rfl⟩ rfl rfl,
            ⟨.u rfl rfl rfl (by rintro _ _ ⟨rfl, rfl⟩; exact congrArg (offB true) (by first | rfl | (exact congrArg Value.bool (decide_eq_true (by omega))) | (exact congrArg Value.bool (decide_eq_false (by omega))) | (simp; done) | (simp; omega) | (simp [*]; done) : _ = Value.bool false)) ⟨rfl, rfl⟩ rfl rfl,
            ⟨.p rfl (by intro X; rintro _ _ ⟨rfl, rfl⟩ _ _ ⟨rfl, rfl⟩; exact op_pick_f (by first | rfl | (show some (Value.bool (decide _)) = _; rw [decide_eq_true (by omega)]) | (show some (Value.bool (decide _)) = _; rw [decide_eq_false (by omega)]) | (simp [ev, lk]; done) | (simp [ev, lk]; omega) | (simp [ev, lk, *]; done)) rfl),
            trivial⟩⟩⟩⟩⟩⟩⟩⟩⟩⟩⟩⟩⟩)
            (fun β β' => ⟨fun _ => by rfl, ⟨fun _ => by rfl, ⟨fun _ => by rfl, ⟨fun _ => by rfl, ⟨fun _ => by rfl, ⟨fun _ => by rfl, ⟨fun _ => by rfl, ⟨fun _ => by rfl, ⟨fun _ => by rfl, ⟨fun _ => by rfl, ⟨fun _ => by rfl, ⟨fun _ => by rfl, ⟨fun _ => by rfl, trivial⟩⟩⟩⟩⟩⟩⟩⟩⟩⟩⟩⟩⟩) ?_
        intro β
        rintro _ _ ⟨rfl, rfl⟩ _ _ ⟨rfl, rfl⟩ _ _ ⟨rfl, rfl⟩ _ _ ⟨rfl, rfl⟩ _ _ ⟨rfl, rfl⟩ _ _ ⟨rfl, rfl⟩ _ _ ⟨rfl, rfl⟩ _ _ ⟨rfl, rfl⟩ _ _ ⟨rfl, rfl⟩ _ _ ⟨rfl, rfl⟩ _ _ ⟨rfl, rfl⟩ _ _ ⟨rfl, rfl⟩ _ _ ⟨rfl, rfl⟩
        refine wl_norm (e' := [(1, _), (3, _), (4, _), (5, _), (6, _), (43, _)]) (.cons rfl (.cons rfl (.cons rfl (.cons rfl (.cons rfl (.cons rfl (.nil _))))))) (by dsimp only [cond_false, cond_true, List.nil_append, List.cons_append]) ?_
        refine wl_nil (st_tn (w_cond_f (rfl) ?_))
        refine w_exit (st_te ?_)
        refine st_te ?_
        refine st_be (st_tn ?_)
        have hpos : posD (out.map keyT) (idV t k) out.length = n := by
          rw [hpn, show n = 0 by omega]; rfl
        refine w_drawW (fun β => [⟨46, [], [], [], fun w => DetW _ _, true, [], []⟩, ⟨47, [], [], [], noW (_), false, [], []⟩, ⟨48, [], [], [], noW (_), false, [], []⟩, ⟨49, [1, 2], [], [], noW (_), false, [], []⟩, ⟨50, [3], [0], [], fun w => DetW _ _, true, [], []⟩, ⟨51, [], [], [], noW (_), false, [], []⟩, ⟨52, [5], [], [], fun w => DetW _ _, false, [], []⟩, ⟨53, [6], [4], [], fun w => DetW _ _, false, [], []⟩, ⟨54, [], [], [], noW (_), false, [], []⟩, ⟨55, [], [], [], noW (_), false, [], []⟩, ⟨56, [8, 9], [], [], noW (_), false, [], []⟩]) [] [3, 6, 5] [⟨46, [], [], true, [], []⟩, ⟨47, [], [], false, [], []⟩, ⟨48, [], [], false, [], []⟩, ⟨49, [1, 2], [], false, [], []⟩, ⟨50, [3], [0], true, [], []⟩, ⟨51, [], [], false, [], []⟩, ⟨52, [5], [], false, [], []⟩, ⟨53, [6], [4], false, [], []⟩, ⟨54, [], [], false, [], []⟩, ⟨55, [], [], false, [], []⟩, ⟨56, [8, 9], [], false, [], []⟩] [[], [], [], [], [0], [], [], [0, 4, 6], [], [], []] [[], [], [], [], [], [], [], [], [], [], []] tMixse (fun _ => by rfl) (fun _ => by rfl) (by kernel_rfl) (by kernel_rfl) (by rfl) (by rfl)
            (fun β => ⟨.px rfl (by intro X; refine OpT.mono (op_lit0 (enc := encTr) (lab := 46) tS31se) ?_; rintro _ _ ⟨a46, c46, rfl, rfl⟩; obtain ⟨w, rfl, rfl⟩ : ∃ w : Wt, w.a = a46 ∧ w.c = c46 := ⟨{ a := a46, c := c46 }, rfl, rfl⟩; exact ⟨w, rfl, rfl⟩),
            ⟨.p rfl (by intro X; exact op_move rfl),
            ⟨.p rfl (by intro X; exact op_move rfl),
            ⟨.p rfl (by intro X; rintro _ _ ⟨rfl, rfl⟩ _ _ ⟨rfl, rfl⟩; exact op_sliceR rfl rfl tS31se (Sl.lab 3 rfl (by unfold maxLen; omega)) (by omega)),
            ⟨.px rfl (by intro X; rintro _ _ ⟨rfl, rfl⟩ _ _ ⟨rfl, rfl⟩; show OpT _ _ _ _ _ _ [(_, _)] _; refine OpT.mono (op_append (lab := 46) (lab' := 50) rfl rfl tP31se enc1Tr (Sl.sub (Sl.lab 3 rfl (by unfold maxLen; omega)) (lo := 0) (hi := n) (by omega) (by omega)) (by first | omega | (simp; done) | (simp; omega) | (simp [*]; omega)) (by first | omega | (simp; done) | (simp; omega) | (simp [*]; omega))) ?_; rintro _ _ ⟨a50, c50, rfl, rfl⟩; obtain ⟨w, rfl, rfl⟩ : ∃ w : Wt, w.a = a50 ∧ w.c = c50 := ⟨{ a := a50, c := c50 }, rfl, rfl⟩; exact ⟨w, rfl, rfl⟩),
            ⟨.p rfl (by intro X; exact op_loadA rfl tA61se (Ent.lab (l := 5) rfl (says_cel 0)) (Nat.le_of_ble_eq_true rfl)),
            ⟨.px rfl (by intro X; rintro _ _ ⟨rfl, rfl⟩; refine OpT.mono (op_buildSlice (enc := encTr) (l := [⟨idV t k, 1, a27, c27, L⟩]) (lab := 52) tL31_1se rfl rfl (fun _ => rfl) rfl) ?_; rintro _ _ ⟨a52, c52, rfl, rfl⟩; obtain ⟨w, rfl, rfl⟩ : ∃ w : Wt, w.a = a52 ∧ w.c = c52 := ⟨{ a := a52, c := c52 }, rfl, rfl⟩; exact ⟨w, rfl, rfl⟩),
            ⟨.px rfl (by intro X; rintro _ _ ⟨rfl, rfl⟩ _ _ ⟨rfl, rfl⟩; show OpT _ _ _ _ _ _ [(_, _)] _; refine OpT.mono (op_append (lab := 50) (lab' := 53) rfl rfl tP31se enc1Tr (Sl.lab 52 rfl (by simp [maxLen])) (by first | omega | (simp; done) | (simp; omega) | (simp [*]; omega)) (by first | omega | (simp; done) | (simp; omega) | (simp [*]; omega))) ?_; rintro _ _ ⟨a53, c53, rfl, rfl⟩; obtain ⟨w, rfl, rfl⟩ : ∃ w : Wt, w.a = a53 ∧ w.c = c53 := ⟨{ a := a53, c := c53 }, rfl, rfl⟩; exact ⟨w, rfl, rfl⟩),
            ⟨.p rfl (by intro X; exact op_move rfl),
            ⟨.p rfl (by intro X; exact op_move rfl),
            ⟨.p rfl (by intro X; rintro _ _ ⟨rfl, rfl⟩ _ _ ⟨rfl, rfl⟩; exact op_sliceL rfl rfl tS31se (Sl.lab 3 rfl (by unfold maxLen; omega)) (by omega)),
            trivial⟩⟩⟩⟩⟩⟩⟩⟩⟩⟩⟩)
            (fun β β' => ⟨fun _ => by rfl, ⟨fun _ => by rfl, ⟨fun _ => by rfl, ⟨fun _ => by rfl, ⟨fun h => by first | rfl | (simp only [h 0 (by decide)]), ⟨fun _ => by rfl, ⟨fun _ => by rfl, ⟨fun h => by first | rfl | (simp only [h 0 (by decide), h 4 (by decide), h 6 (by decide)]), ⟨fun _ => by rfl, ⟨fun _ => by rfl, ⟨fun _ => by rfl, trivial⟩⟩⟩⟩⟩⟩⟩⟩⟩⟩⟩) ?_
        intro β
        rintro _ _ ⟨rfl, rfl⟩ _ _ ⟨rfl, rfl⟩ _ _ ⟨rfl, rfl⟩ _ _ ⟨rfl, rfl⟩ _ _ ⟨rfl, rfl⟩ _ _ ⟨rfl, rfl⟩ _ _ ⟨rfl, rfl⟩ _ _ ⟨rfl, rfl⟩ _ _ ⟨rfl, rfl⟩ _ _ ⟨rfl, rfl⟩ _ _ ⟨rfl, rfl⟩
        generalize (β 0).a = a46
        generalize (β 0).c = c46
        generalize (β 4).a = a50
        generalize (β 4).c = c50
        generalize (β 6).a = a52
        generalize (β 6).c = c52
        generalize (β 7).a = a53
        generalize (β 7).c = c53
        refine wl_norm (e' := [(1, _), (4, _), (53, _), (56, _)]) (.cons rfl (.cons rfl (.cons rfl (.cons rfl (.nil _))))) (by dsimp only [cond_false, cond_true, List.nil_append, List.cons_append]) ?_
        refine wl_op [53] rfl rfl rfl rfl (op_append (lab := 53) (lab' := 57) rfl rfl tP31se enc1Tr (Sl.sub (Sl.lab 3 rfl (by unfold maxLen; omega)) (lo := n) (hi := out.length) (by omega) (by omega)) (by first | omega | (simp; done) | (simp; omega) | (simp [*]; omega)) (by first | omega | (simp; done) | (simp; omega) | (simp [*]; omega))) ?_
        rintro _ _ ⟨a57, c57, rfl, rfl⟩
        refine za rfl (wl_nil (st_bn (st_tn (w_region (zm rfl (zd rfl (op_add' rfl rfl (by omega)) ?_))))))
        refine za rfl (wl_nil ?_)
        refine st_roundQ (x := (out, a_out, c_out, k, P)) ((_, _, _, k + 1, ((.slice a27 L.length c27, L) :: P))) [57, 605, 1] rfl (rfl) (.cons rfl (.cons rfl (.nil _))) (.cons rfl (.nil _)) (by
            try dsimp only
            refine ⟨by omega, ?_, ?_⟩
            · rw [tracesN, hz]; dsimp only; rw [if_neg (by omega), ← hom]; unfold insK
              have hq : posD (out.map keyT) (idV t k) (out.map keyT).length = n := by rw [List.length_map]; exact hpos
              dsimp only
              rw [hq, List.drop_zero, List.take_length, List.map_append, List.map_append, List.map_take, List.map_drop, ← hLk]; rfl
            · intro q hq
              rcases List.mem_append.1 hq with hq | hq
              · rcases List.mem_append.1 hq with hq | hq
                · exact List.mem_cons_of_mem _ (hP q (List.mem_of_mem_take (List.mem_of_mem_drop hq)))
                · rw [List.mem_singleton] at hq; subst hq; exact List.mem_cons_self
              · exact List.mem_cons_of_mem _ (hP q (List.mem_of_mem_take (List.mem_of_mem_drop hq)))) (by
            try dsimp only
            omega)
  · -- c11.f
    refine w_exit (st_te ?_)
    refine st_te ?_
    refine st_be (st_tn (w_seq (w_region (zm rfl (za rfl (wl_nil (st_tn (w_ret (st_ret (vs := [_]) [3, 605] Tryz.results6 ⟨rfl, trivial⟩ rfl ?_)))))))))
    refine ⟨[(lab1, _), (lab2, _)], rfl, ?_⟩
    have hin : k = S.trees.length := by omega
    rw [hin] at hom
    exact ⟨out, P, _, _, hom, hP, rfl, rfl⟩
end Go.Proofs.YtecmigildpkigaaGreat.Ser
namespace Go.Proofs.YtecmigildpkigaaGreat.Ser
open Go Go.SL Go.RowKit
set_option linter.unusedVariables false
set_option linter.unusedSimpArgs false
theorem tA35sf : aggB Tryz.prog 35 2 = true := by kernel_rfl
theorem tF38_3sf : fieldB Tryz.prog 38 3 3 = true := by kernel_rfl
theorem tF70_10sf : fieldB Tryz.prog 70 10 10 = true := by kernel_rfl
theorem tF70_9sf : fieldB Tryz.prog 70 9 9 = true := by kernel_rfl
theorem tN3sf : (Tryz.prog.info? 3).bind (·.zero) = some (Value.int .i64 0) := by kernel_rfl
theorem tN36sf : (Tryz.prog.info? 36).bind (·.zero) = some (Value.slice none 0 0) := by kernel_rfl
theorem tO3sf : oneB Tryz.prog 3 = true := by kernel_rfl
theorem tO64sf : oneB Tryz.prog 64 = true := by kernel_rfl
theorem tO65sf : oneB Tryz.prog 65 = true := by kernel_rfl
theorem tQ64sf : mapB Tryz.prog 64 3 36 KZ.desc := ⟨Tryz.underlying64, Tryz.underlying3⟩
theorem tQ65sf : mapB Tryz.prog 65 3 3 KZ.desc := ⟨Tryz.underlying65, Tryz.underlying3⟩
theorem tS36sf : sliceB Tryz.prog 36 3 1 = true := by kernel_rfl
abbrev HdV := Option Addr × Nat × List Int
abbrev encHv (p : HdV) : Value := .slice p.1 p.2.2.length p.2.1
abbrev encIv (x : Int) : Value := .int .i64 x
abbrev MapD := List (Int × HdV)
abbrev MapE := List (Int × Int)
abbrev slH (p : HdV) : Res := slW 3 SL.encZ 1 (encHv p) p.2.2
def famM : MapD → Res
  | [] => fun m => m = fun _ => none
  | e :: l => star (slH e.2) (famM l)
theorem famM_nil : famM [] (fun _ => none) := rfl
def lkH (m : MapD) (k : Int) : HdV := (lookK KZ m k).getD (none, 0, [])
theorem fam_take {σ : World} : ∀ (m : MapD) (k : Int), Closes σ [famM m] [slH (lkH m k), famM (delK KZ m k)]
  | [], k => fun F w h => h.emp (slO_nil 3 1)
  | e :: l, k => fun F w h => by
    have h1 : SL.Own σ (slH e.2 :: famM l :: F) w := SL.Own.unstar h
    unfold lkH lookK delK
    cases hq : KZ.eq k e.1 with
    | true => exact h1
    | false =>
      have h2 := h1.perm (List.Perm.swap (famM l) (slH e.2) F)
      have h3 := fam_take l k (slH e.2 :: F) w h2
      have h4 : SL.Own σ (slH (lkH l k) :: slH e.2 :: famM (delK KZ l k) :: F) w := h3.perm (List.Perm.cons _ (List.Perm.swap _ _ _))
      exact (h4.perm (List.Perm.swap _ _ _) |>.perm (List.Perm.cons _ (List.Perm.swap _ _ _)) |>.star).perm (List.Perm.swap _ _ _)
theorem fam_put {σ : World} : ∀ (m : MapD) (k : Int) (p : HdV), Closes σ [slH p, famM (delK KZ m k)] [famM (setK KZ m k p)]
  | [], k, p => fun F w h => SL.Own.star h
  | e :: l, k, p => fun F w h => by
    unfold delK at h
    unfold setK
    cases hq : KZ.eq k e.1 with
    | true => rw [hq] at h; exact SL.Own.star h
    | false =>
      rw [hq] at h
      have h1 : SL.Own σ (famM (e :: delK KZ l k) :: slH p :: F) w := h.perm (List.Perm.swap _ _ _)
      have h2 : SL.Own σ (slH e.2 :: famM (delK KZ l k) :: slH p :: F) w := SL.Own.unstar h1
      have h3 : SL.Own σ (slH p :: famM (delK KZ l k) :: slH e.2 :: F) w := h2.perm (List.Perm.trans (List.Perm.cons _ (List.Perm.swap _ _ _)) (List.Perm.trans (List.Perm.swap _ _ _) (List.Perm.cons _ (List.Perm.swap _ _ _))))
      have h4 := fam_put l k p (slH e.2 :: F) w h3
      exact SL.Own.star (h4.perm (List.Perm.swap _ _ _))
theorem fam_says : ∀ {m : MapD} {k : Int} {p : HdV}, lookK KZ m k = some p → Says (famM m) (slT SL.encZ 1 (encHv p) p.2.2)
  | [], k, p, h => by simp [lookK] at h
  | e :: l, k, p, h => by
    unfold lookK at h
    cases hq : KZ.eq k e.1 with
    | true => rw [hq] at h; simp only [cond_true, Option.some.injEq] at h; subst h; exact (says_slO).star_l
    | false => rw [hq] at h; exact (fam_says h).star_r
theorem fam_sl {σ : World} {R : RL} {F : List Res} {m : MapD} (x : Int) (lab : Nat) (hg : getL R lab = some (famM m)) (hl : (lkH m x).2.2.length ≤ maxLen) : Sl σ (rs R ++ F) SL.encZ 1 (encHv (lkH m x)) (lkH m x).2.2 := by
  unfold lkH at hl ⊢
  cases h : lookK KZ m x with
  | none => exact nilZ
  | some p => rw [h] at hl; exact ⟨Ent.lab hg (fam_says h), hl⟩
theorem look_val (m : MapD) (x : Int) : ((lookK KZ m x).map encHv).getD (.slice none 0 0) = encHv (lkH m x) := by
  unfold lkH; cases lookK KZ m x <;> rfl
theorem lkH_set (m : MapD) (k k' : Int) (p : HdV) : lkH (setK KZ m k p) k' = if k' = k then p else lkH m k' := by
  unfold lkH
  rw [look_set]
  have hk : KZ.eq k' k = decide (k' = k) := rfl
  rw [hk]
  by_cases h : k' = k
  · rw [if_pos h, decide_eq_true h]; rfl
  · rw [if_neg h, decide_eq_false h]; rfl
def lkE (m : MapE) (k : Int) : Int := (lookK KZ m k).getD 0
theorem lkE_val (m : MapE) (x : Int) : ((lookK KZ m x).map encIv).getD (.int .i64 0) = .int .i64 (lkE m x) := by
  unfold lkE; cases lookK KZ m x <;> rfl
theorem lkE_set (m : MapE) (k k' v : Int) : lkE (setK KZ m k v) k' = if k' = k then v else lkE m k' := by
  unfold lkE
  rw [look_set]
  have hk : KZ.eq k' k = decide (k' = k) := rfl
  rw [hk]
  by_cases h : k' = k
  · rw [if_pos h, decide_eq_true h]; rfl
  · rw [if_neg h, decide_eq_false h]; rfl
set_option maxHeartbeats 400000 in
set_option maxRecDepth 100000 in
theorem slot_any {σ : World} {F : List Res} (x : Int) : FnT Tryz.prog σ F 19 [.int .i64 x] [] (fun u ρ => u = .int .i64 (x / 1048576) ∧ ρ = []) := by
  refine fn_of 5 Tryz.func19 rfl Tryz.ntmps19 rfl ?_
  refine w_seq (w_region (za rfl (wl_nil (st_tn (w_seq (w_region (zm rfl (zd rfl (op_shrC (c := 1048576) rfl rfl (by decide) (by decide)) ?_))))))))
  refine za rfl (wl_nil (st_tn (w_ret (st_ret (vs := [_]) [] Tryz.results19 ⟨rfl, trivial⟩ rfl ?_))))
  refine ⟨_, rfl, ?_⟩
  exact ⟨rfl, rfl⟩
set_option maxHeartbeats 400000 in
set_option maxRecDepth 100000 in
theorem duration_any {σ : World} {F : List Res} (x : SpV) (hs : -1099511627776 ≤ x.st ∧ x.st ≤ 1099511627776) (he : -1099511627776 ≤ x.en ∧ x.en ≤ 1099511627776) : FnT Tryz.prog σ F 20 [.agg (encSp x).toArray] [] (fun u ρ => u = .int .i64 (x.en - x.st) ∧ ρ = []) := by
  refine fn_of 8 Tryz.func20 rfl Tryz.ntmps20 rfl ?_
  refine w_seq (w_region (wl_op [] rfl rfl rfl rfl (op_box (T := 70) (l := 1) rfl) ?_))
  rintro _ _ ⟨b1, rfl, rfl⟩
  refine za rfl (wl_nil (st_tn (w_seq (w_region (zd rfl (op_fieldAddr (off := 10) rfl tF70_10sf) (zd rfl (op_load1 rfl tO3sf (Ent.lab (l := 1) rfl (says_cel 10))) (zd rfl (op_fieldAddr (off := 9) rfl tF70_9sf) (zd rfl (op_load1 rfl tO3sf (Ent.lab (l := 1) rfl (says_cel 9))) (zd rfl (op_sub' rfl rfl (by omega)) ?_)))))))))
  refine za rfl (wl_nil (st_tn (w_ret (st_ret (vs := [_]) [] Tryz.results20 ⟨rfl, trivial⟩ rfl ?_))))
  refine ⟨_, rfl, ?_⟩
  exact ⟨rfl, rfl⟩
set_option maxHeartbeats 400000 in
set_option maxRecDepth 100000 in
theorem of1_any {σ : World} {F : List Res} {p : Addr} {b : Nat} {m : MapD} (x : Int) (hp : Ent σ F (At p [.map (some b)])) (hm : Mr σ F KZ encHv (.map (some b)) m) (hf : Sl σ F SL.encZ 1 (encHv (lkH m x)) (lkH m x).2.2) : FnT Tryz.prog σ F 21 [.int .i64 x, .pointer (some p)] [] (fun u ρ => u = .int .i64 ((lkH m x).2.2.length : Int) ∧ ρ = []) := by
  refine fn_of 8 Tryz.func21 rfl Tryz.ntmps21 rfl ?_
  refine w_seq (w_region (za rfl (wl_nil (st_tn (w_seq (w_region (zd rfl (op_load1 rfl tO64sf (Ent.app hp _)) (zm rfl (zd rfl (op_val (v' := encHv (lkH m x)) (by rw [look_val]) (op_lookup (kt := KZ) (encV := encHv) rfl rfl tQ64sf tN36sf (by first | exact Mr.app (by assumption) _ | exact Mr.app (Mr.app (by assumption) _) _))) ?_)))))))))
  refine zd rfl (op_lenT rfl tS36sf (Sl.ent (hf.app _))) (za rfl (wl_nil (st_tn (w_ret (st_ret (vs := [_]) [] Tryz.results21 ⟨rfl, trivial⟩ rfl ?_)))))
  refine ⟨_, rfl, ?_⟩
  exact ⟨rfl, rfl⟩
set_option maxHeartbeats 400000 in
set_option maxRecDepth 100000 in
theorem of2_any {σ : World} {F : List Res} {p : Addr} {b : Nat} {m : MapE} (x : Int) (hp : Ent σ F (At p [.map (some b)])) (hm : Mr σ F KZ encIv (.map (some b)) m) : FnT Tryz.prog σ F 22 [.int .i64 x, .pointer (some p)] [] (fun u ρ => u = .int .i64 (lkE m x) ∧ ρ = []) := by
  refine fn_of 7 Tryz.func22 rfl Tryz.ntmps22 rfl ?_
  refine w_seq (w_region (za rfl (wl_nil (st_tn (w_seq (w_region (zd rfl (op_load1 rfl tO65sf (Ent.app hp _)) (zm rfl (zd rfl (op_val (v' := .int .i64 (lkE m x)) (by rw [lkE_val]) (op_lookup (kt := KZ) (encV := encIv) rfl rfl tQ65sf tN3sf (by first | exact Mr.app (by assumption) _ | exact Mr.app (Mr.app (by assumption) _) _))) ?_)))))))))
  refine za rfl (wl_nil (st_tn (w_ret (st_ret (vs := [_]) [] Tryz.results22 ⟨rfl, trivial⟩ rfl ?_))))
  refine ⟨_, rfl, ?_⟩
  exact ⟨rfl, rfl⟩
set_option maxHeartbeats 400000 in
set_option maxRecDepth 100000 in
theorem of3_any {σ : World} {F : List Res} {p q : Addr} {b : Nat} {m : MapD} {k : SK} {fr : Int} {v : Value} (x : Int) (hp : Ent σ F (At p [.map (some b)])) (hq : Ent σ F (At q (sr k fr v).cells.toList)) (hm : Mr σ F KZ encHv (.map (some b)) m) (hf : Sl σ F SL.encZ 1 (encHv (lkH m x)) (lkH m x).2.2) (hl : (lkH m x).2.2.length ≤ 1099511627776) (hg : goodB k.qn k.qd) : FnT Tryz.prog σ F 23 [.int .i64 x, .pointer (some p), .pointer (some q)] [] (fun u ρ => u = .int .i64 (quantZ (lkH m x).2.2 k.qn k.qd) ∧ ρ = []) := by
  refine fn_of 11 Tryz.func23 rfl Tryz.ntmps23 rfl ?_
  refine w_seq (w_region (za rfl (wl_nil (st_tn (w_seq (w_region (zd rfl (op_load1 rfl tO64sf (Ent.app hp _)) (zm rfl (zd rfl (op_val (v' := encHv (lkH m x)) (by rw [look_val]) (op_lookup (kt := KZ) (encV := encHv) rfl rfl tQ64sf tN36sf (by first | exact Mr.app (by assumption) _ | exact Mr.app (Mr.app (by assumption) _) _))) ?_)))))))))
  refine zd rfl (op_fieldAddr (off := 3) rfl tF38_3sf) (zd rfl (op_loadA rfl tA35sf (Ent.app (Ent.fld hq 3) _) (Nat.le_of_ble_eq_true rfl)) (zd rfl (op_fn Tryz.func24 rfl rfl rfl (rank_any k.qn k.qd (hf.app _) hl hg)) (za rfl (wl_nil (st_tn (w_ret (st_ret (vs := [_]) [] Tryz.results23 ⟨rfl, trivial⟩ rfl ?_)))))))
  refine ⟨_, rfl, ?_⟩
  exact ⟨rfl, rfl⟩
end Go.Proofs.YtecmigildpkigaaGreat.Ser
namespace Go.Proofs.YtecmigildpkigaaGreat.Ser
open Go Go.SL Go.RowKit
set_option linter.unusedVariables false
set_option linter.unusedSimpArgs false
def skipP (k : SK) (x : SpR) : Prop := x.svc ≠ k.svc ∨ (k.op ≠ ⟨#[]⟩ ∧ x.op ≠ k.op)
instance (k : SK) (x : SpR) : Decidable (skipP k x) := by unfold skipP; infer_instance
def keepL (k : SK) (L : List SpR) : List SpR := L.filter (fun x => !decide (skipP k x))
def durS (k : SK) (L : List SpR) : List Int := (keepL k L).map (fun x => x.en - x.st)
def errS (k : SK) (L : List SpR) : Nat := ((keepL k L).filter (·.err)).length
def durT (k : SK) (T : KT) (s : Int) : List Int := (T.map (fun q => if q.1 / 1048576 = s then durS k q.2 else [])).flatten
def errT (k : SK) (T : KT) (s : Int) : Nat := (T.map (fun q => if q.1 / 1048576 = s then errS k q.2 else 0)).sum
theorem keepL_snoc (k : SK) (L : List SpR) (x : SpR) : keepL k (L ++ [x]) = if skipP k x then keepL k L else keepL k L ++ [x] := by
  unfold keepL
  rw [List.filter_append]
  by_cases h : skipP k x
  · simp [h]
  · simp [h]
theorem durS_snoc (k : SK) (L : List SpR) (x : SpR) : durS k (L ++ [x]) = if skipP k x then durS k L else durS k L ++ [x.en - x.st] := by
  unfold durS; rw [keepL_snoc]; split <;> simp
theorem errS_snoc (k : SK) (L : List SpR) (x : SpR) : errS k (L ++ [x]) = if skipP k x then errS k L else errS k L + if x.err = true then 1 else 0 := by
  unfold errS; rw [keepL_snoc]
  split
  · rfl
  · rw [List.filter_append, List.length_append]
    congr 1
    by_cases h : x.err = true
    · rw [if_pos h]; simp [h]
    · rw [if_neg h]; simp [h]
theorem durT_snoc (k : SK) (T : KT) (q : Int × List SpR) (s : Int) : durT k (T ++ [q]) s = durT k T s ++ if q.1 / 1048576 = s then durS k q.2 else [] := by
  unfold durT; rw [List.map_append, List.flatten_append]; simp
theorem errT_snoc (k : SK) (T : KT) (q : Int × List SpR) (s : Int) : errT k (T ++ [q]) s = errT k T s + if q.1 / 1048576 = s then errS k q.2 else 0 := by
  unfold errT; rw [List.map_append, List.sum_append]; simp
theorem durS_le (k : SK) (L : List SpR) : (durS k L).length ≤ L.length := by unfold durS keepL; rw [List.length_map]; exact List.length_filter_le _ _
theorem errS_le (k : SK) (L : List SpR) : errS k L ≤ (durS k L).length := by unfold errS durS; rw [List.length_map]; exact List.length_filter_le _ _
theorem durT_le (k : SK) (s : Int) : ∀ (T : KT), (∀ q ∈ T, q.2.length ≤ 100) → (durT k T s).length ≤ 100 * T.length ∧ errT k T s ≤ (durT k T s).length
  | [], _ => by simp [durT, errT]
  | q :: T, h => by
    have ih := durT_le k s T fun p hp => h p (List.mem_cons_of_mem _ hp)
    have h1 := h q (by simp)
    have h2 := durS_le k q.2
    have h3 := errS_le k q.2
    unfold durT errT at ih ⊢
    simp only [List.map_cons, List.flatten_cons, List.length_append, List.sum_cons, List.length_cons]
    split
    · omega
    · simp only [List.length_nil]; omega
def valT (k : SK) (T : KT) (s : Int) : Int := if k.met = 2 then (errT k T s : Int) else if k.met = 3 then quantZ (durT k T s) k.qn k.qd else ((durT k T s).length : Int)
def ofR (k : SK) (T : KT) (lo hi : Int) : R :=
  if chkE k 0 [] ≠ 0 then zeroR (chkE k 0 []) else if ((lo < 0 ∨ lo > 1048576) ∨ hi < lo) ∨ hi > 1048577 then zeroR 32 else if hi - lo > 1024 then zeroR 6
  else ⟨k, lo, (slots lo hi).map (valT k T), 0⟩
structure TrOk (T : List TrV) : Prop where
  len : T.length ≤ 100
  sp : ∀ t ∈ T, t.sp.length ≤ 100
  bd : ∀ t ∈ T, ∀ x ∈ t.sp, (-1099511627776 ≤ x.st ∧ x.st ≤ 1099511627776) ∧ (-1099511627776 ≤ x.en ∧ x.en ≤ 1099511627776) ∧ 0 ≤ x.en - x.st ∧ x.en - x.st ≤ 1099511627776
theorem durS_bd {k : SK} {L : List SpR} (h : ∀ x ∈ L, 0 ≤ x.en - x.st ∧ x.en - x.st ≤ 1099511627776) : ∀ y ∈ durS k L, 0 ≤ y ∧ y ≤ 1099511627776 := fun y hy => by
  unfold durS at hy
  obtain ⟨x, hx, rfl⟩ := List.mem_map.1 hy
  exact h x ((List.mem_filter.1 hx).1)
theorem durT_bd {k : SK} {T : List TrV} (h : TrOk T) (s : Int) : ∀ y ∈ durT k (T.map keyT) s, 0 ≤ y ∧ y ≤ 1099511627776 := fun y hy => by
  unfold durT at hy
  obtain ⟨l, hl, hy⟩ := List.mem_flatten.1 hy
  obtain ⟨q, hq, rfl⟩ := List.mem_map.1 hl
  obtain ⟨t, ht, rfl⟩ := List.mem_map.1 hq
  split at hy
  · refine durS_bd (L := (keyT t).2) (fun x hx => ?_) y hy
    obtain ⟨z, hz, rfl⟩ := List.mem_map.1 hx
    exact (h.bd t ht z hz).2.2
  · simp at hy
theorem quant_bd {l : List Int} {x y : Int} (h : ∀ z ∈ l, 0 ≤ z ∧ z ≤ 1099511627776) : 0 ≤ quantZ l x y ∧ quantZ l x y ≤ 1099511627776 := by
  unfold quantZ
  split
  · omega
  · rw [List.getD_eq_getElem?_getD]
    cases hq : (srt l)[(rankOf l.length x y - 1).toNat]? with
    | none => simp
    | some z => exact h z (mem_srt.1 (List.mem_of_getElem? hq))
theorem keyT_len {T : List TrV} (h : TrOk T) : ∀ q ∈ T.map keyT, q.2.length ≤ 100 := fun q hq => by
  obtain ⟨t, ht, rfl⟩ := List.mem_map.1 hq
  show (t.sp.map keyS).length ≤ 100
  rw [List.length_map]; exact h.sp t ht
theorem val_bd {k : SK} {T : List TrV} (h : TrOk T) (s : Int) : 0 ≤ valT k (T.map keyT) s ∧ valT k (T.map keyT) s ≤ 1099511627776 := by
  have h1 := durT_le k s _ (keyT_len h)
  have h2 := h.len
  rw [List.length_map] at h1
  unfold valT
  split
  · omega
  · split
    · exact quant_bd (durT_bd h s)
    · omega
theorem chk_out {k : SK} {T : List TrV} {lo hi : Int} (h : TrOk T) (hc : chkE k 0 [] = 0) (h1 : ¬ (((lo < 0 ∨ lo > 1048576) ∨ hi < lo) ∨ hi > 1048577)) (h2 : ¬ hi - lo > 1024) : chkE k lo ((slots lo hi).map (valT k (T.map keyT))) = 0 := by
  unfold chkE at hc ⊢
  split at hc
  · simp at hc
  · rename_i e1
    split at hc
    · simp at hc
    · rename_i e2
      split at hc
      · simp at hc
      · rename_i e3
        rw [if_neg e1, if_neg e2, if_neg e3, if_neg (by omega), if_neg (by rw [List.length_map, slots_len]; omega), if_neg (by rw [List.length_map, slots_len]; omega), if_neg]
        intro h3
        obtain ⟨y, hy, h4⟩ := List.any_eq_true.1 h3
        obtain ⟨s, _, rfl⟩ := List.mem_map.1 hy
        have := val_bd (k := k) h s
        have := of_decide_eq_true h4
        omega
theorem chk_good {k : SK} (hc : chkE k 0 [] = 0) (h3 : k.met = 3) : goodB k.qn k.qd := by
  unfold chkE at hc
  split at hc
  · simp at hc
  · split at hc
    · simp at hc
    · split at hc
      · simp at hc
      · rename_i e3
        exact Classical.byContradiction fun h => e3 (.inl ⟨h3, h⟩)
end Go.Proofs.YtecmigildpkigaaGreat.Ser
namespace Go.Proofs.YtecmigildpkigaaGreat.Ser
open Go Go.SL Go.RowKit
set_option linter.unusedVariables false
set_option linter.unusedSimpArgs false
theorem tA38sh : aggB Tryz.prog 38 7 = true := by kernel_rfl
theorem tA61sh : aggB Tryz.prog 61 3 = true := by kernel_rfl
theorem tA70sh : aggB Tryz.prog 70 14 = true := by kernel_rfl
theorem tB38sh : placesB Tryz.prog 38 = some ([(0, 1), (1, 1), (2, 1), (3, 2), (5, 1), (6, 1)], [Value.string .empty, Value.string .empty, Value.int .i64 0, Value.int .i64 0, Value.int .i64 0, Value.int .i64 0, Value.slice none 0 0]) := by kernel_rfl
theorem tF38_0sh : fieldB Tryz.prog 38 0 0 = true := by kernel_rfl
theorem tF38_1sh : fieldB Tryz.prog 38 1 1 = true := by kernel_rfl
theorem tF38_2sh : fieldB Tryz.prog 38 2 2 = true := by kernel_rfl
theorem tF38_5sh : fieldB Tryz.prog 38 5 6 = true := by kernel_rfl
theorem tF40_0sh : fieldB Tryz.prog 40 0 0 = true := by kernel_rfl
theorem tF40_1sh : fieldB Tryz.prog 40 1 1 = true := by kernel_rfl
theorem tF61_0sh : fieldB Tryz.prog 61 0 0 = true := by kernel_rfl
theorem tF61_2sh : fieldB Tryz.prog 61 2 2 = true := by kernel_rfl
theorem tF70_11sh : fieldB Tryz.prog 70 11 11 = true := by kernel_rfl
theorem tF70_6sh : fieldB Tryz.prog 70 6 6 = true := by kernel_rfl
theorem tF70_8sh : fieldB Tryz.prog 70 8 8 = true := by kernel_rfl
theorem tL36_1sh : zerosB Tryz.prog 36 3 1 1 = some [Value.int .i64 0] := by kernel_rfl
theorem tMixsh : Tryz.prog.follows .mixedOrders = true := by kernel_rfl
theorem tN3sh : (Tryz.prog.info? 3).bind (·.zero) = some (Value.int .i64 0) := by kernel_rfl
theorem tN36sh : (Tryz.prog.info? 36).bind (·.zero) = some (Value.slice none 0 0) := by kernel_rfl
theorem tN38sh : (Tryz.prog.info? 38).bind (·.zero) = some (Value.agg #[Value.string .empty, Value.string .empty, Value.int .i64 0, Value.int .i64 0, Value.int .i64 0, Value.int .i64 0, Value.slice none 0 0]) := by kernel_rfl
theorem tN61sh : (Tryz.prog.info? 61).bind (·.zero) = some (Value.agg #[Value.int .i64 0, Value.int .i64 0, Value.slice none 0 0]) := by kernel_rfl
theorem tN64sh : (Tryz.prog.info? 64).bind (·.zero) = some (Value.map none) := by kernel_rfl
theorem tN65sh : (Tryz.prog.info? 65).bind (·.zero) = some (Value.map none) := by kernel_rfl
theorem tN70sh : (Tryz.prog.info? 70).bind (·.zero) = some (Value.agg #[Value.int .i64 0, Value.int .i64 0, Value.int .i64 0, Value.int .i64 0, Value.int .i64 0, Value.int .i64 0, Value.string .empty, Value.string .empty, Value.string .empty, Value.int .i64 0, Value.int .i64 0, Value.bool false, Value.slice none 0 0, Value.slice none 0 0]) := by kernel_rfl
theorem tO3sh : oneB Tryz.prog 3 = true := by kernel_rfl
theorem tO36sh : oneB Tryz.prog 36 = true := by kernel_rfl
theorem tO4sh : oneB Tryz.prog 4 = true := by kernel_rfl
theorem tO58sh : oneB Tryz.prog 58 = true := by kernel_rfl
theorem tO64sh : oneB Tryz.prog 64 = true := by kernel_rfl
theorem tO65sh : oneB Tryz.prog 65 = true := by kernel_rfl
theorem tO9sh : oneB Tryz.prog 9 = true := by kernel_rfl
theorem tP36sh : appB Tryz.prog 36 3 1 8 = true := by kernel_rfl
theorem tQ64sh : mapB Tryz.prog 64 3 36 KZ.desc := ⟨Tryz.underlying64, Tryz.underlying3⟩
theorem tQ65sh : mapB Tryz.prog 65 3 3 KZ.desc := ⟨Tryz.underlying65, Tryz.underlying3⟩
theorem tS31sh : sliceB Tryz.prog 31 61 3 = true := by kernel_rfl
theorem tS58sh : sliceB Tryz.prog 58 70 14 = true := by kernel_rfl
theorem tZ36sh : (Tryz.prog.info? 36).map (·.size) = some 1 := by kernel_rfl
theorem tZ38sh : (Tryz.prog.info? 38).map (·.size) = some 7 := by kernel_rfl
theorem tZ61sh : (Tryz.prog.info? 61).map (·.size) = some 3 := by kernel_rfl
theorem tZ64sh : (Tryz.prog.info? 64).map (·.size) = some 1 := by kernel_rfl
theorem tZ65sh : (Tryz.prog.info? 65).map (·.size) = some 1 := by kernel_rfl
theorem tZ70sh : (Tryz.prog.info? 70).map (·.size) = some 14 := by kernel_rfl
theorem nilE {σ : World} {F : List Res} : Sl σ F SL.encZ 1 (.slice none 0 0) ([] : List Int) := nilZ (a := none) (c := 0)
set_option maxHeartbeats 3000000 in
set_option maxRecDepth 100000 in
theorem of_any {σ : World} {F : List Res} {a va : Option Addr} {c vn vc : Nat} {T : List TrV} (lab : Nat) (k : SK) (fr lo hi : Int) (hT : Sl σ F encTr 3 (.slice a T.length c) T) (hSp : ∀ t ∈ T, Sl σ F encSp 14 (.slice t.a t.sp.length t.c) t.sp) (hO : TrOk T) (hs : k.svc.size ≤ maxLen) (ho : k.op.size ≤ maxLen) (hx : -9223372036854775808 ≤ k.qn ∧ k.qn ≤ 9223372036854775807) (hy : -9223372036854775808 ≤ k.qd ∧ k.qd ≤ 9223372036854775807) (hlo : -9223372036854775808 ≤ lo ∧ lo ≤ 9223372036854775807) (hhi : -9223372036854775808 ≤ hi ∧ hi ≤ 9223372036854775807) :
    FnT Tryz.prog σ F 7 [.slice a T.length c, sr k fr (.slice va vn vc), .agg #[.int .i64 lo, .int .i64 hi]] [] (SerV (ofR k (T.map keyT) lo hi) lab) := by
  refine fn_of 145 Tryz.func7 rfl Tryz.ntmps7 rfl ?_
  have hle := hT.i64
  have hO1 := hO.len
  refine w_seq (w_region (wl_op [] rfl rfl rfl rfl (op_box (T := 38) (l := 4) rfl) ?_))
  rintro _ _ ⟨b4, rfl, rfl⟩
  refine wl_op [] rfl rfl rfl rfl (op_box (T := 40) (l := 5) rfl) ?_
  rintro _ _ ⟨b5, rfl, rfl⟩
  refine wl_op [] rfl rfl rfl rfl (op_alloc (l := 6) tN38sh) ?_
  rintro _ _ ⟨b6, rfl, rfl⟩
  refine za rfl (wl_nil (st_tn (w_seq (w_seq (w_region (zd rfl (op_loadA rfl tA38sh (Ent.lab (l := 4) rfl (says_cel 0)) (Nat.le_of_ble_eq_true rfl)) (zd rfl (op_fn Tryz.func18 rfl rfl rfl (like_any _ _ _ _ _ _ _ _ _)) (zd rfl (op_fn Tryz.func17 rfl rfl rfl (check_any (l := []) (a := none) (c := 0) k 0 nilE hs ho hx hy)) (za rfl (wl_nil (st_tn (w_seq (w_region ?_)))))))))))))
  refine zm rfl (zd rfl (op_neq rfl rfl) (wl_nil (st_tn (w_cond_d rfl (fun hc24 => ?_) (fun hc24 => ?_)))))
  · -- c24.t
    refine w_seq (w_emp 77 (slO_nil 3 1) ?_)
    refine w_region (zd rfl (op_build tB38sh rfl rfl) (zm rfl (wl_op0 [6] rfl rfl rfl (op_store rfl rfl tZ38sh (by rfl) (by rfl) (by exact Nat.le_of_ble_eq_true rfl)) ?_)))
    rintro _ _ ⟨rfl, rfl⟩
    refine za rfl (wl_nil (st_tn (w_ret (st_tr (st_ret (vs := [_, _]) [77] Tryz.results7 ⟨⟨_, rfl, Ent.mono (Ent.lab (l := 6) rfl (says_cel 0)) (fun _ h => run_load_agg tA38sh h (Nat.le_of_ble_eq_true rfl))⟩, ⟨rfl, trivial⟩⟩ rfl ?_)))))
    refine ⟨[(lab, _)], rfl, ?_⟩
    unfold ofR; rw [if_pos hc24]; exact ⟨none, 0, rfl, rfl⟩
  · -- c24.f
    refine w_skip (st_tn (w_seq (w_block (w_seq (w_cutL [(27, .bool (decide ((((lo < 0 ∨ lo > 1048576) ∨ hi < lo) ∨ hi > 1048577))))] [0, 4, 5, 6] [4, 5, 6] rfl (fun K' hK => ?_) ?_)))))
    · -- cut r4
      refine w_region (zd rfl (op_fieldAddr (off := 0) rfl tF40_0sh) (zd rfl (op_load1 rfl tO3sh (Ent.lab (l := 5) rfl (says_cel 0))) (zd rfl (op_lss rfl rfl) (zm rfl (wl_gsplit (t := 31) rfl (fun hg31 => ?_) (fun hg31 => ?_))))))
      · -- 31 is True
        refine wl_unwanted rfl rfl rfl rfl rfl rfl rfl rfl (wl_unwanted rfl rfl rfl rfl rfl rfl rfl rfl (wl_unwanted rfl rfl rfl rfl rfl rfl rfl rfl (zd rfl (op_pick_t rfl rfl) (zm rfl (wl_unwanted rfl rfl rfl rfl rfl rfl rfl rfl (wl_unwanted rfl rfl rfl rfl rfl rfl rfl rfl (wl_unwanted rfl rfl rfl rfl rfl rfl rfl rfl (wl_unwanted rfl rfl rfl rfl rfl rfl rfl rfl (wl_unwanted rfl rfl rfl rfl rfl rfl rfl rfl (zd rfl (op_pick_t rfl rfl) (zm rfl (wl_unwanted rfl rfl rfl rfl rfl rfl rfl rfl (wl_unwanted rfl rfl rfl rfl rfl rfl rfl rfl ?_)))))))))))))
        refine wl_unwanted rfl rfl rfl rfl rfl rfl rfl rfl (zd rfl (op_pick_t rfl rfl) (za rfl (wl_nil (st_tn ?_))))
        exact cut_done1 [4, 5, 6] hK rfl (by first | (rw [decide_eq_decide]; omega) | (symm; rw [decide_eq_false_iff_not]; omega) | (symm; rw [decide_eq_true_iff]; omega) | (simp; done) | (simp; omega) | (simp [*]; done) | (simp [*]; omega)) (by rfl) rfl rfl
      · -- 31 is False
        refine wl_wanted_det rfl rfl rfl rfl rfl rfl rfl (op_fieldAddr (off := 0) rfl tF40_0sh) (wl_wanted_det rfl rfl rfl rfl rfl rfl rfl (op_load1 rfl tO3sh (Ent.lab (l := 5) rfl (says_cel 0))) (wl_wanted_det rfl rfl rfl rfl rfl rfl rfl (op_gtr rfl rfl) (zd rfl (op_pick_f rfl rfl) (zm rfl (wl_gsplit (t := 36) rfl (fun hg36 => ?_) (fun hg36 => ?_))))))
        · -- 36 is True
          refine wl_unwanted rfl rfl rfl rfl rfl rfl rfl rfl (wl_unwanted rfl rfl rfl rfl rfl rfl rfl rfl (wl_unwanted rfl rfl rfl rfl rfl rfl rfl rfl (wl_unwanted rfl rfl rfl rfl rfl rfl rfl rfl (wl_unwanted rfl rfl rfl rfl rfl rfl rfl rfl (zd rfl (op_pick_t rfl rfl) (zm rfl (wl_unwanted rfl rfl rfl rfl rfl rfl rfl rfl (wl_unwanted rfl rfl rfl rfl rfl rfl rfl rfl (wl_unwanted rfl rfl rfl rfl rfl rfl rfl rfl (zd rfl (op_pick_t rfl rfl) (za rfl (wl_nil (st_tn ?_)))))))))))))
          exact cut_done1 [4, 5, 6] hK rfl (by first | (rw [decide_eq_decide]; omega) | (symm; rw [decide_eq_false_iff_not]; omega) | (symm; rw [decide_eq_true_iff]; omega) | (simp; done) | (simp; omega) | (simp [*]; done) | (simp [*]; omega)) (by rfl) rfl rfl
        · -- 36 is False
          refine wl_wanted_det rfl rfl rfl rfl rfl rfl rfl (op_fieldAddr (off := 1) rfl tF40_1sh) (wl_wanted_det rfl rfl rfl rfl rfl rfl rfl (op_load1 rfl tO3sh (Ent.lab (l := 5) rfl (says_cel 1))) (wl_wanted_det rfl rfl rfl rfl rfl rfl rfl (op_fieldAddr (off := 0) rfl tF40_0sh) (wl_wanted_det rfl rfl rfl rfl rfl rfl rfl (op_load1 rfl tO3sh (Ent.lab (l := 5) rfl (says_cel 0))) (wl_wanted_det rfl rfl rfl rfl rfl rfl rfl (op_lss rfl rfl) (zd rfl (op_pick_f rfl rfl) (zm rfl (wl_gsplit (t := 43) rfl (fun hg43 => ?_) (fun hg43 => ?_))))))))
          · -- 43 is True
            refine wl_unwanted rfl rfl rfl rfl rfl rfl rfl rfl (wl_unwanted rfl rfl rfl rfl rfl rfl rfl rfl (wl_unwanted rfl rfl rfl rfl rfl rfl rfl rfl (zd rfl (op_pick_t rfl rfl) (za rfl (wl_nil (st_tn ?_))))))
            exact cut_done1 [4, 5, 6] hK rfl (by first | (rw [decide_eq_decide]; omega) | (symm; rw [decide_eq_false_iff_not]; omega) | (symm; rw [decide_eq_true_iff]; omega) | (simp; done) | (simp; omega) | (simp [*]; done) | (simp [*]; omega)) (by rfl) rfl rfl
          · -- 43 is False
            refine wl_wanted_det rfl rfl rfl rfl rfl rfl rfl (op_fieldAddr (off := 1) rfl tF40_1sh) (wl_wanted_det rfl rfl rfl rfl rfl rfl rfl (op_load1 rfl tO3sh (Ent.lab (l := 5) rfl (says_cel 1))) (wl_wanted_det rfl rfl rfl rfl rfl rfl rfl (op_gtr rfl rfl) (zd rfl (op_pick_f rfl rfl) (za rfl (wl_nil (st_tn ?_))))))
            exact cut_done1 [4, 5, 6] hK rfl (by first | (rw [decide_eq_decide]; omega) | (symm; rw [decide_eq_false_iff_not]; omega) | (symm; rw [decide_eq_true_iff]; omega) | (simp; done) | (simp; omega) | (simp [*]; done) | (simp [*]; omega)) (by rfl) rfl rfl
    · -- behind r4
      show W _ _ _ _ _ [(27, _), (0, _), (4, _), (5, _), (6, _)] [(4, _), (5, _), (6, _)] _
      refine w_cond_d rfl (fun hc27 => ?_) (fun hc27 => ?_)
      · -- c27.t
        refine w_seq (w_emp 77 (slO_nil 3 1) ?_)
        refine w_region (zd rfl (op_build tB38sh rfl rfl) (wl_op0 [6] rfl rfl rfl (op_store rfl rfl tZ38sh (by rfl) (by rfl) (by exact Nat.le_of_ble_eq_true rfl)) ?_))
        rintro _ _ ⟨rfl, rfl⟩
        refine za rfl (wl_nil (st_tn (w_ret (st_br (st_tr (st_ret (vs := [_, _]) [77] Tryz.results7 ⟨⟨_, rfl, Ent.mono (Ent.lab (l := 6) rfl (says_cel 0)) (fun _ h => run_load_agg tA38sh h (Nat.le_of_ble_eq_true rfl))⟩, ⟨rfl, trivial⟩⟩ rfl ?_))))))
        refine ⟨[(lab, _)], rfl, ?_⟩
        unfold ofR; rw [if_neg hc24, if_pos hc27]; exact ⟨none, 0, rfl, rfl⟩
      · -- c27.f
        refine w_seq (w_region (zd rfl (op_fieldAddr (off := 1) rfl tF40_1sh) (zd rfl (op_load1 rfl tO3sh (Ent.lab (l := 5) rfl (says_cel 1))) (zd rfl (op_fieldAddr (off := 0) rfl tF40_0sh) (zd rfl (op_load1 rfl tO3sh (Ent.lab (l := 5) rfl (says_cel 0))) (zd rfl (op_sub' rfl rfl (by omega)) ?_))))))
        refine zd rfl (op_gtr rfl rfl) (za rfl (wl_nil (st_tn (w_cond_d rfl (fun hc49 => ?_) (fun hc49 => ?_)))))
        · -- c49.t
          refine w_seq (w_emp 77 (slO_nil 3 1) ?_)
          refine w_region (zd rfl (op_build tB38sh rfl rfl) (wl_op0 [6] rfl rfl rfl (op_store rfl rfl tZ38sh (by rfl) (by rfl) (by exact Nat.le_of_ble_eq_true rfl)) ?_))
          rintro _ _ ⟨rfl, rfl⟩
          refine za rfl (wl_nil (st_tn (w_ret (st_br (st_tr (st_ret (vs := [_, _]) [77] Tryz.results7 ⟨⟨_, rfl, Ent.mono (Ent.lab (l := 6) rfl (says_cel 0)) (fun _ h => run_load_agg tA38sh h (Nat.le_of_ble_eq_true rfl))⟩, ⟨rfl, trivial⟩⟩ rfl ?_))))))
          refine ⟨[(lab, _)], rfl, ?_⟩
          unfold ofR; rw [if_neg hc24, if_neg hc27, if_pos hc49]; exact ⟨none, 0, rfl, rfl⟩
        · -- c49.f
          refine w_skip (st_bn (st_tn (w_seq (w_region (wl_op [] rfl rfl rfl rfl (op_makeMap (kt := KZ) (encV := encHv) (lab := 57)) ?_)))))
          rintro _ _ ⟨b57, rfl, rfl⟩
          refine wl_op [] rfl rfl rfl rfl (op_makeMap (kt := KZ) (encV := encIv) (lab := 58)) ?_
          rintro _ _ ⟨b58, rfl, rfl⟩
          refine wl_op [] rfl rfl rfl rfl (op_alloc (l := 9) tN64sh) ?_
          rintro _ _ ⟨b9, rfl, rfl⟩
          refine wl_op [] rfl rfl rfl rfl (op_alloc (l := 10) tN65sh) ?_
          rintro _ _ ⟨b10, rfl, rfl⟩
          refine wl_op0 [9] rfl rfl rfl (op_store rfl rfl tZ64sh (by rfl) (by rfl) (by exact Nat.le_of_ble_eq_true rfl)) ?_
          rintro _ _ ⟨rfl, rfl⟩
          refine wl_op0 [10] rfl rfl rfl (op_store rfl rfl tZ65sh (by rfl) (by rfl) (by exact Nat.le_of_ble_eq_true rfl)) ?_
          rintro _ _ ⟨rfl, rfl⟩
          refine wl_nil (st_tn (w_seq (w_seq (w_emp 650 famM_nil ?_))))
          refine w_region (zm rfl (zd rfl (op_lenT rfl tS31sh (Sl.ent (hT.app _))) (zm rfl (wl_nil (st_tn (w_block ?_))))))
          refine w_loopQ (X := Nat × List (Int × HdV) × List (Int × Int)) (fun z => z.1 ≤ T.length ∧ (∀ s, (lkH z.2.1 s).2.2 = durT k ((T.take z.1).map keyT) s) ∧ (∀ s, lkE z.2.2 s = (errT k ((T.take z.1).map keyT) s : Nat))) (fun z => [(61, .int .i64 (z.1))]) (fun z => [(57, mp KZ encHv b57 (z.2.1)), (58, mp KZ encIv b58 (z.2.2)), (650, famM (z.2.1))]) (fun z => T.length - z.1) ((0, [], [])) [(4, _), (5, _), (6, _), (9, _), (10, _), (59, _), (60, _)] [(4, _), (5, _), (6, _), (9, _), (10, _)] [57, 58, 650, 4, 5, 6, 9, 10] rfl (rfl) (.cons rfl (.nil _)) (.cons rfl (.cons rfl (.cons rfl (.cons rfl (.cons rfl (.cons rfl (.cons rfl (.nil _)))))))) (by
              try dsimp only
              exact ⟨Nat.zero_le _, fun s => rfl, fun s => rfl⟩) ?_
          rintro ⟨i, dm, em⟩ ⟨hi1, hd, he⟩
          refine w_norm2 (by dsimp only [List.cons_append, List.nil_append]) (by dsimp only [List.cons_append, List.nil_append]) ?_
          try dsimp only at hi1 hd he ⊢
          refine w_seq (w_region (zd rfl (op_lss rfl rfl) (wl_nil (st_tn (w_seq (w_cond_d rfl (fun hc62 => ?_) (fun hc62 => ?_)))))))
          · -- c62.t
            obtain ⟨t, hz⟩ := getE (l := T) (i := i) (by omega)
            have htm := List.mem_of_getElem? hz
            have hsp := hSp t htm
            have hsl := hO.sp t htm
            have hkl : ∀ q ∈ (T.take i).map keyT, q.2.length ≤ 100 := fun q hq => keyT_len hO q (by obtain ⟨z, h1, h2⟩ := List.mem_map.1 hq; exact List.mem_map.2 ⟨z, List.mem_of_mem_take h1, h2⟩)
            refine w_skip (st_tn (w_seq (w_block (w_seq (w_region (zd rfl (op_idx rfl rfl tS31sh (Sl.ent (hT.app _)) (by omega)) ?_))))))
            refine zd rfl (op_ldxA rfl tA61sh (hT.app _) (by assumption) (by rfl) (by rfl)) ?_
            refine wl_op [] rfl rfl rfl rfl (op_alloc (l := 12) tN61sh) ?_
            rintro _ _ ⟨b12, rfl, rfl⟩
            refine wl_op0 [12] rfl rfl rfl (op_store rfl rfl tZ61sh (by rfl) (by rfl) (by exact Nat.le_of_ble_eq_true rfl)) ?_
            rintro _ _ ⟨rfl, rfl⟩
            refine wl_nil (st_tn (w_seq (w_region (zd rfl (op_fieldAddr (off := 0) rfl tF61_0sh) (zd rfl (op_load1 rfl tO3sh (Ent.lab (l := 12) rfl (says_cel 0))) (zd rfl (op_fn Tryz.func19 rfl rfl rfl (slot_any _)) (za rfl (wl_nil (st_tn (w_seq (w_region (zd rfl (op_fieldAddr (off := 2) rfl tF61_2sh) (zd rfl (op_load1 rfl tO58sh (Ent.lab (l := 12) rfl (says_cel 2))) ?_)))))))))))))
            refine zd rfl (op_lenT rfl tS58sh (Sl.ent (hsp.app _))) (zm rfl (wl_nil (st_tn (w_block ?_))))
            refine w_loopQ (X := Nat × List (Int × HdV) × List (Int × Int)) (fun z => z.1 ≤ t.sp.length ∧ (∀ s, (lkH z.2.1 s).2.2 = durT k ((T.take i).map keyT) s ++ if t.id / 1048576 = s then durS k ((t.sp.take z.1).map keyS) else []) ∧ (∀ s, lkE z.2.2 s = ((errT k ((T.take i).map keyT) s + if t.id / 1048576 = s then errS k ((t.sp.take z.1).map keyS) else 0 : Nat) : Int))) (fun z => [(71, .int .i64 (z.1))]) (fun z => [(57, mp KZ encHv b57 (z.2.1)), (58, mp KZ encIv b58 (z.2.2)), (650, famM (z.2.1))]) (fun z => t.sp.length - z.1) ((0, dm, em)) [(4, _), (5, _), (6, _), (9, _), (10, _), (13, _), (59, _), (60, _), (61, _), (69, _), (70, _)] [(4, _), (5, _), (6, _), (9, _), (10, _)] [57, 58, 650, 4, 5, 6, 9, 10] rfl (rfl) (.cons rfl (.nil _)) (.cons rfl (.cons rfl (.cons rfl (.cons rfl (.cons rfl (.cons rfl (.cons rfl (.cons rfl (.cons rfl (.cons rfl (.cons rfl (.nil _)))))))))))) (by
                try dsimp only
                exact ⟨Nat.zero_le _, fun s => by rw [hd s]; simp [durS, keepL], fun s => by rw [he s]; simp [errS, keepL]⟩) ?_
            rintro ⟨j, dm2, em2⟩ ⟨hj1, hd2, he2⟩
            refine w_norm2 (by dsimp only [List.cons_append, List.nil_append]) (by dsimp only [List.cons_append, List.nil_append]) ?_
            try dsimp only at hj1 hd2 he2 ⊢
            refine w_seq (w_region (zd rfl (op_lss rfl rfl) (wl_nil (st_tn (w_seq (w_cond_d rfl (fun hc72 => ?_) (fun hc72 => ?_)))))))
            · -- c72.t
              obtain ⟨x, hzx⟩ := getE (l := t.sp) (i := j) (by omega)
              have hxb := hO.bd t htm x (List.mem_of_getElem? hzx)
              have hb1 := durT_le k (t.id / 1048576) _ hkl
              have hb2 := durS_le k ((t.sp.take j).map keyS)
              have hb3 := errS_le k ((t.sp.take j).map keyS)
              have htl : ((t.sp.take j).map keyS).length ≤ 100 := by rw [List.length_map, List.length_take]; omega
              have hTl : ((T.take i).map keyT).length ≤ 100 := by rw [List.length_map, List.length_take]; omega
              have hdl : (lkH dm2 (t.id / 1048576)).2.2.length ≤ 10100 := by rw [hd2, if_pos rfl, List.length_append]; omega
              have hel : 0 ≤ lkE em2 (t.id / 1048576) ∧ lkE em2 (t.id / 1048576) ≤ 10100 := by rw [he2, if_pos rfl]; omega
              refine w_skip (st_tn (w_seq (w_block (w_seq (w_region (zd rfl (op_idx rfl rfl tS58sh (Sl.ent (hsp.app _)) (by omega)) ?_))))))
              refine zd rfl (op_ldxA rfl tA70sh (hsp.app _) (by assumption) (by rfl) (by rfl)) ?_
              refine wl_op [] rfl rfl rfl rfl (op_alloc (l := 15) tN70sh) ?_
              rintro _ _ ⟨b15, rfl, rfl⟩
              refine wl_op0 [15] rfl rfl rfl (op_store rfl rfl tZ70sh (by rfl) (by rfl) (by exact Nat.le_of_ble_eq_true rfl)) ?_
              rintro _ _ ⟨rfl, rfl⟩
              refine wl_nil (st_tn (w_seq (w_seq (w_cutL [(91, .bool (decide (skipP k (keyS x))))] [4, 5, 6, 9, 10, 13, 15, 59, 60, 61, 69, 70, 71] [57, 58, 650, 4, 5, 6, 9, 10, 15] rfl (fun K' hK => ?_) ?_))))
              · -- cut r16
                refine w_region (zd rfl (op_fieldAddr (off := 6) rfl tF70_6sh) (zd rfl (op_load1 rfl tO9sh (Ent.lab (l := 15) rfl (says_cel 6))) (zd rfl (op_fieldAddr (off := 0) rfl tF38_0sh) (zd rfl (op_load1 rfl tO9sh (Ent.lab (l := 4) rfl (says_cel 0))) (zd rfl (op_neStr rfl rfl) (zm rfl (wl_gsplit (t := 80) rfl (fun hg80 => ?_) (fun hg80 => ?_))))))))
                · -- 80 is True
                  refine wl_unwanted rfl rfl rfl rfl rfl rfl rfl rfl (wl_unwanted rfl rfl rfl rfl rfl rfl rfl rfl (wl_unwanted rfl rfl rfl rfl rfl rfl rfl rfl (wl_unwanted rfl rfl rfl rfl rfl rfl rfl rfl (wl_unwantedU rfl rfl rfl rfl rfl rfl rfl ?_))))
                  refine wl_unwantedU rfl rfl rfl rfl rfl rfl rfl ?_
                  refine wl_unwantedU rfl rfl rfl rfl rfl rfl rfl ?_
                  refine wl_unwantedU rfl rfl rfl rfl rfl rfl rfl ?_
                  refine wl_unwantedU rfl rfl rfl rfl rfl rfl rfl ?_
                  refine wl_unwanted rfl rfl rfl rfl rfl rfl rfl rfl (zd rfl (op_pick_t rfl rfl) (wl_nil (st_tn ?_)))
                  exact cut_done1 [57, 58, 650, 4, 5, 6, 9, 10, 15] hK rfl (by first | (rw [decide_eq_decide]; exact ⟨fun h => .inr ⟨by assumption, h⟩, fun h => (h.resolve_left (by assumption)).2⟩) | (symm; rw [decide_eq_true_iff]; exact .inl (by assumption)) | (symm; rw [decide_eq_false_iff_not]; intro h; exact absurd (h.resolve_left (by assumption)).1 (by assumption))) (by rfl) rfl rfl
                · -- 80 is False
                  refine wl_wanted_det rfl rfl rfl rfl rfl rfl rfl (op_fieldAddr (off := 1) rfl tF38_1sh) (wl_wanted_det rfl rfl rfl rfl rfl rfl rfl (op_load1 rfl tO9sh (Ent.lab (l := 4) rfl (says_cel 1))) (wl_wanted_det rfl rfl rfl rfl rfl rfl rfl (op_neStr rfl rfl) (wl_wanted_det rfl rfl rfl rfl rfl rfl rfl (op_move rfl) (wl_gsplit (t := 84) rfl (fun hg84 => ?_) (fun hg84 => ?_)))))
                  · -- 84 is True
                    refine wl_wanted_det rfl rfl rfl rfl rfl rfl rfl (op_fieldAddr (off := 8) rfl tF70_8sh) (wl_wanted_det rfl rfl rfl rfl rfl rfl rfl (op_load1 rfl tO9sh (Ent.lab (l := 15) rfl (says_cel 8))) (wl_wanted_det rfl rfl rfl rfl rfl rfl rfl (op_fieldAddr (off := 1) rfl tF38_1sh) (wl_wanted_det rfl rfl rfl rfl rfl rfl rfl (op_load1 rfl tO9sh (Ent.lab (l := 4) rfl (says_cel 1))) (wl_wanted_det rfl rfl rfl rfl rfl rfl rfl (op_neStr rfl rfl) (wl_wanted_det rfl rfl rfl rfl rfl rfl rfl (op_pick_t rfl rfl) (zd rfl (op_pick_f rfl rfl) (wl_nil (st_tn ?_))))))))
                    exact cut_done1 [57, 58, 650, 4, 5, 6, 9, 10, 15] hK rfl (by first | (rw [decide_eq_decide]; exact ⟨fun h => .inr ⟨by assumption, h⟩, fun h => (h.resolve_left (by assumption)).2⟩) | (symm; rw [decide_eq_true_iff]; exact .inl (by assumption)) | (symm; rw [decide_eq_false_iff_not]; intro h; exact absurd (h.resolve_left (by assumption)).1 (by assumption))) (by rfl) rfl rfl
                  · -- 84 is False
                    refine wl_unwanted rfl rfl rfl rfl rfl rfl rfl rfl (wl_unwanted rfl rfl rfl rfl rfl rfl rfl rfl (wl_unwanted rfl rfl rfl rfl rfl rfl rfl rfl (wl_unwanted rfl rfl rfl rfl rfl rfl rfl rfl (wl_unwanted rfl rfl rfl rfl rfl rfl rfl rfl (wl_wanted_det rfl rfl rfl rfl rfl rfl rfl (op_pick_f rfl rfl) (zd rfl (op_pick_f rfl rfl) (wl_nil (st_tn ?_))))))))
                    exact cut_done1 [57, 58, 650, 4, 5, 6, 9, 10, 15] hK rfl (by first | (rw [decide_eq_decide]; exact ⟨fun h => .inr ⟨by assumption, h⟩, fun h => (h.resolve_left (by assumption)).2⟩) | (symm; rw [decide_eq_true_iff]; exact .inl (by assumption)) | (symm; rw [decide_eq_false_iff_not]; intro h; exact absurd (h.resolve_left (by assumption)).1 (by assumption))) (by rfl) rfl rfl
              · -- behind r16
                show W _ _ _ _ _ [(91, _), (4, _), (5, _), (6, _), (9, _), (10, _), (13, _), (15, _), (59, _), (60, _), (61, _), (69, _), (70, _), (71, _)] [(57, _), (58, _), (650, _), (4, _), (5, _), (6, _), (9, _), (10, _), (15, _)] _
                refine w_cond_d rfl (fun hc91 => ?_) (fun hc91 => ?_)
                · -- c91.t
                  refine w_exit (st_te ?_)
                  refine st_be (st_tn (w_region (zd rfl (op_add' rfl rfl (by omega)) ?_)))
                  refine zm rfl (wl_nil ?_)
                  refine st_roundQ (x := (j, dm2, em2)) ((j + 1, dm2, em2)) [57, 58, 650, 4, 5, 6, 9, 10] rfl (rfl) (.cons rfl (.nil _)) (.cons rfl (.cons rfl (.cons rfl (.cons rfl (.cons rfl (.cons rfl (.cons rfl (.cons rfl (.cons rfl (.cons rfl (.cons rfl (.nil _)))))))))))) (by
                      try dsimp only
                      refine ⟨by omega, fun s => ?_, fun s => ?_⟩
                      · rw [hd2 s, take_snoc hzx, List.map_append, List.map_singleton, durS_snoc, if_pos hc91]
                      · rw [he2 s, take_snoc hzx, List.map_append, List.map_singleton, errS_snoc, if_pos hc91]) (by
                      try dsimp only
                      omega)
                · -- c91.f
                  refine w_skip (st_tn (w_seq (w_cls [650] (C := [(651, slH (lkH dm2 (t.id / 1048576))), (652, famM (delK KZ dm2 (t.id / 1048576)))]) (fam_take dm2 (t.id / 1048576)) rfl ?_)))
                  refine Exists.elim (⟨lkH dm2 (t.id / 1048576), rfl⟩ : ∃ pd, pd = lkH dm2 (t.id / 1048576)) (fun pd hpd => ?_)
                  refine w_wk 651 (slW 3 SL.encZ 1 (.slice pd.1 pd.2.2.length pd.2.1) pd.2.2) rfl (fun _ h => by rw [hpd]; exact h) ?_
                  have hpl : pd.2.2.length ≤ 10100 := by rw [hpd]; exact hdl
                  have hdn : ∀ (aa : Option Addr) (cc : Nat) s, (lkH (setK KZ dm2 (t.id / 1048576) (aa, cc, pd.2.2 ++ [x.en - x.st])) s).2.2 = durT k ((T.take i).map keyT) s ++ if t.id / 1048576 = s then durS k ((t.sp.take (j + 1)).map keyS) else [] := fun aa cc s => by
                    rw [lkH_set, take_snoc hzx, List.map_append, List.map_singleton, durS_snoc, if_neg hc91]
                    by_cases h : s = t.id / 1048576
                    · rw [if_pos h, if_pos h.symm, hpd, hd2, if_pos rfl, h, List.append_assoc]; rfl
                    · rw [if_neg h, if_neg (Ne.symm h), hd2, if_neg (Ne.symm h)]
                  refine w_drawW (fun β => [⟨92, [], [], [], noW (_), false, [], []⟩, ⟨93, [], [], [], noW (_), false, [], []⟩, ⟨94, [], [], [], noW (_), false, [], []⟩, ⟨95, [], [], [], noW (_), false, [], []⟩, ⟨96, [2, 3], [], [], noW (_), false, [], []⟩, ⟨97, [], [], [], noW (_), false, [], []⟩, ⟨98, [5], [], [], noW (_), false, [], []⟩, ⟨99, [6], [], [], fun w => DetW _ _, false, [], []⟩, ⟨100, [4, 7], [], [(651, _)], fun w => DetW _ _, false, [], []⟩]) [651] [9, 13, 15] [⟨92, [], [], false, [], []⟩, ⟨93, [], [], false, [], []⟩, ⟨94, [], [], false, [], []⟩, ⟨95, [], [], false, [], []⟩, ⟨96, [2, 3], [], false, [], []⟩, ⟨97, [], [], false, [], []⟩, ⟨98, [5], [], false, [], []⟩, ⟨99, [6], [], false, [], []⟩, ⟨100, [4, 7], [], false, [], []⟩] [[], [], [], [], [], [], [], [], [7]] [[], [], [], [], [], [], [], [], [(651, _)]] tMixsh (fun _ => by rfl) (fun _ => by rfl) (by kernel_rfl) (by kernel_rfl) (by rfl) (by rfl)
                      (fun β => ⟨.p rfl (by intro X; exact op_load1 rfl tO64sh (Ent.lab (l := 9) rfl (says_cel 0))),
                      ⟨.p rfl (by intro X; exact op_move rfl),
                      ⟨.p rfl (by intro X; exact op_load1 rfl tO64sh (Ent.lab (l := 9) rfl (says_cel 0))),
                      ⟨.p rfl (by intro X; exact op_move rfl),
                      ⟨.p rfl (by intro X; rintro _ _ ⟨rfl, rfl⟩ _ _ ⟨rfl, rfl⟩; exact op_val (v' := .slice pd.1 pd.2.2.length pd.2.1) (by rw [look_val, ← hpd]) (op_lookup (kt := KZ) (encV := encHv) rfl rfl tQ64sh tN36sh (Mr.lab 57 rfl))),
                      ⟨.p rfl (by intro X; exact op_loadA rfl tA70sh (Ent.lab (l := 15) rfl (says_cel 0)) (Nat.le_of_ble_eq_true rfl)),
                      ⟨.p rfl (by intro X; rintro _ _ ⟨rfl, rfl⟩; exact op_fn Tryz.func20 rfl rfl rfl (duration_any x hxb.1 hxb.2.1)),
                      ⟨.px rfl (by intro X; rintro _ _ ⟨rfl, rfl⟩; refine OpT.mono (op_buildSlice (enc := SL.encZ) (l := [x.en - x.st]) (lab := 99) tL36_1sh rfl rfl (fun _ => rfl) rfl) ?_; rintro _ _ ⟨a99, c99, rfl, rfl⟩; obtain ⟨w, rfl, rfl⟩ : ∃ w : Wt, w.a = a99 ∧ w.c = c99 := ⟨{ a := a99, c := c99 }, rfl, rfl⟩; exact ⟨w, rfl, rfl⟩),
                      ⟨.px rfl (by intro X; rintro _ _ ⟨rfl, rfl⟩ _ _ ⟨rfl, rfl⟩; refine OpT.mono (op_append (lab := 651) (lab' := 100) rfl rfl tP36sh SL.enc1Z (Sl.lab 99 rfl (by simp [maxLen])) (by first | omega | (simp; done) | (simp; omega) | (simp [*]; omega)) (by first | omega | (simp; done) | (simp; omega) | (simp [*]; omega))) ?_; rintro _ _ ⟨a100, c100, rfl, rfl⟩; obtain ⟨w, rfl, rfl⟩ : ∃ w : Wt, w.a = a100 ∧ w.c = c100 := ⟨{ a := a100, c := c100 }, rfl, rfl⟩; exact ⟨w, rfl, rfl⟩),
                      trivial⟩⟩⟩⟩⟩⟩⟩⟩⟩)
                      (fun β β' => ⟨fun _ => by rfl, ⟨fun _ => by rfl, ⟨fun _ => by rfl, ⟨fun _ => by rfl, ⟨fun _ => by rfl, ⟨fun _ => by rfl, ⟨fun _ => by rfl, ⟨fun _ => by rfl, ⟨fun h => by first | rfl | (simp only [h 7 (by decide)]), trivial⟩⟩⟩⟩⟩⟩⟩⟩⟩) ?_
                  intro β
                  rintro _ _ ⟨rfl, rfl⟩ _ _ ⟨rfl, rfl⟩ _ _ ⟨rfl, rfl⟩ _ _ ⟨rfl, rfl⟩ _ _ ⟨rfl, rfl⟩ _ _ ⟨rfl, rfl⟩ _ _ ⟨rfl, rfl⟩ _ _ ⟨rfl, rfl⟩ _ _ ⟨rfl, rfl⟩
                  generalize (β 7).a = a99
                  generalize (β 7).c = c99
                  generalize (β 8).a = a100
                  generalize (β 8).c = c100
                  refine wl_norm (e' := [(4, _), (5, _), (6, _), (9, _), (10, _), (13, _), (15, _), (59, _), (60, _), (61, _), (69, _), (70, _), (71, _), (92, _), (93, _), (100, _)]) (.cons rfl (.cons rfl (.cons rfl (.cons rfl (.cons rfl (.cons rfl (.cons rfl (.cons rfl (.cons rfl (.cons rfl (.cons rfl (.cons rfl (.cons rfl (.cons rfl (.cons rfl (.cons rfl (.nil _))))))))))))))))) (by dsimp only [cond_false, cond_true, List.nil_append, List.cons_append]) ?_
                  refine wl_op0 [57] rfl rfl rfl (op_mapUpdate (kt := KZ) (encV := encHv) (lab := 57) (v := (a100, c100, pd.2.2 ++ [x.en - x.st])) rfl rfl rfl tQ64sh) ?_
                  rintro _ _ ⟨rfl, rfl⟩
                  refine wl_nil (st_tn (w_seq ?_))
                  have hdn := fun s => hdn a100 c100 s
                  refine w_cls [100, 652] (C := [(650, famM (setK KZ dm2 (t.id / 1048576) (a100, c100, pd.2.2 ++ [x.en - x.st])))]) (fam_put dm2 (t.id / 1048576) (a100, c100, pd.2.2 ++ [x.en - x.st])) rfl ?_
                  refine w_region (zd rfl (op_fieldAddr (off := 11) rfl tF70_11sh) (zd rfl (op_load1 rfl tO4sh (Ent.lab (l := 15) rfl (says_cel 11))) (wl_nil (st_tn (w_cond rfl (fun hc102 => ?_) (fun hc102 => ?_))))))
                  · -- c102.t
                    refine w_region (zd rfl (op_load1 rfl tO65sh (Ent.lab (l := 10) rfl (says_cel 0))) (zm rfl (zd rfl (op_val (v' := .int .i64 (lkE em2 (t.id / 1048576))) (by rw [lkE_val]) (op_lookup (kt := KZ) (encV := encIv) rfl rfl tQ65sh tN3sh (Mr.lab 58 rfl))) ?_)))
                    refine zd rfl (op_add' rfl rfl (by omega)) ?_
                    refine wl_op0 [58] rfl rfl rfl (op_mapUpdate (kt := KZ) (encV := encIv) (lab := 58) rfl rfl rfl tQ65sh) ?_
                    rintro _ _ ⟨rfl, rfl⟩
                    refine wl_nil (st_bn (st_tn (w_region (zd rfl (op_add' rfl rfl (by omega)) ?_))))
                    refine zm rfl (wl_nil ?_)
                    refine st_roundQ (x := (j, dm2, em2)) ((j + 1, setK KZ dm2 (t.id / 1048576) (a100, c100, pd.2.2 ++ [x.en - x.st]), setK KZ em2 (t.id / 1048576) (lkE em2 (t.id / 1048576) + 1))) [57, 58, 650, 4, 5, 6, 9, 10] rfl (rfl) (.cons rfl (.nil _)) (.cons rfl (.cons rfl (.cons rfl (.cons rfl (.cons rfl (.cons rfl (.cons rfl (.cons rfl (.cons rfl (.cons rfl (.cons rfl (.nil _)))))))))))) (by
                        try dsimp only
                        refine ⟨by omega, hdn, fun s => ?_⟩
                        rw [lkE_set, take_snoc hzx, List.map_append, List.map_singleton, errS_snoc, if_neg hc91, if_pos (show (keyS x).err = true from hc102)]
                        by_cases h : s = t.id / 1048576
                        · rw [if_pos h, if_pos h.symm, he2, if_pos rfl, h]; omega
                        · rw [if_neg h, if_neg (Ne.symm h), he2, if_neg (Ne.symm h)]) (by
                        try dsimp only
                        omega)
                  · -- c102.f
                    refine w_skip (st_bn (st_tn (w_region (zd rfl (op_add' rfl rfl (by omega)) ?_))))
                    refine zm rfl (wl_nil ?_)
                    refine st_roundQ (x := (j, dm2, em2)) ((j + 1, setK KZ dm2 (t.id / 1048576) (a100, c100, pd.2.2 ++ [x.en - x.st]), em2)) [57, 58, 650, 4, 5, 6, 9, 10] rfl (rfl) (.cons rfl (.nil _)) (.cons rfl (.cons rfl (.cons rfl (.cons rfl (.cons rfl (.cons rfl (.cons rfl (.cons rfl (.cons rfl (.cons rfl (.cons rfl (.nil _)))))))))))) (by
                        try dsimp only
                        refine ⟨by omega, hdn, fun s => ?_⟩
                        rw [he2 s, take_snoc hzx, List.map_append, List.map_singleton, errS_snoc, if_neg hc91, if_neg (show ¬ (keyS x).err = true by show ¬ x.err = true; rw [hc102]; simp)]; rfl) (by
                        try dsimp only
                        omega)
            · -- c72.f
              have htj : t.sp.take j = t.sp := List.take_of_length_le (by omega)
              rw [htj] at hd2 he2
              refine w_exit (st_te ?_)
              refine st_te ?_
              refine st_be (st_bn (st_tn (w_region (zd rfl (op_add' rfl rfl (by omega)) ?_))))
              refine zm rfl (wl_nil ?_)
              refine st_roundQ (x := (i, dm, em)) ((i + 1, _, _)) [57, 58, 650, 4, 5, 6, 9, 10] rfl (rfl) (.cons rfl (.nil _)) (.cons rfl (.cons rfl (.cons rfl (.cons rfl (.cons rfl (.cons rfl (.cons rfl (.nil _)))))))) (by
                  try dsimp only
                  refine ⟨by omega, fun s => ?_, fun s => ?_⟩
                  · rw [take_snoc hz, List.map_append, List.map_singleton, durT_snoc, hd2 s]; rfl
                  · rw [take_snoc hz, List.map_append, List.map_singleton, errT_snoc, he2 s]; rfl) (by
                  try dsimp only
                  omega)
          · -- c62.f
            refine w_exit (st_te ?_)
            refine st_te ?_
            refine st_be (st_tn (w_seq ?_))
            have hit : T.take i = T := List.take_of_length_le (by omega)
            rw [hit] at hd he
            have hdl : ∀ s, (lkH dm s).2.2.length ≤ 10000 := fun s => by
              rw [hd s]
              have h1 := (durT_le k s _ (keyT_len hO)).1
              rw [List.length_map] at h1
              omega
            have hdm : ∀ s, (lkH dm s).2.2.length ≤ maxLen := fun s => by have := hdl s; unfold maxLen; omega
            refine w_region (zd rfl (op_makeFunc rfl rfl) (za rfl (wl_nil (st_tn (w_seq (w_seq (w_region (zd rfl (op_fieldAddr (off := 2) rfl tF38_2sh) (zd rfl (op_load1 rfl tO3sh (Ent.lab (l := 4) rfl (says_cel 2))) (wl_nil (st_tn (w_block (w_seq ?_)))))))))))))
            refine w_region (zd rfl (op_eql rfl rfl) (za rfl (wl_nil (st_tn (w_cond_d rfl (fun hc112 => ?_) (fun hc112 => ?_))))))
            · -- c112.t
              have hval : ∀ s, lkE em s = valT k (T.map keyT) s := fun s => by unfold valT; rw [if_pos hc112, he s]
              refine w_region (zd rfl (op_makeFunc rfl rfl) (za rfl (wl_nil (st_bn (st_tn (w_seq (w_region (zd rfl (op_loadA rfl tA38sh (Ent.lab (l := 4) rfl (says_cel 0)) (Nat.le_of_ble_eq_true rfl)) (zd rfl (op_fieldAddr (off := 0) rfl tF40_0sh) (zd rfl (op_load1 rfl tO3sh (Ent.lab (l := 5) rfl (says_cel 0))) (zd rfl (op_fn Tryz.func18 rfl rfl rfl (like_any _ _ _ _ _ _ _ _ _)) (wl_op [] rfl rfl rfl rfl (op_alloc (l := 17) tN38sh) ?_))))))))))))
              rintro _ _ ⟨b17, rfl, rfl⟩
              refine wl_op0 [17] rfl rfl rfl (op_store rfl rfl tZ38sh (by rfl) (by rfl) (by exact Nat.le_of_ble_eq_true rfl)) ?_
              rintro _ _ ⟨rfl, rfl⟩
              refine wl_nil (st_tn (w_seq (w_seq (w_region (zd rfl (op_fieldAddr (off := 0) rfl tF40_0sh) (zd rfl (op_load1 rfl tO3sh (Ent.lab (l := 5) rfl (says_cel 0))) (za rfl (wl_nil (st_tn (w_block (w_emp 917 (slO_nil 3 1) ?_)))))))))))
              refine w_loopQ (X := Int × List Int × Option Addr × Nat) (fun z => (lo ≤ z.1 ∧ z.1 ≤ hi) ∧ z.2.1 = ((slots lo hi).take (z.1 - lo).toNat).map (valT k (T.map keyT))) (fun z => [(18, .int .i64 (z.1))]) (fun z => [(917, slW 3 SL.encZ 1 (.slice (z.2.2.1) (z.2.1).length (z.2.2.2)) (z.2.1)), (17, cel b17 [.string k.svc, .string k.op, .int .i64 k.met, .int .i64 k.qn, .int .i64 k.qd, .int .i64 lo, .slice (z.2.2.1) (z.2.1).length (z.2.2.2)] 38)]) (fun z => (hi - z.1).toNat) ((_, [], none, 0)) [(5, _), (6, _), (16, _), (17, _)] [(4, _), (5, _), (6, _), (9, _), (10, _), (57, _), (58, _), (650, _)] [917, 17, 4, 5, 6, 9, 10, 57, 58, 650] rfl (rfl) (.cons rfl (.nil _)) (.cons rfl (.cons rfl (.cons rfl (.cons rfl (.nil _))))) (by
                  try dsimp only
                  exact ⟨by omega, by rw [Int.sub_self]; rfl⟩) ?_
              rintro ⟨s, out, a_out, c_out⟩ ⟨hs1, ho1⟩
              refine w_norm2 (by dsimp only [List.cons_append, List.nil_append]) (by dsimp only [List.cons_append, List.nil_append]) ?_
              try dsimp only at hs1 ho1 ⊢
              refine w_seq (w_seq (w_region (zm rfl (zd rfl (op_fieldAddr (off := 1) rfl tF40_1sh) (zd rfl (op_load1 rfl tO3sh (Ent.lab (l := 5) rfl (says_cel 1))) (zd rfl (op_lss rfl rfl) (wl_nil (st_tn (w_cond_d rfl (fun hc127 => ?_) (fun hc127 => ?_))))))))))
              · -- c127.t
                have hol : out.length ≤ 1024 := by rw [ho1, List.length_map, List.length_take, slots_len]; omega
                refine w_skip (st_tn (w_seq (w_block ?_)))
                refine w_drawW (fun β => [⟨130, [], [], [], noW (_), false, [], []⟩, ⟨131, [0], [], [], noW (_), false, [], []⟩, ⟨132, [], [], [], noW (_), false, [], []⟩, ⟨133, [], [], [], noW (_), false, [], []⟩, ⟨134, [2, 3], [], [], noW (_), false, [], []⟩, ⟨135, [4], [], [], fun w => DetW _ _, false, [], []⟩]) [] [17, 16, 18] [⟨130, [], [], false, [], []⟩, ⟨131, [0], [], false, [], []⟩, ⟨132, [], [], false, [], []⟩, ⟨133, [], [], false, [], []⟩, ⟨134, [2, 3], [], false, [], []⟩, ⟨135, [4], [], false, [], []⟩] [[], [], [], [], [], []] [[], [], [], [], [], []] tMixsh (fun _ => by rfl) (fun _ => by rfl) (by kernel_rfl) (by kernel_rfl) (by rfl) (by rfl)
                    (fun β => ⟨.p rfl (by intro X; exact op_fieldAddr (off := 6) rfl tF38_5sh),
                    ⟨.p rfl (by intro X; rintro _ _ ⟨rfl, rfl⟩; exact op_load1 rfl tO36sh (Ent.lab (l := 17) rfl (says_cel 6))),
                    ⟨.p rfl (by intro X; exact op_move rfl),
                    ⟨.p rfl (by intro X; exact op_move rfl),
                    ⟨.p rfl (by intro X; rintro _ _ ⟨rfl, rfl⟩ _ _ ⟨rfl, rfl⟩; exact op_fnv (fs := []) (cs := [.pointer (some ⟨b10, 0, none⟩)]) Tryz.func22 rfl rfl rfl rfl (fn_imp (of2_any s (Ent.lab (l := 10) rfl (says_cel 0)) (Mr.lab 58 rfl)) (fun u ρ hu => (by rw [hval s] at hu; exact hu : u = .int .i64 (valT k (T.map keyT) s) ∧ ρ = [])))),
                    ⟨.px rfl (by intro X; rintro _ _ ⟨rfl, rfl⟩; refine OpT.mono (op_buildSlice (enc := SL.encZ) (l := [valT k (T.map keyT) s]) (lab := 135) tL36_1sh rfl rfl (fun _ => rfl) rfl) ?_; rintro _ _ ⟨a135, c135, rfl, rfl⟩; obtain ⟨w, rfl, rfl⟩ : ∃ w : Wt, w.a = a135 ∧ w.c = c135 := ⟨{ a := a135, c := c135 }, rfl, rfl⟩; exact ⟨w, rfl, rfl⟩),
                    trivial⟩⟩⟩⟩⟩⟩)
                    (fun β β' => ⟨fun _ => by rfl, ⟨fun _ => by rfl, ⟨fun _ => by rfl, ⟨fun _ => by rfl, ⟨fun _ => by rfl, ⟨fun _ => by rfl, trivial⟩⟩⟩⟩⟩⟩) ?_
                intro β
                rintro _ _ ⟨rfl, rfl⟩ _ _ ⟨rfl, rfl⟩ _ _ ⟨rfl, rfl⟩ _ _ ⟨rfl, rfl⟩ _ _ ⟨rfl, rfl⟩ _ _ ⟨rfl, rfl⟩
                generalize (β 5).a = a135
                generalize (β 5).c = c135
                refine wl_norm (e' := [(5, _), (6, _), (16, _), (17, _), (18, _), (131, _), (135, _)]) (.cons rfl (.cons rfl (.cons rfl (.cons rfl (.cons rfl (.cons rfl (.cons rfl (.nil _)))))))) (by dsimp only [cond_false, cond_true, List.nil_append, List.cons_append]) ?_
                refine wl_op [917] rfl rfl rfl rfl (op_append (lab := 917) (lab' := 136) rfl rfl tP36sh SL.enc1Z (Sl.lab 135 rfl (by simp [maxLen])) (by first | omega | (simp; done) | (simp; omega) | (simp [*]; omega)) (by first | omega | (simp; done) | (simp; omega) | (simp [*]; omega))) ?_
                rintro _ _ ⟨a136, c136, rfl, rfl⟩
                refine zd rfl (op_fieldAddr (off := 6) rfl tF38_5sh) (wl_op0 [17] rfl rfl rfl (op_store rfl rfl tZ36sh (by rfl) (by rfl) (by exact Nat.le_of_ble_eq_true rfl)) ?_)
                rintro _ _ ⟨rfl, rfl⟩
                refine wl_nil (st_bn (st_tn (w_region (zm rfl (zd rfl (op_add' rfl rfl (by omega)) ?_)))))
                refine za rfl (wl_nil ?_)
                refine st_roundQ (x := (s, out, a_out, c_out)) ((s + 1, _, _, _)) [136, 17, 4, 5, 6, 9, 10, 57, 58, 650] rfl (rfl) (.cons rfl (.nil _)) (.cons rfl (.cons rfl (.cons rfl (.cons rfl (.nil _))))) (by
                    try dsimp only
                    refine ⟨by omega, ?_⟩
                    rw [slots_snoc hs1.1 (by omega), List.map_append, ← ho1]; rfl) (by
                    try dsimp only
                    omega)
              · -- c127.f
                refine w_exit (st_te ?_)
                refine st_te ?_
                refine st_be (st_tn (w_seq (w_seq ?_)))
                have hft : (slots lo hi).take (s - lo).toNat = slots lo hi := List.take_of_length_le (by rw [slots_len]; omega)
                rw [hft] at ho1
                have hol : out.length ≤ 1024 := by rw [ho1, List.length_map, slots_len]; omega
                have hck : chkE k lo out = 0 := by rw [ho1]; exact chk_out hO (Classical.not_not.1 hc24) hc27 (by omega)
                refine w_region (zd rfl (op_loadA rfl tA38sh (Ent.lab (l := 17) rfl (says_cel 0)) (Nat.le_of_ble_eq_true rfl)) (zd rfl (op_fn Tryz.func17 rfl rfl rfl (check_any k lo (Sl.lab 917 rfl (by unfold maxLen; omega)) hs ho hx hy)) ?_))
                refine za rfl (wl_nil (st_tn (w_seq (w_region (zm rfl (zd rfl (op_neq rfl rfl) (wl_nil (st_tn (w_cond_d rfl (fun hc141 => ?_) (fun hc141 => ?_))))))))))
                · -- c141.t
                  exact absurd hck hc141
                · -- c141.f
                  refine w_skip (st_tn (w_seq (w_region (zd rfl (op_loadA rfl tA38sh (Ent.lab (l := 17) rfl (says_cel 0)) (Nat.le_of_ble_eq_true rfl)) (wl_op0 [6] rfl rfl rfl (op_store rfl rfl tZ38sh (by rfl) (by rfl) (by exact Nat.le_of_ble_eq_true rfl)) ?_)))))
                  rintro _ _ ⟨rfl, rfl⟩
                  refine za rfl (wl_nil (st_tn (w_ret (st_ret (vs := [_, _]) [917] Tryz.results7 ⟨⟨_, rfl, Ent.mono (Ent.lab (l := 6) rfl (says_cel 0)) (fun _ h => run_load_agg tA38sh h (Nat.le_of_ble_eq_true rfl))⟩, ⟨rfl, trivial⟩⟩ rfl ?_))))
                  refine ⟨[(lab, _)], rfl, ?_⟩
                  unfold ofR; rw [if_neg hc24, if_neg hc27, if_neg (by omega), ← ho1]; exact ⟨_, _, rfl, rfl⟩
            · -- c112.f
              refine w_seq (w_region (zd rfl (op_eql rfl rfl) (za rfl (wl_nil (st_tn (w_cond_d rfl (fun hc115 => ?_) (fun hc115 => ?_)))))))
              · -- c115.t
                have hval : ∀ s, quantZ (lkH dm s).2.2 k.qn k.qd = valT k (T.map keyT) s := fun s => by unfold valT; rw [if_neg hc112, if_pos hc115, hd s]
                have hg := chk_good (Classical.not_not.1 hc24) hc115
                refine w_region (zd rfl (op_makeFunc rfl rfl) (za rfl (wl_nil (st_bn (st_tn (w_seq (w_region (zd rfl (op_loadA rfl tA38sh (Ent.lab (l := 4) rfl (says_cel 0)) (Nat.le_of_ble_eq_true rfl)) (zd rfl (op_fieldAddr (off := 0) rfl tF40_0sh) (zd rfl (op_load1 rfl tO3sh (Ent.lab (l := 5) rfl (says_cel 0))) (zd rfl (op_fn Tryz.func18 rfl rfl rfl (like_any _ _ _ _ _ _ _ _ _)) (wl_op [] rfl rfl rfl rfl (op_alloc (l := 17) tN38sh) ?_))))))))))))
                rintro _ _ ⟨b17, rfl, rfl⟩
                refine wl_op0 [17] rfl rfl rfl (op_store rfl rfl tZ38sh (by rfl) (by rfl) (by exact Nat.le_of_ble_eq_true rfl)) ?_
                rintro _ _ ⟨rfl, rfl⟩
                refine wl_nil (st_tn (w_seq (w_seq (w_region (zd rfl (op_fieldAddr (off := 0) rfl tF40_0sh) (zd rfl (op_load1 rfl tO3sh (Ent.lab (l := 5) rfl (says_cel 0))) (za rfl (wl_nil (st_tn (w_block (w_emp 917 (slO_nil 3 1) ?_)))))))))))
                refine w_loopQ (X := Int × List Int × Option Addr × Nat) (fun z => (lo ≤ z.1 ∧ z.1 ≤ hi) ∧ z.2.1 = ((slots lo hi).take (z.1 - lo).toNat).map (valT k (T.map keyT))) (fun z => [(18, .int .i64 (z.1))]) (fun z => [(917, slW 3 SL.encZ 1 (.slice (z.2.2.1) (z.2.1).length (z.2.2.2)) (z.2.1)), (17, cel b17 [.string k.svc, .string k.op, .int .i64 k.met, .int .i64 k.qn, .int .i64 k.qd, .int .i64 lo, .slice (z.2.2.1) (z.2.1).length (z.2.2.2)] 38)]) (fun z => (hi - z.1).toNat) ((_, [], none, 0)) [(5, _), (6, _), (16, _), (17, _)] [(4, _), (5, _), (6, _), (9, _), (10, _), (57, _), (58, _), (650, _)] [917, 17, 4, 5, 6, 9, 10, 57, 58, 650] rfl (rfl) (.cons rfl (.nil _)) (.cons rfl (.cons rfl (.cons rfl (.cons rfl (.nil _))))) (by
                    try dsimp only
                    exact ⟨by omega, by rw [Int.sub_self]; rfl⟩) ?_
                rintro ⟨s, out, a_out, c_out⟩ ⟨hs1, ho1⟩
                refine w_norm2 (by dsimp only [List.cons_append, List.nil_append]) (by dsimp only [List.cons_append, List.nil_append]) ?_
                try dsimp only at hs1 ho1 ⊢
                refine w_seq (w_seq (w_region (zm rfl (zd rfl (op_fieldAddr (off := 1) rfl tF40_1sh) (zd rfl (op_load1 rfl tO3sh (Ent.lab (l := 5) rfl (says_cel 1))) (zd rfl (op_lss rfl rfl) (wl_nil (st_tn (w_cond_d rfl (fun hc127 => ?_) (fun hc127 => ?_))))))))))
                · -- c127.t
                  have hol : out.length ≤ 1024 := by rw [ho1, List.length_map, List.length_take, slots_len]; omega
                  refine w_skip (st_tn (w_seq (w_block ?_)))
                  refine w_drawW (fun β => [⟨130, [], [], [], noW (_), false, [], []⟩, ⟨131, [0], [], [], noW (_), false, [], []⟩, ⟨132, [], [], [], noW (_), false, [], []⟩, ⟨133, [], [], [], noW (_), false, [], []⟩, ⟨134, [2, 3], [], [], noW (_), false, [], []⟩, ⟨135, [4], [], [], fun w => DetW _ _, false, [], []⟩]) [] [17, 16, 18] [⟨130, [], [], false, [], []⟩, ⟨131, [0], [], false, [], []⟩, ⟨132, [], [], false, [], []⟩, ⟨133, [], [], false, [], []⟩, ⟨134, [2, 3], [], false, [], []⟩, ⟨135, [4], [], false, [], []⟩] [[], [], [], [], [], []] [[], [], [], [], [], []] tMixsh (fun _ => by rfl) (fun _ => by rfl) (by kernel_rfl) (by kernel_rfl) (by rfl) (by rfl)
                      (fun β => ⟨.p rfl (by intro X; exact op_fieldAddr (off := 6) rfl tF38_5sh),
                      ⟨.p rfl (by intro X; rintro _ _ ⟨rfl, rfl⟩; exact op_load1 rfl tO36sh (Ent.lab (l := 17) rfl (says_cel 6))),
                      ⟨.p rfl (by intro X; exact op_move rfl),
                      ⟨.p rfl (by intro X; exact op_move rfl),
                      ⟨.p rfl (by intro X; rintro _ _ ⟨rfl, rfl⟩ _ _ ⟨rfl, rfl⟩; exact op_fnv (fs := []) (cs := [.pointer (some ⟨b9, 0, none⟩), .pointer (some ⟨b4, 0, none⟩)]) Tryz.func23 rfl rfl rfl rfl (fn_imp (of3_any (k := k) (fr := fr) s (Ent.lab (l := 9) rfl (says_cel 0)) (Ent.lab (l := 4) rfl (says_cel 0)) (Mr.lab 57 rfl) (fam_sl s 650 rfl (hdm s)) (by have := hdl s; omega) hg) (fun u ρ hu => (by rw [hval s] at hu; exact hu : u = .int .i64 (valT k (T.map keyT) s) ∧ ρ = [])))),
                      ⟨.px rfl (by intro X; rintro _ _ ⟨rfl, rfl⟩; refine OpT.mono (op_buildSlice (enc := SL.encZ) (l := [valT k (T.map keyT) s]) (lab := 135) tL36_1sh rfl rfl (fun _ => rfl) rfl) ?_; rintro _ _ ⟨a135, c135, rfl, rfl⟩; obtain ⟨w, rfl, rfl⟩ : ∃ w : Wt, w.a = a135 ∧ w.c = c135 := ⟨{ a := a135, c := c135 }, rfl, rfl⟩; exact ⟨w, rfl, rfl⟩),
                      trivial⟩⟩⟩⟩⟩⟩)
                      (fun β β' => ⟨fun _ => by rfl, ⟨fun _ => by rfl, ⟨fun _ => by rfl, ⟨fun _ => by rfl, ⟨fun _ => by rfl, ⟨fun _ => by rfl, trivial⟩⟩⟩⟩⟩⟩) ?_
                  intro β
                  rintro _ _ ⟨rfl, rfl⟩ _ _ ⟨rfl, rfl⟩ _ _ ⟨rfl, rfl⟩ _ _ ⟨rfl, rfl⟩ _ _ ⟨rfl, rfl⟩ _ _ ⟨rfl, rfl⟩
                  generalize (β 5).a = a135
                  generalize (β 5).c = c135
                  refine wl_norm (e' := [(5, _), (6, _), (16, _), (17, _), (18, _), (131, _), (135, _)]) (.cons rfl (.cons rfl (.cons rfl (.cons rfl (.cons rfl (.cons rfl (.cons rfl (.nil _)))))))) (by dsimp only [cond_false, cond_true, List.nil_append, List.cons_append]) ?_
                  refine wl_op [917] rfl rfl rfl rfl (op_append (lab := 917) (lab' := 136) rfl rfl tP36sh SL.enc1Z (Sl.lab 135 rfl (by simp [maxLen])) (by first | omega | (simp; done) | (simp; omega) | (simp [*]; omega)) (by first | omega | (simp; done) | (simp; omega) | (simp [*]; omega))) ?_
                  rintro _ _ ⟨a136, c136, rfl, rfl⟩
                  refine zd rfl (op_fieldAddr (off := 6) rfl tF38_5sh) (wl_op0 [17] rfl rfl rfl (op_store rfl rfl tZ36sh (by rfl) (by rfl) (by exact Nat.le_of_ble_eq_true rfl)) ?_)
                  rintro _ _ ⟨rfl, rfl⟩
                  refine wl_nil (st_bn (st_tn (w_region (zm rfl (zd rfl (op_add' rfl rfl (by omega)) ?_)))))
                  refine za rfl (wl_nil ?_)
                  refine st_roundQ (x := (s, out, a_out, c_out)) ((s + 1, _, _, _)) [136, 17, 4, 5, 6, 9, 10, 57, 58, 650] rfl (rfl) (.cons rfl (.nil _)) (.cons rfl (.cons rfl (.cons rfl (.cons rfl (.nil _))))) (by
                      try dsimp only
                      refine ⟨by omega, ?_⟩
                      rw [slots_snoc hs1.1 (by omega), List.map_append, ← ho1]; rfl) (by
                      try dsimp only
                      omega)
                · -- c127.f
                  refine w_exit (st_te ?_)
                  refine st_te ?_
                  refine st_be (st_tn (w_seq (w_seq ?_)))
                  have hft : (slots lo hi).take (s - lo).toNat = slots lo hi := List.take_of_length_le (by rw [slots_len]; omega)
                  rw [hft] at ho1
                  have hol : out.length ≤ 1024 := by rw [ho1, List.length_map, slots_len]; omega
                  have hck : chkE k lo out = 0 := by rw [ho1]; exact chk_out hO (Classical.not_not.1 hc24) hc27 (by omega)
                  refine w_region (zd rfl (op_loadA rfl tA38sh (Ent.lab (l := 17) rfl (says_cel 0)) (Nat.le_of_ble_eq_true rfl)) (zd rfl (op_fn Tryz.func17 rfl rfl rfl (check_any k lo (Sl.lab 917 rfl (by unfold maxLen; omega)) hs ho hx hy)) ?_))
                  refine za rfl (wl_nil (st_tn (w_seq (w_region (zm rfl (zd rfl (op_neq rfl rfl) (wl_nil (st_tn (w_cond_d rfl (fun hc141 => ?_) (fun hc141 => ?_))))))))))
                  · -- c141.t
                    exact absurd hck hc141
                  · -- c141.f
                    refine w_skip (st_tn (w_seq (w_region (zd rfl (op_loadA rfl tA38sh (Ent.lab (l := 17) rfl (says_cel 0)) (Nat.le_of_ble_eq_true rfl)) (wl_op0 [6] rfl rfl rfl (op_store rfl rfl tZ38sh (by rfl) (by rfl) (by exact Nat.le_of_ble_eq_true rfl)) ?_)))))
                    rintro _ _ ⟨rfl, rfl⟩
                    refine za rfl (wl_nil (st_tn (w_ret (st_ret (vs := [_, _]) [917] Tryz.results7 ⟨⟨_, rfl, Ent.mono (Ent.lab (l := 6) rfl (says_cel 0)) (fun _ h => run_load_agg tA38sh h (Nat.le_of_ble_eq_true rfl))⟩, ⟨rfl, trivial⟩⟩ rfl ?_))))
                    refine ⟨[(lab, _)], rfl, ?_⟩
                    unfold ofR; rw [if_neg hc24, if_neg hc27, if_neg (by omega), ← ho1]; exact ⟨_, _, rfl, rfl⟩
              · -- c115.f
                have hval : ∀ s, ((lkH dm s).2.2.length : Int) = valT k (T.map keyT) s := fun s => by unfold valT; rw [if_neg hc112, if_neg hc115, hd s]
                refine w_skip (st_bn (st_tn (w_seq (w_region (zd rfl (op_loadA rfl tA38sh (Ent.lab (l := 4) rfl (says_cel 0)) (Nat.le_of_ble_eq_true rfl)) (zd rfl (op_fieldAddr (off := 0) rfl tF40_0sh) (zd rfl (op_load1 rfl tO3sh (Ent.lab (l := 5) rfl (says_cel 0))) (zd rfl (op_fn Tryz.func18 rfl rfl rfl (like_any _ _ _ _ _ _ _ _ _)) (wl_op [] rfl rfl rfl rfl (op_alloc (l := 17) tN38sh) ?_)))))))))
                rintro _ _ ⟨b17, rfl, rfl⟩
                refine wl_op0 [17] rfl rfl rfl (op_store rfl rfl tZ38sh (by rfl) (by rfl) (by exact Nat.le_of_ble_eq_true rfl)) ?_
                rintro _ _ ⟨rfl, rfl⟩
                refine wl_nil (st_tn (w_seq (w_seq (w_region (zd rfl (op_fieldAddr (off := 0) rfl tF40_0sh) (zd rfl (op_load1 rfl tO3sh (Ent.lab (l := 5) rfl (says_cel 0))) (za rfl (wl_nil (st_tn (w_block (w_emp 917 (slO_nil 3 1) ?_)))))))))))
                refine w_loopQ (X := Int × List Int × Option Addr × Nat) (fun z => (lo ≤ z.1 ∧ z.1 ≤ hi) ∧ z.2.1 = ((slots lo hi).take (z.1 - lo).toNat).map (valT k (T.map keyT))) (fun z => [(18, .int .i64 (z.1))]) (fun z => [(917, slW 3 SL.encZ 1 (.slice (z.2.2.1) (z.2.1).length (z.2.2.2)) (z.2.1)), (17, cel b17 [.string k.svc, .string k.op, .int .i64 k.met, .int .i64 k.qn, .int .i64 k.qd, .int .i64 lo, .slice (z.2.2.1) (z.2.1).length (z.2.2.2)] 38)]) (fun z => (hi - z.1).toNat) ((_, [], none, 0)) [(5, _), (6, _), (16, _), (17, _)] [(4, _), (5, _), (6, _), (9, _), (10, _), (57, _), (58, _), (650, _)] [917, 17, 4, 5, 6, 9, 10, 57, 58, 650] rfl (rfl) (.cons rfl (.nil _)) (.cons rfl (.cons rfl (.cons rfl (.cons rfl (.nil _))))) (by
                    try dsimp only
                    exact ⟨by omega, by rw [Int.sub_self]; rfl⟩) ?_
                rintro ⟨s, out, a_out, c_out⟩ ⟨hs1, ho1⟩
                refine w_norm2 (by dsimp only [List.cons_append, List.nil_append]) (by dsimp only [List.cons_append, List.nil_append]) ?_
                try dsimp only at hs1 ho1 ⊢
                refine w_seq (w_seq (w_region (zm rfl (zd rfl (op_fieldAddr (off := 1) rfl tF40_1sh) (zd rfl (op_load1 rfl tO3sh (Ent.lab (l := 5) rfl (says_cel 1))) (zd rfl (op_lss rfl rfl) (wl_nil (st_tn (w_cond_d rfl (fun hc127 => ?_) (fun hc127 => ?_))))))))))
                · -- c127.t
                  have hol : out.length ≤ 1024 := by rw [ho1, List.length_map, List.length_take, slots_len]; omega
                  refine w_skip (st_tn (w_seq (w_block ?_)))
                  refine w_drawW (fun β => [⟨130, [], [], [], noW (_), false, [], []⟩, ⟨131, [0], [], [], noW (_), false, [], []⟩, ⟨132, [], [], [], noW (_), false, [], []⟩, ⟨133, [], [], [], noW (_), false, [], []⟩, ⟨134, [2, 3], [], [], noW (_), false, [], []⟩, ⟨135, [4], [], [], fun w => DetW _ _, false, [], []⟩]) [] [17, 16, 18] [⟨130, [], [], false, [], []⟩, ⟨131, [0], [], false, [], []⟩, ⟨132, [], [], false, [], []⟩, ⟨133, [], [], false, [], []⟩, ⟨134, [2, 3], [], false, [], []⟩, ⟨135, [4], [], false, [], []⟩] [[], [], [], [], [], []] [[], [], [], [], [], []] tMixsh (fun _ => by rfl) (fun _ => by rfl) (by kernel_rfl) (by kernel_rfl) (by rfl) (by rfl)
                      (fun β => ⟨.p rfl (by intro X; exact op_fieldAddr (off := 6) rfl tF38_5sh),
                      ⟨.p rfl (by intro X; rintro _ _ ⟨rfl, rfl⟩; exact op_load1 rfl tO36sh (Ent.lab (l := 17) rfl (says_cel 6))),
                      ⟨.p rfl (by intro X; exact op_move rfl),
                      ⟨.p rfl (by intro X; exact op_move rfl),
                      ⟨.p rfl (by intro X; rintro _ _ ⟨rfl, rfl⟩ _ _ ⟨rfl, rfl⟩; exact op_fnv (fs := []) (cs := [.pointer (some ⟨b9, 0, none⟩)]) Tryz.func21 rfl rfl rfl rfl (fn_imp (of1_any s (Ent.lab (l := 9) rfl (says_cel 0)) (Mr.lab 57 rfl) (fam_sl s 650 rfl (hdm s))) (fun u ρ hu => (by rw [hval s] at hu; exact hu : u = .int .i64 (valT k (T.map keyT) s) ∧ ρ = [])))),
                      ⟨.px rfl (by intro X; rintro _ _ ⟨rfl, rfl⟩; refine OpT.mono (op_buildSlice (enc := SL.encZ) (l := [valT k (T.map keyT) s]) (lab := 135) tL36_1sh rfl rfl (fun _ => rfl) rfl) ?_; rintro _ _ ⟨a135, c135, rfl, rfl⟩; obtain ⟨w, rfl, rfl⟩ : ∃ w : Wt, w.a = a135 ∧ w.c = c135 := ⟨{ a := a135, c := c135 }, rfl, rfl⟩; exact ⟨w, rfl, rfl⟩),
                      trivial⟩⟩⟩⟩⟩⟩)
                      (fun β β' => ⟨fun _ => by rfl, ⟨fun _ => by rfl, ⟨fun _ => by rfl, ⟨fun _ => by rfl, ⟨fun _ => by rfl, ⟨fun _ => by rfl, trivial⟩⟩⟩⟩⟩⟩) ?_
                  intro β
                  rintro _ _ ⟨rfl, rfl⟩ _ _ ⟨rfl, rfl⟩ _ _ ⟨rfl, rfl⟩ _ _ ⟨rfl, rfl⟩ _ _ ⟨rfl, rfl⟩ _ _ ⟨rfl, rfl⟩
                  generalize (β 5).a = a135
                  generalize (β 5).c = c135
                  refine wl_norm (e' := [(5, _), (6, _), (16, _), (17, _), (18, _), (131, _), (135, _)]) (.cons rfl (.cons rfl (.cons rfl (.cons rfl (.cons rfl (.cons rfl (.cons rfl (.nil _)))))))) (by dsimp only [cond_false, cond_true, List.nil_append, List.cons_append]) ?_
                  refine wl_op [917] rfl rfl rfl rfl (op_append (lab := 917) (lab' := 136) rfl rfl tP36sh SL.enc1Z (Sl.lab 135 rfl (by simp [maxLen])) (by first | omega | (simp; done) | (simp; omega) | (simp [*]; omega)) (by first | omega | (simp; done) | (simp; omega) | (simp [*]; omega))) ?_
                  rintro _ _ ⟨a136, c136, rfl, rfl⟩
                  refine zd rfl (op_fieldAddr (off := 6) rfl tF38_5sh) (wl_op0 [17] rfl rfl rfl (op_store rfl rfl tZ36sh (by rfl) (by rfl) (by exact Nat.le_of_ble_eq_true rfl)) ?_)
                  rintro _ _ ⟨rfl, rfl⟩
                  refine wl_nil (st_bn (st_tn (w_region (zm rfl (zd rfl (op_add' rfl rfl (by omega)) ?_)))))
                  refine za rfl (wl_nil ?_)
                  refine st_roundQ (x := (s, out, a_out, c_out)) ((s + 1, _, _, _)) [136, 17, 4, 5, 6, 9, 10, 57, 58, 650] rfl (rfl) (.cons rfl (.nil _)) (.cons rfl (.cons rfl (.cons rfl (.cons rfl (.nil _))))) (by
                      try dsimp only
                      refine ⟨by omega, ?_⟩
                      rw [slots_snoc hs1.1 (by omega), List.map_append, ← ho1]; rfl) (by
                      try dsimp only
                      omega)
                · -- c127.f
                  refine w_exit (st_te ?_)
                  refine st_te ?_
                  refine st_be (st_tn (w_seq (w_seq ?_)))
                  have hft : (slots lo hi).take (s - lo).toNat = slots lo hi := List.take_of_length_le (by rw [slots_len]; omega)
                  rw [hft] at ho1
                  have hol : out.length ≤ 1024 := by rw [ho1, List.length_map, slots_len]; omega
                  have hck : chkE k lo out = 0 := by rw [ho1]; exact chk_out hO (Classical.not_not.1 hc24) hc27 (by omega)
                  refine w_region (zd rfl (op_loadA rfl tA38sh (Ent.lab (l := 17) rfl (says_cel 0)) (Nat.le_of_ble_eq_true rfl)) (zd rfl (op_fn Tryz.func17 rfl rfl rfl (check_any k lo (Sl.lab 917 rfl (by unfold maxLen; omega)) hs ho hx hy)) ?_))
                  refine za rfl (wl_nil (st_tn (w_seq (w_region (zm rfl (zd rfl (op_neq rfl rfl) (wl_nil (st_tn (w_cond_d rfl (fun hc141 => ?_) (fun hc141 => ?_))))))))))
                  · -- c141.t
                    exact absurd hck hc141
                  · -- c141.f
                    refine w_skip (st_tn (w_seq (w_region (zd rfl (op_loadA rfl tA38sh (Ent.lab (l := 17) rfl (says_cel 0)) (Nat.le_of_ble_eq_true rfl)) (wl_op0 [6] rfl rfl rfl (op_store rfl rfl tZ38sh (by rfl) (by rfl) (by exact Nat.le_of_ble_eq_true rfl)) ?_)))))
                    rintro _ _ ⟨rfl, rfl⟩
                    refine za rfl (wl_nil (st_tn (w_ret (st_ret (vs := [_, _]) [917] Tryz.results7 ⟨⟨_, rfl, Ent.mono (Ent.lab (l := 6) rfl (says_cel 0)) (fun _ h => run_load_agg tA38sh h (Nat.le_of_ble_eq_true rfl))⟩, ⟨rfl, trivial⟩⟩ rfl ?_))))
                    refine ⟨[(lab, _)], rfl, ?_⟩
                    unfold ofR; rw [if_neg hc24, if_neg hc27, if_neg (by omega), ← ho1]; exact ⟨_, _, rfl, rfl⟩
end Go.Proofs.YtecmigildpkigaaGreat.Ser
