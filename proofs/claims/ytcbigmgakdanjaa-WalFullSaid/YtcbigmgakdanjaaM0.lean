/- A disk without a program: files in increasing order of their names, and what each operation does. Conditions: none. -/
import Derived.Test.YtcbigmgakdanjaaSlO
namespace Go.DskM
open Go Go.SL
set_option linter.unusedVariables false
set_option linter.unusedSimpArgs false
abbrev Bs := List UInt8
theorem lt_irrefl (a : Bs) : ¬ a < a := List.lt_irrefl a
theorem lt_trans {a b c : Bs} (h1 : a < b) (h2 : b < c) : a < c := List.lt_trans h1 h2
theorem lt_asymm {a b : Bs} (h : a < b) : ¬ b < a := List.lt_asymm h
theorem lt_tri (a b : Bs) : a < b ∨ a = b ∨ b < a := by
  by_cases h1 : a < b
  · exact .inl h1
  · by_cases h2 : b < a
    · exact .inr (.inr h2)
    · exact .inr (.inl (List.le_antisymm (List.not_lt.1 h2) (List.not_lt.1 h1)))
theorem ne_of_lt {a b : Bs} (h : a < b) : a ≠ b := fun e => lt_irrefl b (e ▸ h)
/-- A file: its bytes, how many of them are durable, and whether it is itself. -/
structure Fl where
  data : Bs
  syn : Nat
  dur : Bool
deriving DecidableEq
abbrev Files := List (Bs × Fl)
def encF (f : Fl) : Value := .agg #[.string (str f.data), .int .i64 f.syn, .bool f.dur]
def encM (p : Bs × Fl) : List Value := [.string (str p.1), .string (str p.2.data), .int .i64 p.2.syn, .bool p.2.dur]
structure St where
  cap : Int
  fs : Files
  down : Bool
  lim : Bool
  left : Int
deriving DecidableEq
/-- In order. -/
abbrev Inc (fs : Files) : Prop := fs.Pairwise (fun p q => p.1 < q.1)
theorem Inc.nod {fs : Files} (h : Inc fs) : (fs.map Prod.fst).Nodup := by
  rw [List.Nodup, List.pairwise_map]; exact h.imp ne_of_lt
theorem Inc.keys {fs : Files} (h : Inc fs) : (fs.map Prod.fst).Pairwise (· < ·) := by rw [List.pairwise_map]; exact h
def find (fs : Files) (k : Bs) : Option Fl := lookK KL fs k
def setS : Files → Bs → Fl → Files
  | [], k, f => [(k, f)]
  | p :: l, k, f => if k < p.1 then (k, f) :: p :: l else if k = p.1 then (k, f) :: l else p :: setS l k f
def delS (fs : Files) (k : Bs) : Files := fs.filter fun p => decide (p.1 ≠ k)
theorem mem_setS {k : Bs} {f : Fl} : ∀ {fs : Files} {q : Bs × Fl}, q ∈ setS fs k f → q = (k, f) ∨ q ∈ fs
  | [], q, h => by simp [setS] at h; exact .inl h
  | p :: l, q, h => by
    unfold setS at h
    split at h
    · rcases List.mem_cons.1 h with h | h
      · exact .inl h
      · exact .inr h
    · split at h
      · rcases List.mem_cons.1 h with h | h
        · exact .inl h
        · exact .inr (List.mem_cons_of_mem _ h)
      · rcases List.mem_cons.1 h with h | h
        · exact .inr (h ▸ List.mem_cons_self)
        · rcases mem_setS h with h | h
          · exact .inl h
          · exact .inr (List.mem_cons_of_mem _ h)
theorem Inc.set {k : Bs} {f : Fl} : ∀ {fs : Files}, Inc fs → Inc (setS fs k f)
  | [], h => List.pairwise_singleton _ _
  | p :: l, h => by
    obtain ⟨h1, h2⟩ := List.pairwise_cons.1 h
    unfold setS
    split
    · rename_i hk
      refine List.pairwise_cons.2 ⟨fun q hq => ?_, h⟩
      rcases List.mem_cons.1 hq with rfl | hq
      · exact hk
      · exact lt_trans hk (h1 q hq)
    · split
      · rename_i hk
        subst hk
        exact List.pairwise_cons.2 ⟨h1, h2⟩
      · rename_i hk1 hk2
        refine List.pairwise_cons.2 ⟨fun q hq => ?_, Inc.set h2⟩
        rcases mem_setS hq with rfl | hq
        · rcases lt_tri k p.1 with h3 | h3 | h3
          · exact absurd h3 hk1
          · exact absurd h3 hk2
          · exact h3
        · exact h1 q hq
theorem Inc.del {k : Bs} {fs : Files} (h : Inc fs) : Inc (delS fs k) := List.Pairwise.filter _ h
theorem find_nil (k : Bs) : find [] k = none := rfl
theorem find_cons (p : Bs × Fl) (l : Files) (k : Bs) : find (p :: l) k = if k = p.1 then some p.2 else find l k := by
  show (bif decide (k = p.1) then _ else _) = _
  by_cases h : k = p.1 <;> simp [h, find]
theorem find_mem {fs : Files} {k : Bs} {f : Fl} (h : find fs k = some f) : (k, f) ∈ fs := look_of h
theorem find_of {fs : Files} (h : Inc fs) {p : Bs × Fl} (hp : p ∈ fs) : find fs p.1 = some p.2 := look_get h.nod hp
theorem find_none {fs : Files} {k : Bs} (h : ∀ p ∈ fs, p.1 ≠ k) : find fs k = none := by
  cases hf : find fs k with
  | none => rfl
  | some f => exact absurd rfl (h _ (find_mem hf))
theorem find_set {k k' : Bs} {f : Fl} : ∀ {fs : Files}, Inc fs → find (setS fs k f) k' = if k' = k then some f else find fs k'
  | [], _ => by unfold setS; rw [find_cons, find_nil]
  | p :: l, h => by
    obtain ⟨h1, h2⟩ := List.pairwise_cons.1 h
    unfold setS
    split
    · rw [find_cons]
    · split
      · rename_i hk
        subst hk
        rw [find_cons, find_cons]
        by_cases hk : k' = p.1 <;> simp [hk]
      · rename_i hk1 hk2
        rw [find_cons, find_cons, find_set h2]
        by_cases hk : k' = p.1
        · have : k' ≠ k := fun e => hk2 (e ▸ hk)
          simp [hk]
          intro e; exact absurd e.symm hk2
        · simp [hk]
theorem find_del {k k' : Bs} : ∀ {fs : Files}, find (delS fs k) k' = if k' = k then none else find fs k'
  | [] => by simp [delS, find_nil]
  | p :: l => by
    have ih := find_del (k := k) (k' := k') (fs := l)
    unfold delS at ih ⊢
    rw [List.filter_cons]
    by_cases hp : p.1 = k
    · simp only [hp, ne_eq, not_true_eq_false, decide_false, Bool.false_eq_true, if_false]
      rw [ih, find_cons]
      by_cases hk : k' = k
      · simp [hk]
      · simp [hk, hp]
    · simp only [ne_eq, hp, not_false_eq_true, decide_true, if_true]
      rw [find_cons, ih, find_cons]
      by_cases hk : k' = p.1
      · simp [hk, hp]
      · simp [hk]
/-- In order, and the same lookups: the same. -/
theorem Inc.ext : ∀ {a b : Files}, Inc a → Inc b → (∀ k, find a k = find b k) → a = b
  | [], [], _, _, _ => rfl
  | [], y :: b, _, _, h => by have := h y.1; rw [find_nil, find_cons] at this; simp at this
  | x :: a, [], _, _, h => by have := h x.1; rw [find_nil, find_cons] at this; simp at this
  | x :: a, y :: b, ha, hb, h => by
    obtain ⟨ha1, ha2⟩ := List.pairwise_cons.1 ha
    obtain ⟨hb1, hb2⟩ := List.pairwise_cons.1 hb
    have hx : find (y :: b) x.1 = some x.2 := by rw [← h, find_cons]; simp
    have hy : find (x :: a) y.1 = some y.2 := by rw [h, find_cons]; simp
    have hxy : x.1 = y.1 := by
      rcases lt_tri x.1 y.1 with h1 | h1 | h1
      · rcases List.mem_cons.1 (find_mem hx) with h2 | h2
        · rw [← h2]
        · exact absurd (lt_trans h1 (hb1 _ h2)) (lt_irrefl _)
      · exact h1
      · rcases List.mem_cons.1 (find_mem hy) with h2 | h2
        · rw [← h2]
        · exact absurd (lt_trans h1 (ha1 _ h2)) (lt_irrefl _)
    have hv : x.2 = y.2 := by rw [find_cons, if_pos hxy] at hx; simpa using hx.symm
    have he : x = y := Prod.ext hxy hv
    subst he
    refine congrArg (x :: ·) (Inc.ext ha2 hb2 fun k => ?_)
    by_cases hk : k = x.1
    · subst hk
      rw [find_none fun p hp => (ne_of_lt (ha1 p hp)).symm, find_none fun p hp => (ne_of_lt (hb1 p hp)).symm]
    · have := h k; rw [find_cons, find_cons, if_neg hk, if_neg hk] at this; exact this
/-! ### Maps and files in order -/
theorem mem_look {l : Files} (h : (l.map Prod.fst).Nodup) {p : Bs × Fl} : p ∈ l ↔ lookK KL l p.1 = some p.2 := ⟨look_get h, fun h => look_of h⟩
theorem nodup_of_keys {l : Files} (h : (l.map Prod.fst).Nodup) : l.Nodup := by
  rw [List.Nodup, List.pairwise_map] at h
  exact h.imp fun hne e => hne (congrArg Prod.fst e)
theorem perm_of_look {l fs : Files} (h : (l.map Prod.fst).Nodup) (h' : (fs.map Prod.fst).Nodup) (he : ∀ k, lookK KL l k = lookK KL fs k) : l.Perm fs :=
  (List.perm_ext_iff_of_nodup (nodup_of_keys h) (nodup_of_keys h')).2 fun p => by rw [mem_look h, mem_look h', he]
theorem look_perm {l fs : Files} (hp : l.Perm fs) (h : (l.map Prod.fst).Nodup) (k : Bs) : lookK KL l k = find fs k := by
  have h' : (fs.map Prod.fst).Nodup := (hp.map Prod.fst).nodup_iff.1 h
  show _ = lookK KL fs k
  cases hq : lookK KL l k with
  | some v => exact (look_get h' (hp.mem_iff.1 (look_of hq))).symm
  | none =>
    cases hq' : lookK KL fs k with
    | none => rfl
    | some v => rw [look_get h (hp.mem_iff.2 (look_of hq'))] at hq; simp at hq
theorem nod_setK {l : Files} {k : Bs} {f : Fl} (h : (l.map Prod.fst).Nodup) : ((setK KL l k f).map Prod.fst).Nodup := by
  have hw : WfM l (List.range l.length) l.length := ⟨by simp, h, List.nodup_range, by simp⟩
  cases hq : posK KL l k 0 with
  | none =>
    obtain ⟨h2, h3, _⟩ := posK_none hq
    rw [h3]; exact (hw.push h2).nod
  | some q =>
    obtain ⟨i, v0⟩ := q
    obtain ⟨_, _, h3, h4, _⟩ := posK_set (v := f) hq
    rw [h4]; exact (hw.set h3).nod
theorem nod_delK {l : Files} {k : Bs} (h : (l.map Prod.fst).Nodup) : ((delK KL l k).map Prod.fst).Nodup := by
  have hw : WfM l (List.range l.length) l.length := ⟨by simp, h, List.nodup_range, by simp⟩
  cases hq : posK KL l k 0 with
  | none => rw [(posK_none hq).2.2]; exact h
  | some q =>
    obtain ⟨i, v0⟩ := q
    obtain ⟨_, _, _, _, h5⟩ := posK_set (v := v0) hq
    rw [h5]; exact hw.erase.nod
theorem set_perm {l fs : Files} (hp : l.Perm fs) (hi : Inc fs) (k : Bs) (f : Fl) : (setK KL l k f).Perm (setS fs k f) := by
  have hn : (l.map Prod.fst).Nodup := (hp.map Prod.fst).nodup_iff.2 hi.nod
  refine perm_of_look (nod_setK hn) hi.set.nod fun k' => ?_
  have := find_set (k := k) (k' := k') (f := f) hi
  unfold find at this
  rw [look_set, this]
  have h2 := look_perm hp hn k'
  unfold find at h2
  show (bif decide (k' = k) then _ else _) = _
  by_cases h : k' = k <;> simp [h, h2]
theorem del_perm {l fs : Files} (hp : l.Perm fs) (hi : Inc fs) (k : Bs) : (delK KL l k).Perm (delS fs k) := by
  have hn : (l.map Prod.fst).Nodup := (hp.map Prod.fst).nodup_iff.2 hi.nod
  refine perm_of_look (nod_delK hn) hi.del.nod fun k' => ?_
  have := find_del (k := k) (k' := k') (fs := fs)
  unfold find at this
  rw [look_del hn, this]
  have h2 := look_perm hp hn k'
  unfold find at h2
  show (bif decide (k' = k) then _ else _) = _
  by_cases h : k' = k <;> simp [h, h2]
/-! ### Operations -/
def used (fs : Files) : Nat := (fs.map fun p => p.2.data.length).sum
theorem used_perm {l fs : Files} (h : l.Perm fs) : used l = used fs := (h.map _).sum_nat
def nameB (s : Bs) : Bool := decide (s ≠ []) && decide (s.length ≤ 64) && s.all fun b => decide (33 ≤ b.toNat ∧ b.toNat ≤ 126)
structure Good (s : St) : Prop where
  inc : Inc s.fs
  syn : ∀ p ∈ s.fs, p.2.syn ≤ p.2.data.length
  nam : ∀ p ∈ s.fs, nameB p.1 = true
  cnt : s.fs.length ≤ 256
  use : (used s.fs : Int) ≤ s.cap
  cap : s.cap ≤ 67108864
  lo : 0 ≤ s.left
  hi : s.left ≤ 9223372036854775807
def lenOf (fs : Files) (k : Bs) : Nat := match find fs k with | some f => f.data.length | none => 0
theorem used_cons (p : Bs × Fl) (l : Files) : used (p :: l) = p.2.data.length + used l := by simp [used]
theorem lenOf_cons (p : Bs × Fl) (l : Files) (k : Bs) : lenOf (p :: l) k = if k = p.1 then p.2.data.length else lenOf l k := by
  unfold lenOf; rw [find_cons]; by_cases h : k = p.1 <;> simp [h]
theorem lenOf_gone {k : Bs} {fs : Files} (h : ∀ p ∈ fs, k < p.1) : lenOf fs k = 0 := by
  unfold lenOf; rw [find_none fun p hp => (ne_of_lt (h p hp)).symm]
theorem used_set {k : Bs} {f : Fl} : ∀ {fs : Files}, Inc fs → used (setS fs k f) + lenOf fs k = used fs + f.data.length
  | [], _ => by simp [setS, used, lenOf, find_nil]
  | p :: l, h => by
    obtain ⟨h1, h2⟩ := List.pairwise_cons.1 h
    have ih := used_set (k := k) (f := f) h2
    unfold setS
    rw [lenOf_cons]
    split
    · rename_i hk
      rw [if_neg (ne_of_lt hk), lenOf_gone fun q hq => lt_trans hk (h1 q hq), used_cons]; simp; omega
    · split
      · rw [used_cons, used_cons]; simp only; omega
      · rw [used_cons, used_cons]; omega
theorem used_del {k : Bs} : ∀ {fs : Files}, Inc fs → used (delS fs k) + lenOf fs k = used fs
  | [], _ => by simp [delS, used, lenOf, find_nil]
  | p :: l, h => by
    obtain ⟨h1, h2⟩ := List.pairwise_cons.1 h
    have ih := used_del (k := k) h2
    rw [lenOf_cons, used_cons]
    unfold delS at ih ⊢
    rw [List.filter_cons]
    by_cases hp : p.1 = k
    · subst hp
      have h3 := lenOf_gone (k := p.1) h1
      simp only [ne_eq, not_true_eq_false, decide_false, Bool.false_eq_true, if_false, if_true]
      rw [h3] at ih
      simp only [ne_eq] at ih
      omega
    · have hp' : ¬ k = p.1 := fun e => hp e.symm
      simp only [ne_eq, hp, not_false_eq_true, decide_true, if_true, hp', if_false]
      rw [used_cons]
      simp only [ne_eq] at ih
      omega
theorem len_set {k : Bs} {f : Fl} : ∀ {fs : Files}, Inc fs → (setS fs k f).length = fs.length + (if find fs k = none then 1 else 0)
  | [], _ => by simp [setS, find_nil]
  | p :: l, h => by
    obtain ⟨h1, h2⟩ := List.pairwise_cons.1 h
    have ih := len_set (k := k) (f := f) h2
    unfold setS
    rw [find_cons]
    split
    · rename_i hk
      rw [if_neg (ne_of_lt hk), find_none fun q hq => (ne_of_lt (lt_trans hk (h1 q hq))).symm]; simp
    · split
      · rename_i hk; simp
      · rename_i hk; simp only [hk, if_false, List.length_cons]; omega
theorem len_del {k : Bs} {fs : Files} : (delS fs k).length ≤ fs.length := List.length_filter_le _ _
theorem len_del1 {k : Bs} : ∀ {fs : Files} {f : Fl}, find fs k = some f → (delS fs k).length + 1 ≤ fs.length
  | [], f, h => by simp [find_nil] at h
  | p :: l, f, h => by
    rw [find_cons] at h
    unfold delS
    rw [List.filter_cons]
    by_cases hp : p.1 = k
    · simp only [hp, ne_eq, not_true_eq_false, decide_false, Bool.false_eq_true, if_false, List.length_cons]
      have := List.length_filter_le (fun q : Bs × Fl => decide ¬q.1 = k) l
      omega
    · have hp' : ¬ k = p.1 := fun e => hp e.symm
      rw [if_neg hp'] at h
      have := len_del1 (k := k) (fs := l) h
      unfold delS at this
      simp only [ne_eq, hp, not_false_eq_true, decide_true, if_true, List.length_cons] at this ⊢
      omega
theorem mem_delS {fs : Files} {k : Bs} {q : Bs × Fl} (h : q ∈ delS fs k) : q ∈ fs ∧ q.1 ≠ k := by
  have := List.mem_filter.1 h; exact ⟨this.1, by simpa using this.2⟩
def readyE (s : St) (ns : List Bs) : Int := if s.down = true then 27 else if ns.all nameB = true then 0 else 11
def oper (s : St) : Bool × St := if s.lim = true then (if s.left ≤ 0 then (false, { s with down := true }) else (true, { s with left := s.left - 1 })) else (true, s)
def zeroF : Fl := ⟨[], 0, false⟩
def grown (s : St) (n d : Bs) : St := { s with fs := setS s.fs n { (find s.fs n).getD zeroF with data := ((find s.fs n).getD zeroF).data ++ d } }
def appO (s : St) (n d : Bs) : Int × St :=
  if readyE s [n] ≠ 0 then (readyE s [n], s)
  else if find s.fs n = none ∧ 256 ≤ s.fs.length then (6, s)
  else if s.cap < used s.fs + d.length then (28, s)
  else if (oper (grown s n d)).1 = true then (0, (oper (grown s n d)).2) else (27, (oper (grown s n d)).2)
def synO (s : St) (n : Bs) : Int × St :=
  if readyE s [n] ≠ 0 then (readyE s [n], s)
  else match find s.fs n with
    | none => (10, s)
    | some f => if (oper s).1 = true then (0, { (oper s).2 with fs := setS s.fs n ⟨f.data, f.data.length, true⟩ }) else (27, (oper s).2)
def renO (s : St) (a b : Bs) : Int × St :=
  if readyE s [a, b] ≠ 0 then (readyE s [a, b], s)
  else match find s.fs a with
    | none => (10, s)
    | some f => if (oper s).1 = true then (0, { (oper s).2 with fs := setS (delS s.fs a) b f }) else (27, (oper s).2)
def remO (s : St) (n : Bs) : Int × St :=
  if readyE s [n] ≠ 0 then (readyE s [n], s)
  else match find s.fs n with
    | none => (10, s)
    | some f => if (oper s).1 = true then (0, { (oper s).2 with fs := delS s.fs n }) else (27, (oper s).2)
def readO (s : St) (n : Bs) (dur : Bool) : Bs × Int :=
  if readyE s [n] ≠ 0 then ([], readyE s [n])
  else match find s.fs n with
    | none => ([], 10)
    | some f => (if dur = true then f.data.take f.syn else f.data, 0)
def keep (c : Int) (k : Nat) : Nat := (if c.tmod (k + 1) < 0 then c.tmod (k + 1) + (k + 1) else c.tmod (k + 1)).toNat
theorem keep_spec (c : Int) (k : Nat) : ((keep c k : Nat) : Int) = (if c.tmod (k + 1) < 0 then c.tmod (k + 1) + (k + 1) else c.tmod (k + 1)) ∧ keep c k ≤ k := by
  have h2 := Int.tmod_lt_of_pos c (b := (k : Int) + 1) (by omega)
  have h1 : -((k : Int) + 1) < c.tmod (k + 1) := by
    have := Int.lt_tmod_of_pos c (b := (k : Int) + 1) (by omega)
    omega
  unfold keep
  split <;> omega
def cut (f : Fl) (c : Int) : Fl := { f with data := f.data.take (f.syn + keep c (f.data.length - f.syn)), syn := f.syn + keep c (f.data.length - f.syn) }
def startF : Files → List Int → Files
  | [], _ => []
  | p :: l, sc => if p.2.dur = true then (if p.2.data.length - p.2.syn = 0 then p :: startF l sc else (p.1, cut p.2 (sc.head?.getD 0)) :: startF l sc.tail) else startF l sc
def staO (s : St) (sc : List Int) : St := if s.down = true then { s with fs := startF s.fs sc, down := false, lim := false, left := 0 } else s
def limO (s : St) (k : Int) : St := { s with lim := true, left := max k 0 }
def craO (s : St) : St := { s with down := true }
/-! ### What stays -/
theorem oper_fs (s : St) : (oper s).2.fs = s.fs ∧ (oper s).2.cap = s.cap := by unfold oper; split <;> (try split) <;> exact ⟨rfl, rfl⟩
theorem Good.oper {s : St} (h : Good s) : Good (oper s).2 := by
  unfold DskM.oper
  split
  · split
    · exact ⟨h.inc, h.syn, h.nam, h.cnt, h.use, h.cap, h.lo, h.hi⟩
    · have := h.lo; have := h.hi
      exact ⟨h.inc, h.syn, h.nam, h.cnt, h.use, h.cap, by show 0 ≤ s.left - 1; omega, by show s.left - 1 ≤ _; omega⟩
  · exact h
theorem Good.fs {s : St} (h : Good s) {fs : Files} (h1 : Inc fs) (h2 : ∀ p ∈ fs, p.2.syn ≤ p.2.data.length) (h3 : ∀ p ∈ fs, nameB p.1 = true) (h4 : fs.length ≤ 256) (h5 : (used fs : Int) ≤ s.cap) : Good { s with fs := fs } := ⟨h1, h2, h3, h4, h5, h.cap, h.lo, h.hi⟩
theorem ready0 {s : St} {ns : List Bs} (h : ¬ readyE s ns ≠ 0) : s.down = false ∧ ∀ n ∈ ns, nameB n = true := by
  unfold readyE at h
  split at h
  · simp at h
  · split at h
    · rename_i h1 h2
      exact ⟨by simpa using h1, by simpa using h2⟩
    · simp at h
theorem Good.grown {s : St} (h : Good s) {n d : Bs} (h1 : nameB n = true) (h2 : ¬ (find s.fs n = none ∧ 256 ≤ s.fs.length)) (h3 : ¬ s.cap < used s.fs + d.length) : Good (grown s n d) := by
  have hu := used_set (k := n) (f := { (find s.fs n).getD zeroF with data := ((find s.fs n).getD zeroF).data ++ d }) h.inc
  have hl := len_set (k := n) (f := { (find s.fs n).getD zeroF with data := ((find s.fs n).getD zeroF).data ++ d }) h.inc
  refine h.fs h.inc.set (fun p hp => ?_) (fun p hp => ?_) ?_ ?_
  · rcases mem_setS hp with rfl | hp
    · simp only [List.length_append]
      cases hf : find s.fs n with
      | none => simp [zeroF]
      | some f => have := h.syn _ (find_mem hf); simp only [Option.getD_some] at this ⊢; omega
    · exact h.syn p hp
  · rcases mem_setS hp with rfl | hp
    · exact h1
    · exact h.nam p hp
  · rw [hl]
    have := h.cnt
    split
    · rename_i hn; have : ¬ 256 ≤ s.fs.length := fun e => h2 ⟨hn, e⟩; omega
    · omega
  · have he : (((find s.fs n).getD zeroF).data ++ d).length = lenOf s.fs n + d.length := by
      rw [List.length_append]; unfold lenOf
      cases find s.fs n <;> simp [zeroF]
    rw [he] at hu
    show (used (setS s.fs n { (find s.fs n).getD zeroF with data := ((find s.fs n).getD zeroF).data ++ d }) : Int) ≤ s.cap
    omega
theorem Good.app {s : St} (h : Good s) (n d : Bs) : Good (appO s n d).2 := by
  unfold appO
  split
  · exact h
  · rename_i hr
    obtain ⟨hd, hn⟩ := ready0 hr
    split
    · exact h
    · rename_i h2
      split
      · exact h
      · rename_i h3
        have hg := (h.grown (hn n (by simp)) h2 h3).oper
        split <;> exact hg
theorem Good.op {s : St} (h : Good s) {fs : Files} (h1 : Inc fs) (h2 : ∀ p ∈ fs, p.2.syn ≤ p.2.data.length) (h3 : ∀ p ∈ fs, nameB p.1 = true) (h4 : fs.length ≤ 256) (h5 : (used fs : Int) ≤ s.cap) : Good { (DskM.oper s).2 with fs := fs } :=
  Good.fs h.oper h1 h2 h3 h4 (by rw [(oper_fs s).2]; exact h5)
theorem Good.syn_ {s : St} (h : Good s) (n : Bs) : Good (synO s n).2 := by
  unfold synO
  split
  · exact h
  · cases hf : find s.fs n with
    | none => exact h
    | some f =>
      simp only
      split
      · refine h.op h.inc.set (fun p hp => ?_) (fun p hp => ?_) ?_ ?_
        · rcases mem_setS hp with rfl | hp
          · exact Nat.le_refl _
          · exact h.syn p hp
        · rcases mem_setS hp with rfl | hp
          · exact h.nam (n, f) (find_mem hf)
          · exact h.nam p hp
        · rw [len_set h.inc, hf]; have := h.cnt; simp; exact this
        · have hu := used_set (k := n) (f := ⟨f.data, f.data.length, true⟩) h.inc
          have hl : lenOf s.fs n = f.data.length := by unfold lenOf; rw [hf]
          have := h.use
          simp only [hl] at hu; omega
      · exact h.oper
theorem Good.rem {s : St} (h : Good s) (n : Bs) : Good (remO s n).2 := by
  unfold remO
  split
  · exact h
  · cases hf : find s.fs n with
    | none => exact h
    | some f =>
      simp only
      split
      · refine h.op h.inc.del (fun p hp => h.syn p (mem_delS hp).1) (fun p hp => h.nam p (mem_delS hp).1) ?_ ?_
        · have := len_del (k := n) (fs := s.fs); have := h.cnt; omega
        · have hu := used_del (k := n) h.inc
          have := h.use
          omega
      · exact h.oper
theorem Good.ren {s : St} (h : Good s) (a b : Bs) : Good (renO s a b).2 := by
  unfold renO
  split
  · exact h
  · rename_i hr
    obtain ⟨hd, hn⟩ := ready0 hr
    cases hf : find s.fs a with
    | none => exact h
    | some f =>
      simp only
      split
      · have hfa := find_mem hf
        refine h.op h.inc.del.set (fun p hp => ?_) (fun p hp => ?_) ?_ ?_
        · rcases mem_setS hp with rfl | hp
          · exact h.syn (a, f) hfa
          · exact h.syn p (mem_delS hp).1
        · rcases mem_setS hp with rfl | hp
          · exact hn b (by simp)
          · exact h.nam p (mem_delS hp).1
        · rw [len_set h.inc.del]
          have := len_del1 hf; have := h.cnt
          split <;> omega
        · have hu := used_set (k := b) (f := f) (h.inc.del (k := a))
          have hv := used_del (k := a) h.inc
          have hl : lenOf s.fs a = f.data.length := by unfold lenOf; rw [hf]
          have := h.use
          omega
      · exact h.oper
theorem mem_start : ∀ {fs : Files} {sc : List Int} {q : Bs × Fl}, q ∈ startF fs sc → ∃ p ∈ fs, q.1 = p.1 ∧ p.2.dur = true ∧ (q.2 = p.2 ∧ p.2.data.length - p.2.syn = 0 ∨ ∃ c, q.2 = cut p.2 c)
  | [], sc, q, h => by simp [startF] at h
  | p :: l, sc, q, h => by
    unfold startF at h
    split at h
    · rename_i hd
      split at h
      · rename_i hz
        rcases List.mem_cons.1 h with rfl | h
        · exact ⟨q, List.mem_cons_self, rfl, hd, .inl ⟨rfl, hz⟩⟩
        · obtain ⟨p', h1, h2⟩ := mem_start h; exact ⟨p', List.mem_cons_of_mem _ h1, h2⟩
      · rcases List.mem_cons.1 h with rfl | h
        · exact ⟨p, List.mem_cons_self, rfl, hd, .inr ⟨_, rfl⟩⟩
        · obtain ⟨p', h1, h2⟩ := mem_start h; exact ⟨p', List.mem_cons_of_mem _ h1, h2⟩
    · obtain ⟨p', h1, h2⟩ := mem_start h; exact ⟨p', List.mem_cons_of_mem _ h1, h2⟩
theorem Inc.start : ∀ {fs : Files} {sc : List Int}, Inc fs → Inc (startF fs sc)
  | [], _, _ => List.Pairwise.nil
  | p :: l, sc, h => by
    obtain ⟨h1, h2⟩ := List.pairwise_cons.1 h
    have hall : ∀ sc q, q ∈ startF l sc → p.1 < q.1 := fun sc q hq => by
      obtain ⟨p', h3, h4, _⟩ := mem_start hq
      rw [h4]; exact h1 p' h3
    unfold startF
    split
    · split
      · exact List.pairwise_cons.2 ⟨fun q hq => hall _ q hq, Inc.start h2⟩
      · exact List.pairwise_cons.2 ⟨fun q hq => hall _ q hq, Inc.start h2⟩
    · exact Inc.start h2
theorem cut_len (f : Fl) (c : Int) (h : f.syn ≤ f.data.length) : (cut f c).syn ≤ f.data.length ∧ (cut f c).data.length = (cut f c).syn ∧ f.syn ≤ (cut f c).syn := by
  have := (keep_spec c (f.data.length - f.syn)).2
  unfold cut
  simp only [List.length_take]
  omega
theorem used_start : ∀ {fs : Files} {sc : List Int}, (∀ p ∈ fs, p.2.syn ≤ p.2.data.length) → used (startF fs sc) ≤ used fs ∧ (startF fs sc).length ≤ fs.length
  | [], _, _ => by simp [startF]
  | p :: l, sc, h => by
    have h' : ∀ p ∈ l, p.2.syn ≤ p.2.data.length := fun q hq => h q (List.mem_cons_of_mem _ hq)
    have i1 := used_start (sc := sc) h'
    have i2 := used_start (sc := sc.tail) h'
    unfold startF
    split
    · split
      · rw [used_cons, used_cons, List.length_cons, List.length_cons]; omega
      · have := cut_len p.2 (sc.head?.getD 0) (h p List.mem_cons_self)
        rw [used_cons, used_cons, List.length_cons, List.length_cons]; simp only; omega
    · rw [used_cons, List.length_cons]; omega
theorem Good.sta {s : St} (h : Good s) (sc : List Int) : Good (staO s sc) := by
  unfold staO
  split
  · have hu := used_start (sc := sc) h.syn
    refine ⟨h.inc.start, fun q hq => ?_, fun q hq => ?_, Nat.le_trans hu.2 h.cnt, ?_, h.cap, Int.le_refl _, by show (0 : Int) ≤ _; omega⟩
    · obtain ⟨p, hp, _, _, he | ⟨c, he⟩⟩ := mem_start hq
      · rw [he.1]; exact h.syn p hp
      · rw [he]; have := cut_len p.2 c (h.syn p hp); omega
    · obtain ⟨p, hp, he, _⟩ := mem_start hq
      rw [he]; exact h.nam p hp
    · have := h.use; show (used (startF s.fs sc) : Int) ≤ s.cap; omega
  · exact h
theorem Good.lim_ {s : St} (h : Good s) {k : Int} (hk : k ≤ 9223372036854775807) : Good (limO s k) := ⟨h.inc, h.syn, h.nam, h.cnt, h.use, h.cap, by show 0 ≤ max k 0; omega, by show max k 0 ≤ _; omega⟩
theorem Good.cra {s : St} (h : Good s) : Good (craO s) := ⟨h.inc, h.syn, h.nam, h.cnt, h.use, h.cap, h.lo, h.hi⟩
end Go.DskM
