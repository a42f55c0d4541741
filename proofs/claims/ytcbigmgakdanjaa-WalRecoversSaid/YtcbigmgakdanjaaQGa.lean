/- A disk without a program: files in increasing order of their names, and what each operation does. The binary form of numbers and its reader, without a program. A log without a program: names of files, groups, what a disk holds. Contracts: names, and the methods of a disk that read it (layer 26). Contracts: the keys of a disk's map in order, Used, find, Read, Durable, List and the small methods (layer 26). Contracts: Read, Durable, List and the small methods of a disk (layer 26). Contracts: Append, Sync, Rename and Remove (layer 26). Contracts: Start (layer 26). Contracts: Equal, Clone, New of a disk (layer 26), and each operation with its result. Contracts of the encoding's reader, for numbers and counts. Contracts of the encoding's reader: Number, Count, Err, End, NewReader. Contracts of the encoding's writer, for numbers that are not negative. Contracts: the checksum, and the text of a writer and a reader. Contracts: the text of a writer and of a reader, encode. Contracts: the text of a reader, decode. Contracts: decode. Contracts: the names of a log's files. Conditions: none. -/
import Derived.Test.YtcbigmgakdanjaaSlZ
import Derived.Test.YtcbigmgakdanjaaSlO
import Derived.Test.YtcbigmgakdanjaaProg
import Derived.Test.YtcbigmgakdanjaaSlV
import Derived.Test.YtcbigmgakdanjaaSlF
import Derived.Test.YtcbigmgakdanjaaSl7
import Derived.Test.YtcbigmgakdanjaaShelf
import Derived.Test.YtcbigmgakdanjaaIter
import Derived.Test.YtcbigmgakdanjaaSlU
import Derived.Test.YtcbigmgakdanjaaClon
import Derived.Test.YtcbigmgakdanjaaSlX
import Derived.Test.YtcbigmgakdanjaaSlT
import Derived.Test.YtcbigmgakdanjaaSlA
import Derived.Test.YtcbigmgakdanjaaSlY
import Derived.Test.YtcbigmgakdanjaaSlE
namespace Go.DskM
open Go Go.SL
set_option linter.unusedVariables false
set_option linter.unusedSimpArgs false
abbrev Bs := List UInt8
theorem lt_irrefl (a : Bs) : ¬ a < a := List.lt_irrefl a
theorem lt_trans {a b c : Bs} (h1 : a < b) (h2 : b < c) : a < c := List.lt_trans h1 h2
theorem lt_asymm {a b : Bs} (h : a < b) : ¬ b < a := List.lt_asymm h
theorem lt_tri (a b : Bs) : a < b ∨ a = b ∨ b < a := by
  by_cases h1 : a < b
  · exact .inl h1
  · by_cases h2 : b < a
    · exact .inr (.inr h2)
    · exact .inr (.inl (List.le_antisymm (List.not_lt.1 h2) (List.not_lt.1 h1)))
theorem ne_of_lt {a b : Bs} (h : a < b) : a ≠ b := fun e => lt_irrefl b (e ▸ h)
structure Fl where
  data : Bs
  syn : Nat
  dur : Bool
deriving DecidableEq
abbrev Files := List (Bs × Fl)
def encF (f : Fl) : Value := .agg #[.string (str f.data), .int .i64 f.syn, .bool f.dur]
structure St where
  cap : Int
  fs : Files
  down : Bool
  lim : Bool
  left : Int
deriving DecidableEq
abbrev Inc (fs : Files) : Prop := fs.Pairwise (fun p q => p.1 < q.1)
theorem Inc.nod {fs : Files} (h : Inc fs) : (fs.map Prod.fst).Nodup := by
  rw [List.Nodup, List.pairwise_map]; exact h.imp ne_of_lt
theorem Inc.keys {fs : Files} (h : Inc fs) : (fs.map Prod.fst).Pairwise (· < ·) := by rw [List.pairwise_map]; exact h
def find (fs : Files) (k : Bs) : Option Fl := lookK KL fs k
def setS : Files → Bs → Fl → Files
  | [], k, f => [(k, f)]
  | p :: l, k, f => if k < p.1 then (k, f) :: p :: l else if k = p.1 then (k, f) :: l else p :: setS l k f
def delS (fs : Files) (k : Bs) : Files := fs.filter fun p => decide (p.1 ≠ k)
theorem mem_setS {k : Bs} {f : Fl} : ∀ {fs : Files} {q : Bs × Fl}, q ∈ setS fs k f → q = (k, f) ∨ q ∈ fs
  | [], q, h => by simp [setS] at h; exact .inl h
  | p :: l, q, h => by
    unfold setS at h
    split at h
    · rcases List.mem_cons.1 h with h | h
      · exact .inl h
      · exact .inr h
    · split at h
      · rcases List.mem_cons.1 h with h | h
        · exact .inl h
        · exact .inr (List.mem_cons_of_mem _ h)
      · rcases List.mem_cons.1 h with h | h
        · exact .inr (h ▸ List.mem_cons_self)
        · rcases mem_setS h with h | h
          · exact .inl h
          · exact .inr (List.mem_cons_of_mem _ h)
theorem Inc.set {k : Bs} {f : Fl} : ∀ {fs : Files}, Inc fs → Inc (setS fs k f)
  | [], h => List.pairwise_singleton _ _
  | p :: l, h => by
    obtain ⟨h1, h2⟩ := List.pairwise_cons.1 h
    unfold setS
    split
    · rename_i hk
      refine List.pairwise_cons.2 ⟨fun q hq => ?_, h⟩
      rcases List.mem_cons.1 hq with rfl | hq
      · exact hk
      · exact lt_trans hk (h1 q hq)
    · split
      · rename_i hk
        subst hk
        exact List.pairwise_cons.2 ⟨h1, h2⟩
      · rename_i hk1 hk2
        refine List.pairwise_cons.2 ⟨fun q hq => ?_, Inc.set h2⟩
        rcases mem_setS hq with rfl | hq
        · rcases lt_tri k p.1 with h3 | h3 | h3
          · exact absurd h3 hk1
          · exact absurd h3 hk2
          · exact h3
        · exact h1 q hq
theorem Inc.del {k : Bs} {fs : Files} (h : Inc fs) : Inc (delS fs k) := List.Pairwise.filter _ h
theorem find_nil (k : Bs) : find [] k = none := rfl
theorem find_cons (p : Bs × Fl) (l : Files) (k : Bs) : find (p :: l) k = if k = p.1 then some p.2 else find l k := by
  show (bif decide (k = p.1) then _ else _) = _
  by_cases h : k = p.1 <;> simp [h, find]
theorem find_mem {fs : Files} {k : Bs} {f : Fl} (h : find fs k = some f) : (k, f) ∈ fs := look_of h
theorem find_of {fs : Files} (h : Inc fs) {p : Bs × Fl} (hp : p ∈ fs) : find fs p.1 = some p.2 := look_get h.nod hp
theorem find_none {fs : Files} {k : Bs} (h : ∀ p ∈ fs, p.1 ≠ k) : find fs k = none := by
  cases hf : find fs k with
  | none => rfl
  | some f => exact absurd rfl (h _ (find_mem hf))
theorem find_set {k k' : Bs} {f : Fl} : ∀ {fs : Files}, Inc fs → find (setS fs k f) k' = if k' = k then some f else find fs k'
  | [], _ => by unfold setS; rw [find_cons, find_nil]
  | p :: l, h => by
    obtain ⟨h1, h2⟩ := List.pairwise_cons.1 h
    unfold setS
    split
    · rw [find_cons]
    · split
      · rename_i hk
        subst hk
        rw [find_cons, find_cons]
        by_cases hk : k' = p.1 <;> simp [hk]
      · rename_i hk1 hk2
        rw [find_cons, find_cons, find_set h2]
        by_cases hk : k' = p.1
        · have : k' ≠ k := fun e => hk2 (e ▸ hk)
          simp [hk]
          intro e; exact absurd e.symm hk2
        · simp [hk]
theorem find_del {k k' : Bs} : ∀ {fs : Files}, find (delS fs k) k' = if k' = k then none else find fs k'
  | [] => by simp [delS, find_nil]
  | p :: l => by
    have ih := find_del (k := k) (k' := k') (fs := l)
    unfold delS at ih ⊢
    rw [List.filter_cons]
    by_cases hp : p.1 = k
    · simp only [hp, ne_eq, not_true_eq_false, decide_false, Bool.false_eq_true, if_false]
      rw [ih, find_cons]
      by_cases hk : k' = k
      · simp [hk]
      · simp [hk, hp]
    · simp only [ne_eq, hp, not_false_eq_true, decide_true, if_true]
      rw [find_cons, ih, find_cons]
      by_cases hk : k' = p.1
      · simp [hk, hp]
      · simp [hk]
theorem Inc.ext : ∀ {a b : Files}, Inc a → Inc b → (∀ k, find a k = find b k) → a = b
  | [], [], _, _, _ => rfl
  | [], y :: b, _, _, h => by have := h y.1; rw [find_nil, find_cons] at this; simp at this
  | x :: a, [], _, _, h => by have := h x.1; rw [find_nil, find_cons] at this; simp at this
  | x :: a, y :: b, ha, hb, h => by
    obtain ⟨ha1, ha2⟩ := List.pairwise_cons.1 ha
    obtain ⟨hb1, hb2⟩ := List.pairwise_cons.1 hb
    have hx : find (y :: b) x.1 = some x.2 := by rw [← h, find_cons]; simp
    have hy : find (x :: a) y.1 = some y.2 := by rw [h, find_cons]; simp
    have hxy : x.1 = y.1 := by
      rcases lt_tri x.1 y.1 with h1 | h1 | h1
      · rcases List.mem_cons.1 (find_mem hx) with h2 | h2
        · rw [← h2]
        · exact absurd (lt_trans h1 (hb1 _ h2)) (lt_irrefl _)
      · exact h1
      · rcases List.mem_cons.1 (find_mem hy) with h2 | h2
        · rw [← h2]
        · exact absurd (lt_trans h1 (ha1 _ h2)) (lt_irrefl _)
    have hv : x.2 = y.2 := by rw [find_cons, if_pos hxy] at hx; simpa using hx.symm
    have he : x = y := Prod.ext hxy hv
    subst he
    refine congrArg (x :: ·) (Inc.ext ha2 hb2 fun k => ?_)
    by_cases hk : k = x.1
    · subst hk
      rw [find_none fun p hp => (ne_of_lt (ha1 p hp)).symm, find_none fun p hp => (ne_of_lt (hb1 p hp)).symm]
    · have := h k; rw [find_cons, find_cons, if_neg hk, if_neg hk] at this; exact this
theorem mem_look {l : Files} (h : (l.map Prod.fst).Nodup) {p : Bs × Fl} : p ∈ l ↔ lookK KL l p.1 = some p.2 := ⟨look_get h, fun h => look_of h⟩
theorem nodup_of_keys {l : Files} (h : (l.map Prod.fst).Nodup) : l.Nodup := by
  rw [List.Nodup, List.pairwise_map] at h
  exact h.imp fun hne e => hne (congrArg Prod.fst e)
theorem perm_of_look {l fs : Files} (h : (l.map Prod.fst).Nodup) (h' : (fs.map Prod.fst).Nodup) (he : ∀ k, lookK KL l k = lookK KL fs k) : l.Perm fs :=
  (List.perm_ext_iff_of_nodup (nodup_of_keys h) (nodup_of_keys h')).2 fun p => by rw [mem_look h, mem_look h', he]
theorem look_perm {l fs : Files} (hp : l.Perm fs) (h : (l.map Prod.fst).Nodup) (k : Bs) : lookK KL l k = find fs k := by
  have h' : (fs.map Prod.fst).Nodup := (hp.map Prod.fst).nodup_iff.1 h
  show _ = lookK KL fs k
  cases hq : lookK KL l k with
  | some v => exact (look_get h' (hp.mem_iff.1 (look_of hq))).symm
  | none =>
    cases hq' : lookK KL fs k with
    | none => rfl
    | some v => rw [look_get h (hp.mem_iff.2 (look_of hq'))] at hq; simp at hq
theorem nod_setK {l : Files} {k : Bs} {f : Fl} (h : (l.map Prod.fst).Nodup) : ((setK KL l k f).map Prod.fst).Nodup := by
  have hw : WfM l (List.range l.length) l.length := ⟨by simp, h, List.nodup_range, by simp⟩
  cases hq : posK KL l k 0 with
  | none =>
    obtain ⟨h2, h3, _⟩ := posK_none hq
    rw [h3]; exact (hw.push h2).nod
  | some q =>
    obtain ⟨i, v0⟩ := q
    obtain ⟨_, _, h3, h4, _⟩ := posK_set (v := f) hq
    rw [h4]; exact (hw.set h3).nod
theorem nod_delK {l : Files} {k : Bs} (h : (l.map Prod.fst).Nodup) : ((delK KL l k).map Prod.fst).Nodup := by
  have hw : WfM l (List.range l.length) l.length := ⟨by simp, h, List.nodup_range, by simp⟩
  cases hq : posK KL l k 0 with
  | none => rw [(posK_none hq).2.2]; exact h
  | some q =>
    obtain ⟨i, v0⟩ := q
    obtain ⟨_, _, _, _, h5⟩ := posK_set (v := v0) hq
    rw [h5]; exact hw.erase.nod
theorem set_perm {l fs : Files} (hp : l.Perm fs) (hi : Inc fs) (k : Bs) (f : Fl) : (setK KL l k f).Perm (setS fs k f) := by
  have hn : (l.map Prod.fst).Nodup := (hp.map Prod.fst).nodup_iff.2 hi.nod
  refine perm_of_look (nod_setK hn) hi.set.nod fun k' => ?_
  have := find_set (k := k) (k' := k') (f := f) hi
  unfold find at this
  rw [look_set, this]
  have h2 := look_perm hp hn k'
  unfold find at h2
  show (bif decide (k' = k) then _ else _) = _
  by_cases h : k' = k <;> simp [h, h2]
theorem del_perm {l fs : Files} (hp : l.Perm fs) (hi : Inc fs) (k : Bs) : (delK KL l k).Perm (delS fs k) := by
  have hn : (l.map Prod.fst).Nodup := (hp.map Prod.fst).nodup_iff.2 hi.nod
  refine perm_of_look (nod_delK hn) hi.del.nod fun k' => ?_
  have := find_del (k := k) (k' := k') (fs := fs)
  unfold find at this
  rw [look_del hn, this]
  have h2 := look_perm hp hn k'
  unfold find at h2
  show (bif decide (k' = k) then _ else _) = _
  by_cases h : k' = k <;> simp [h, h2]
def used (fs : Files) : Nat := (fs.map fun p => p.2.data.length).sum
theorem used_perm {l fs : Files} (h : l.Perm fs) : used l = used fs := (h.map _).sum_nat
def nameB (s : Bs) : Bool := decide (s ≠ []) && decide (s.length ≤ 64) && s.all fun b => decide (33 ≤ b.toNat ∧ b.toNat ≤ 126)
structure Good (s : St) : Prop where
  inc : Inc s.fs
  syn : ∀ p ∈ s.fs, p.2.syn ≤ p.2.data.length
  nam : ∀ p ∈ s.fs, nameB p.1 = true
  cnt : s.fs.length ≤ 256
  use : (used s.fs : Int) ≤ s.cap
  cap : s.cap ≤ 67108864
  lo : 0 ≤ s.left
  hi : s.left ≤ 9223372036854775807
def lenOf (fs : Files) (k : Bs) : Nat := match find fs k with | some f => f.data.length | none => 0
theorem used_cons (p : Bs × Fl) (l : Files) : used (p :: l) = p.2.data.length + used l := by simp [used]
theorem lenOf_cons (p : Bs × Fl) (l : Files) (k : Bs) : lenOf (p :: l) k = if k = p.1 then p.2.data.length else lenOf l k := by
  unfold lenOf; rw [find_cons]; by_cases h : k = p.1 <;> simp [h]
theorem lenOf_gone {k : Bs} {fs : Files} (h : ∀ p ∈ fs, k < p.1) : lenOf fs k = 0 := by
  unfold lenOf; rw [find_none fun p hp => (ne_of_lt (h p hp)).symm]
theorem used_set {k : Bs} {f : Fl} : ∀ {fs : Files}, Inc fs → used (setS fs k f) + lenOf fs k = used fs + f.data.length
  | [], _ => by simp [setS, used, lenOf, find_nil]
  | p :: l, h => by
    obtain ⟨h1, h2⟩ := List.pairwise_cons.1 h
    have ih := used_set (k := k) (f := f) h2
    unfold setS
    rw [lenOf_cons]
    split
    · rename_i hk
      rw [if_neg (ne_of_lt hk), lenOf_gone fun q hq => lt_trans hk (h1 q hq), used_cons]; simp; omega
    · split
      · rw [used_cons, used_cons]; simp only; omega
      · rw [used_cons, used_cons]; omega
theorem used_del {k : Bs} : ∀ {fs : Files}, Inc fs → used (delS fs k) + lenOf fs k = used fs
  | [], _ => by simp [delS, used, lenOf, find_nil]
  | p :: l, h => by
    obtain ⟨h1, h2⟩ := List.pairwise_cons.1 h
    have ih := used_del (k := k) h2
    rw [lenOf_cons, used_cons]
    unfold delS at ih ⊢
    rw [List.filter_cons]
    by_cases hp : p.1 = k
    · subst hp
      have h3 := lenOf_gone (k := p.1) h1
      simp only [ne_eq, not_true_eq_false, decide_false, Bool.false_eq_true, if_false, if_true]
      rw [h3] at ih
      simp only [ne_eq] at ih
      omega
    · have hp' : ¬ k = p.1 := fun e => hp e.symm
      simp only [ne_eq, hp, not_false_eq_true, decide_true, if_true, hp', if_false]
      rw [used_cons]
      simp only [ne_eq] at ih
      omega
theorem len_set {k : Bs} {f : Fl} : ∀ {fs : Files}, Inc fs → (setS fs k f).length = fs.length + (if find fs k = none then 1 else 0)
  | [], _ => by simp [setS, find_nil]
  | p :: l, h => by
    obtain ⟨h1, h2⟩ := List.pairwise_cons.1 h
    have ih := len_set (k := k) (f := f) h2
    unfold setS
    rw [find_cons]
    split
    · rename_i hk
      rw [if_neg (ne_of_lt hk), find_none fun q hq => (ne_of_lt (lt_trans hk (h1 q hq))).symm]; simp
    · split
      · rename_i hk; simp
      · rename_i hk; simp only [hk, if_false, List.length_cons]; omega
theorem len_del {k : Bs} {fs : Files} : (delS fs k).length ≤ fs.length := List.length_filter_le _ _
theorem mem_delS {fs : Files} {k : Bs} {q : Bs × Fl} (h : q ∈ delS fs k) : q ∈ fs ∧ q.1 ≠ k := by
  have := List.mem_filter.1 h; exact ⟨this.1, by simpa using this.2⟩
def readyE (s : St) (ns : List Bs) : Int := if s.down = true then 27 else if ns.all nameB = true then 0 else 11
def oper (s : St) : Bool × St := if s.lim = true then (if s.left ≤ 0 then (false, { s with down := true }) else (true, { s with left := s.left - 1 })) else (true, s)
def zeroF : Fl := ⟨[], 0, false⟩
def grown (s : St) (n d : Bs) : St := { s with fs := setS s.fs n { (find s.fs n).getD zeroF with data := ((find s.fs n).getD zeroF).data ++ d } }
def appO (s : St) (n d : Bs) : Int × St :=
  if readyE s [n] ≠ 0 then (readyE s [n], s)
  else if find s.fs n = none ∧ 256 ≤ s.fs.length then (6, s)
  else if s.cap < used s.fs + d.length then (28, s)
  else if (oper (grown s n d)).1 = true then (0, (oper (grown s n d)).2) else (27, (oper (grown s n d)).2)
def synO (s : St) (n : Bs) : Int × St :=
  if readyE s [n] ≠ 0 then (readyE s [n], s)
  else match find s.fs n with
    | none => (10, s)
    | some f => if (oper s).1 = true then (0, { (oper s).2 with fs := setS s.fs n ⟨f.data, f.data.length, true⟩ }) else (27, (oper s).2)
def remO (s : St) (n : Bs) : Int × St :=
  if readyE s [n] ≠ 0 then (readyE s [n], s)
  else match find s.fs n with
    | none => (10, s)
    | some f => if (oper s).1 = true then (0, { (oper s).2 with fs := delS s.fs n }) else (27, (oper s).2)
def readO (s : St) (n : Bs) (dur : Bool) : Bs × Int :=
  if readyE s [n] ≠ 0 then ([], readyE s [n])
  else match find s.fs n with
    | none => ([], 10)
    | some f => (if dur = true then f.data.take f.syn else f.data, 0)
def keep (c : Int) (k : Nat) : Nat := (if c.tmod (k + 1) < 0 then c.tmod (k + 1) + (k + 1) else c.tmod (k + 1)).toNat
theorem keep_spec (c : Int) (k : Nat) : ((keep c k : Nat) : Int) = (if c.tmod (k + 1) < 0 then c.tmod (k + 1) + (k + 1) else c.tmod (k + 1)) ∧ keep c k ≤ k := by
  have h2 := Int.tmod_lt_of_pos c (b := (k : Int) + 1) (by omega)
  have h1 : -((k : Int) + 1) < c.tmod (k + 1) := by
    have := Int.lt_tmod_of_pos c (b := (k : Int) + 1) (by omega)
    omega
  unfold keep
  split <;> omega
def cut (f : Fl) (c : Int) : Fl := { f with data := f.data.take (f.syn + keep c (f.data.length - f.syn)), syn := f.syn + keep c (f.data.length - f.syn) }
def startF : Files → List Int → Files
  | [], _ => []
  | p :: l, sc => if p.2.dur = true then (if p.2.data.length - p.2.syn = 0 then p :: startF l sc else (p.1, cut p.2 (sc.head?.getD 0)) :: startF l sc.tail) else startF l sc
def staO (s : St) (sc : List Int) : St := if s.down = true then { s with fs := startF s.fs sc, down := false, lim := false, left := 0 } else s
def limO (s : St) (k : Int) : St := { s with lim := true, left := max k 0 }
def craO (s : St) : St := { s with down := true }
theorem oper_fs (s : St) : (oper s).2.fs = s.fs ∧ (oper s).2.cap = s.cap := by unfold oper; split <;> (try split) <;> exact ⟨rfl, rfl⟩
theorem Good.oper {s : St} (h : Good s) : Good (oper s).2 := by
  unfold DskM.oper
  split
  · split
    · exact ⟨h.inc, h.syn, h.nam, h.cnt, h.use, h.cap, h.lo, h.hi⟩
    · have := h.lo; have := h.hi
      exact ⟨h.inc, h.syn, h.nam, h.cnt, h.use, h.cap, by show 0 ≤ s.left - 1; omega, by show s.left - 1 ≤ _; omega⟩
  · exact h
theorem Good.fs {s : St} (h : Good s) {fs : Files} (h1 : Inc fs) (h2 : ∀ p ∈ fs, p.2.syn ≤ p.2.data.length) (h3 : ∀ p ∈ fs, nameB p.1 = true) (h4 : fs.length ≤ 256) (h5 : (used fs : Int) ≤ s.cap) : Good { s with fs := fs } := ⟨h1, h2, h3, h4, h5, h.cap, h.lo, h.hi⟩
theorem ready0 {s : St} {ns : List Bs} (h : ¬ readyE s ns ≠ 0) : s.down = false ∧ ∀ n ∈ ns, nameB n = true := by
  unfold readyE at h
  split at h
  · simp at h
  · split at h
    · rename_i h1 h2
      exact ⟨by simpa using h1, by simpa using h2⟩
    · simp at h
theorem Good.grown {s : St} (h : Good s) {n d : Bs} (h1 : nameB n = true) (h2 : ¬ (find s.fs n = none ∧ 256 ≤ s.fs.length)) (h3 : ¬ s.cap < used s.fs + d.length) : Good (grown s n d) := by
  have hu := used_set (k := n) (f := { (find s.fs n).getD zeroF with data := ((find s.fs n).getD zeroF).data ++ d }) h.inc
  have hl := len_set (k := n) (f := { (find s.fs n).getD zeroF with data := ((find s.fs n).getD zeroF).data ++ d }) h.inc
  refine h.fs h.inc.set (fun p hp => ?_) (fun p hp => ?_) ?_ ?_
  · rcases mem_setS hp with rfl | hp
    · simp only [List.length_append]
      cases hf : find s.fs n with
      | none => simp [zeroF]
      | some f => have := h.syn _ (find_mem hf); simp only [Option.getD_some] at this ⊢; omega
    · exact h.syn p hp
  · rcases mem_setS hp with rfl | hp
    · exact h1
    · exact h.nam p hp
  · rw [hl]
    have := h.cnt
    split
    · rename_i hn; have : ¬ 256 ≤ s.fs.length := fun e => h2 ⟨hn, e⟩; omega
    · omega
  · have he : (((find s.fs n).getD zeroF).data ++ d).length = lenOf s.fs n + d.length := by
      rw [List.length_append]; unfold lenOf
      cases find s.fs n <;> simp [zeroF]
    rw [he] at hu
    show (used (setS s.fs n { (find s.fs n).getD zeroF with data := ((find s.fs n).getD zeroF).data ++ d }) : Int) ≤ s.cap
    omega
theorem Good.app {s : St} (h : Good s) (n d : Bs) : Good (appO s n d).2 := by
  unfold appO
  split
  · exact h
  · rename_i hr
    obtain ⟨hd, hn⟩ := ready0 hr
    split
    · exact h
    · rename_i h2
      split
      · exact h
      · rename_i h3
        have hg := (h.grown (hn n (by simp)) h2 h3).oper
        split <;> exact hg
theorem Good.op {s : St} (h : Good s) {fs : Files} (h1 : Inc fs) (h2 : ∀ p ∈ fs, p.2.syn ≤ p.2.data.length) (h3 : ∀ p ∈ fs, nameB p.1 = true) (h4 : fs.length ≤ 256) (h5 : (used fs : Int) ≤ s.cap) : Good { (DskM.oper s).2 with fs := fs } :=
  Good.fs h.oper h1 h2 h3 h4 (by rw [(oper_fs s).2]; exact h5)
theorem Good.syn_ {s : St} (h : Good s) (n : Bs) : Good (synO s n).2 := by
  unfold synO
  split
  · exact h
  · cases hf : find s.fs n with
    | none => exact h
    | some f =>
      simp only
      split
      · refine h.op h.inc.set (fun p hp => ?_) (fun p hp => ?_) ?_ ?_
        · rcases mem_setS hp with rfl | hp
          · exact Nat.le_refl _
          · exact h.syn p hp
        · rcases mem_setS hp with rfl | hp
          · exact h.nam (n, f) (find_mem hf)
          · exact h.nam p hp
        · rw [len_set h.inc, hf]; have := h.cnt; simp; exact this
        · have hu := used_set (k := n) (f := ⟨f.data, f.data.length, true⟩) h.inc
          have hl : lenOf s.fs n = f.data.length := by unfold lenOf; rw [hf]
          have := h.use
          simp only [hl] at hu; omega
      · exact h.oper
theorem Good.rem {s : St} (h : Good s) (n : Bs) : Good (remO s n).2 := by
  unfold remO
  split
  · exact h
  · cases hf : find s.fs n with
    | none => exact h
    | some f =>
      simp only
      split
      · refine h.op h.inc.del (fun p hp => h.syn p (mem_delS hp).1) (fun p hp => h.nam p (mem_delS hp).1) ?_ ?_
        · have := len_del (k := n) (fs := s.fs); have := h.cnt; omega
        · have hu := used_del (k := n) h.inc
          have := h.use
          omega
      · exact h.oper
theorem mem_start : ∀ {fs : Files} {sc : List Int} {q : Bs × Fl}, q ∈ startF fs sc → ∃ p ∈ fs, q.1 = p.1 ∧ p.2.dur = true ∧ (q.2 = p.2 ∧ p.2.data.length - p.2.syn = 0 ∨ ∃ c, q.2 = cut p.2 c)
  | [], sc, q, h => by simp [startF] at h
  | p :: l, sc, q, h => by
    unfold startF at h
    split at h
    · rename_i hd
      split at h
      · rename_i hz
        rcases List.mem_cons.1 h with rfl | h
        · exact ⟨q, List.mem_cons_self, rfl, hd, .inl ⟨rfl, hz⟩⟩
        · obtain ⟨p', h1, h2⟩ := mem_start h; exact ⟨p', List.mem_cons_of_mem _ h1, h2⟩
      · rcases List.mem_cons.1 h with rfl | h
        · exact ⟨p, List.mem_cons_self, rfl, hd, .inr ⟨_, rfl⟩⟩
        · obtain ⟨p', h1, h2⟩ := mem_start h; exact ⟨p', List.mem_cons_of_mem _ h1, h2⟩
    · obtain ⟨p', h1, h2⟩ := mem_start h; exact ⟨p', List.mem_cons_of_mem _ h1, h2⟩
theorem Inc.start : ∀ {fs : Files} {sc : List Int}, Inc fs → Inc (startF fs sc)
  | [], _, _ => List.Pairwise.nil
  | p :: l, sc, h => by
    obtain ⟨h1, h2⟩ := List.pairwise_cons.1 h
    have hall : ∀ sc q, q ∈ startF l sc → p.1 < q.1 := fun sc q hq => by
      obtain ⟨p', h3, h4, _⟩ := mem_start hq
      rw [h4]; exact h1 p' h3
    unfold startF
    split
    · split
      · exact List.pairwise_cons.2 ⟨fun q hq => hall _ q hq, Inc.start h2⟩
      · exact List.pairwise_cons.2 ⟨fun q hq => hall _ q hq, Inc.start h2⟩
    · exact Inc.start h2
theorem cut_len (f : Fl) (c : Int) (h : f.syn ≤ f.data.length) : (cut f c).syn ≤ f.data.length ∧ (cut f c).data.length = (cut f c).syn ∧ f.syn ≤ (cut f c).syn := by
  have := (keep_spec c (f.data.length - f.syn)).2
  unfold cut
  simp only [List.length_take]
  omega
theorem used_start : ∀ {fs : Files} {sc : List Int}, (∀ p ∈ fs, p.2.syn ≤ p.2.data.length) → used (startF fs sc) ≤ used fs ∧ (startF fs sc).length ≤ fs.length
  | [], _, _ => by simp [startF]
  | p :: l, sc, h => by
    have h' : ∀ p ∈ l, p.2.syn ≤ p.2.data.length := fun q hq => h q (List.mem_cons_of_mem _ hq)
    have i1 := used_start (sc := sc) h'
    have i2 := used_start (sc := sc.tail) h'
    unfold startF
    split
    · split
      · rw [used_cons, used_cons, List.length_cons, List.length_cons]; omega
      · have := cut_len p.2 (sc.head?.getD 0) (h p List.mem_cons_self)
        rw [used_cons, used_cons, List.length_cons, List.length_cons]; simp only; omega
    · rw [used_cons, List.length_cons]; omega
theorem Good.sta {s : St} (h : Good s) (sc : List Int) : Good (staO s sc) := by
  unfold staO
  split
  · have hu := used_start (sc := sc) h.syn
    refine ⟨h.inc.start, fun q hq => ?_, fun q hq => ?_, Nat.le_trans hu.2 h.cnt, ?_, h.cap, Int.le_refl _, by show (0 : Int) ≤ _; omega⟩
    · obtain ⟨p, hp, _, _, he | ⟨c, he⟩⟩ := mem_start hq
      · rw [he.1]; exact h.syn p hp
      · rw [he]; have := cut_len p.2 c (h.syn p hp); omega
    · obtain ⟨p, hp, he, _⟩ := mem_start hq
      rw [he]; exact h.nam p hp
    · have := h.use; show (used (startF s.fs sc) : Int) ≤ s.cap; omega
  · exact h
end Go.DskM
namespace Go.RdM
set_option linter.unusedVariables false
set_option linter.unusedSimpArgs false
abbrev Bs := List UInt8
def be (x : Nat) : Bs := if h : x = 0 then [] else be (x / 256) ++ [UInt8.ofNat x]
termination_by x
decreasing_by omega
theorem be_zero : be 0 = [] := by rw [be, dif_pos rfl]
theorem be_pos {x : Nat} (h : 0 < x) : be x = be (x / 256) ++ [UInt8.ofNat x] := by rw [be, dif_neg (by omega)]
theorem len_be : ∀ (k x : Nat), x < 256 ^ k → (be x).length ≤ k
  | 0, x, h => by
    have : x = 0 := by simpa using h
    subst this; rw [be_zero]; simp
  | k + 1, x, h => by
    rcases Nat.eq_zero_or_pos x with h0 | h0
    · subst h0; rw [be_zero]; simp
    · rw [be_pos h0]
      have := len_be k (x / 256) (by rw [Nat.pow_succ] at h; omega)
      simp; omega
theorem snoc_ind {α : Type} {P : List α → Prop} (h0 : P []) (h1 : ∀ l b, P l → P (l ++ [b])) (l : List α) : P l := by
  have h : ∀ l : List α, P l.reverse := fun l => by
    induction l with
    | nil => exact h0
    | cons b l ih => rw [List.reverse_cons]; exact h1 _ _ ih
  have := h l.reverse
  rwa [List.reverse_reverse] at this
def val (l : List Nat) : Nat := l.foldl (fun m b => m * 256 + b) 0
theorem val_nil : val [] = 0 := rfl
theorem val_snoc (l : List Nat) (b : Nat) : val (l ++ [b]) = val l * 256 + b := by unfold val; rw [List.foldl_append]; rfl
theorem val_lt : ∀ {l : List Nat}, (∀ b ∈ l, b < 256) → val l < 256 ^ l.length := by
  intro l
  refine snoc_ind (P := fun l => (∀ b ∈ l, b < 256) → val l < 256 ^ l.length) (fun _ => by simp [val_nil]) (fun l b ih => ?_) l
  · intro h
    rw [val_snoc, List.length_append, List.length_singleton, Nat.pow_succ]
    have h1 := ih fun c hc => h c (by simp [hc])
    have h2 := h b (by simp)
    omega
theorem val_be (x : Nat) : val ((be x).map UInt8.toNat) = x := by
  induction x using Nat.strongRecOn with
  | _ x ih =>
    rcases Nat.eq_zero_or_pos x with h0 | h0
    · subst h0; rw [be_zero]; rfl
    · rw [be_pos h0, List.map_append, List.map_singleton, val_snoc, ih (x / 256) (by omega)]
      have : (UInt8.ofNat x).toNat = x % 256 := by simp
      rw [this]; omega
theorem be_head {x : Nat} : ∀ b, (be x).head? = some b → b ≠ 0 := by
  induction x using Nat.strongRecOn with
  | _ x ih =>
    intro b hb
    rcases Nat.eq_zero_or_pos x with h0 | h0
    · subst h0; rw [be_zero] at hb; simp at hb
    · rw [be_pos h0] at hb
      rcases Nat.eq_zero_or_pos (x / 256) with h1 | h1
      · rw [h1, be_zero] at hb
        simp at hb; subst hb
        intro h2
        have := congrArg UInt8.toNat h2
        simp at this; omega
      · rw [be_pos h1] at hb
        have hx := ih (x / 256) (by omega) b (by rw [be_pos h1]; simpa using hb)
        exact hx
theorem val_pos {l : List Nat} (h : l.head? ≠ some 0) (hl : l ≠ []) : 0 < val l := by
  revert h hl
  refine snoc_ind (P := fun l : List Nat => l.head? ≠ some 0 → l ≠ [] → 0 < val l) (fun _ hl => absurd rfl hl) (fun l b ih => ?_) l
  · intro h hl
    rw [val_snoc]
    cases l with
    | nil => simp at h; simp [val_nil]; omega
    | cons c l =>
      have := ih (by simpa using h) (by simp)
      omega
def encN (x : Int) : Bs := UInt8.ofNat (128 + (be x.toNat).length) :: be x.toNat
theorem len_encN (x : Int) : (encN x).length = (be x.toNat).length + 1 := by unfold encN; simp
theorem encN_le {x : Int} (h : x ≤ 9223372036854775807) : (encN x).length ≤ 9 := by
  rw [len_encN]; have := len_be 8 x.toNat (by omega); omega
def flp (neg : Bool) (b : UInt8) : Nat := if neg = true then 255 - b.toNat else b.toNat
theorem flp_lt (neg : Bool) (b : UInt8) : flp neg b < 256 := by unfold flp; have := b.toNat_lt; split <;> omega
def szB (b : Nat) : Nat := if b < 128 then 128 - b else b - 128
def raw (s : Bs) (at_ k : Nat) (neg : Bool) : List Nat := ((s.drop (at_ + 1)).take k).map (flp neg)
theorem len_raw {s : Bs} {at_ k : Nat} {neg : Bool} (h : k ≤ s.length - (at_ + 1)) : (raw s at_ k neg).length = k := by unfold raw; simp; omega
theorem raw_zero (s : Bs) (at_ : Nat) (neg : Bool) : raw s at_ 0 neg = [] := by unfold raw; simp
theorem raw_succ {s : Bs} {at_ k : Nat} {neg : Bool} {b : UInt8} (h : s[at_ + 1 + k]? = some b) : raw s at_ (k + 1) neg = raw s at_ k neg ++ [flp neg b] := by
  unfold raw
  rw [List.take_add_one, List.getElem?_drop, h]; simp
theorem raw_lt (s : Bs) (at_ k : Nat) (neg : Bool) : ∀ b ∈ raw s at_ k neg, b < 256 := by
  intro b hb
  unfold raw at hb
  obtain ⟨c, _, rfl⟩ := List.mem_map.1 hb
  exact flp_lt neg c
def num (s : Bs) (at_ : Nat) : Int × Nat × Int :=
  match s[at_]? with
  | none => (0, 0, 4)
  | some b =>
    let k := szB b.toNat
    let neg := decide (b.toNat < 128)
    if 8 < k then (0, 0, 3)
    else if s.length - (at_ + 1) < k then (0, 0, 4)
    else if (raw s at_ k neg).head? = some 0 then (0, 0, 3)
    else if 9223372036854775807 + (if neg = true then 1 else 0) < val (raw s at_ k neg) then (0, 0, 3)
    else (if neg = true then -(val (raw s at_ k neg) : Int) else val (raw s at_ k neg), at_ + 1 + k, 0)
theorem num_none {s : Bs} {at_ : Nat} (h : s.length ≤ at_) : num s at_ = (0, 0, 4) := by unfold num; rw [List.getElem?_eq_none h]
theorem num_some {s : Bs} {at_ : Nat} {b : UInt8} (h : s[at_]? = some b) : num s at_ =
    if 8 < szB b.toNat then (0, 0, 3)
    else if s.length - (at_ + 1) < szB b.toNat then (0, 0, 4)
    else if (raw s at_ (szB b.toNat) (decide (b.toNat < 128))).head? = some 0 then (0, 0, 3)
    else if 9223372036854775807 + (if decide (b.toNat < 128) = true then 1 else 0) < val (raw s at_ (szB b.toNat) (decide (b.toNat < 128))) then (0, 0, 3)
    else (if decide (b.toNat < 128) = true then -(val (raw s at_ (szB b.toNat) (decide (b.toNat < 128))) : Int) else val (raw s at_ (szB b.toNat) (decide (b.toNat < 128))), at_ + 1 + szB b.toNat, 0) := by unfold num; rw [h]
theorem num_bd (s : Bs) (at_ : Nat) : (num s at_).2.1 ≤ s.length ∧ -9223372036854775808 ≤ (num s at_).1 ∧ (num s at_).1 ≤ 9223372036854775807 ∧ ((num s at_).2.2 = 0 ∧ at_ < (num s at_).2.1 ∨ (num s at_).2.2 = 3 ∨ (num s at_).2.2 = 4) ∧ ((num s at_).2.2 ≠ 0 → num s at_ = (0, 0, (num s at_).2.2)) := by
  cases hb : s[at_]? with
  | none => rw [num_none (List.getElem?_eq_none_iff.1 hb)]; simp
  | some b =>
    have hlt := (List.getElem?_eq_some_iff.1 hb).1
    rw [num_some hb]
    obtain ⟨neg, hneg⟩ : ∃ neg, neg = decide (b.toNat < 128) := ⟨_, rfl⟩
    rw [← hneg]
    by_cases h1 : 8 < szB b.toNat
    · rw [if_pos h1]; simp
    · rw [if_neg h1]
      by_cases h2 : s.length - (at_ + 1) < szB b.toNat
      · rw [if_pos h2]; simp
      · rw [if_neg h2]
        by_cases h3 : (raw s at_ (szB b.toNat) neg).head? = some 0
        · rw [if_pos h3]; simp
        · rw [if_neg h3]
          by_cases h4 : 9223372036854775807 + (if neg = true then 1 else 0) < val (raw s at_ (szB b.toNat) neg)
          · rw [if_pos h4]; simp
          · rw [if_neg h4]
            refine ⟨by show at_ + 1 + _ ≤ _; omega, ?_, ?_, .inl ⟨rfl, by show at_ < at_ + 1 + _; omega⟩, fun h => absurd rfl h⟩
            · cases neg with
              | true => (simp at h4 ⊢) <;> omega
              | false => (simp at h4 ⊢) <;> omega
            · cases neg with
              | true => (simp at h4 ⊢) <;> omega
              | false => (simp at h4 ⊢) <;> omega
theorem size_first {x : Nat} (h : x ≤ 8) : (UInt8.ofNat (128 + x)).toNat = 128 + x := by simp; omega
theorem flp_false : ∀ l : Bs, l.map (flp false) = l.map UInt8.toNat := fun l => List.map_congr_left fun b _ => by unfold flp; simp
theorem num_enc {p q : Bs} {x : Int} (h : 0 ≤ x ∧ x ≤ 9223372036854775807) : num (p ++ encN x ++ q) p.length = (x, p.length + (encN x).length, 0) := by
  have hk := len_be 8 x.toNat (by omega)
  obtain ⟨k, hkk⟩ : ∃ k, k = (be x.toNat).length := ⟨_, rfl⟩
  rw [← hkk] at hk
  have hb : (p ++ encN x ++ q)[p.length]? = some (UInt8.ofNat (128 + k)) := by
    rw [List.append_assoc, List.getElem?_append_right (Nat.le_refl _)]
    unfold encN; rw [← hkk]; simp
  have hf := size_first hk
  have hs : szB (128 + k) = k := by unfold szB; rw [if_neg (by omega)]; omega
  have hn : decide (128 + k < 128) = false := by simp
  have hr : raw (p ++ encN x ++ q) p.length k false = (be x.toNat).map UInt8.toNat := by
    unfold raw
    have : (p ++ encN x ++ q).drop (p.length + 1) = be x.toNat ++ q := by
      rw [List.append_assoc, List.drop_append]
      simp [encN]
    rw [this, flp_false, hkk, List.take_left]
  have hh : ((be x.toNat).map UInt8.toNat).head? ≠ some 0 := by
    rw [List.head?_map]
    intro hh
    cases hq : (be x.toNat).head? with
    | none => rw [hq] at hh; simp at hh
    | some c =>
      rw [hq] at hh
      simp only [Option.map_some, Option.some.injEq] at hh
      exact be_head c hq (UInt8.toNat_inj.1 (by simpa using hh))
  have hv := val_be x.toNat
  have hle : (encN x).length = k + 1 := by rw [len_encN, ← hkk]
  rw [num_some hb, hf, hs, hn, hr, if_neg (by omega), if_neg (by simp [hle]; omega), if_neg hh, hv, if_neg (by simp; omega), hle]
  simp; omega
structure Rd where
  at_ : Nat
  e : Int
def rdN (s : Bs) (r : Rd) : Int × Rd := if r.e ≠ 0 then (0, r) else if (num s r.at_).2.2 ≠ 0 then (0, ⟨r.at_, (num s r.at_).2.2⟩) else ((num s r.at_).1, ⟨(num s r.at_).2.1, 0⟩)
def szE (s : Bs) (at_ : Nat) (most more : Int) : Int :=
  if (num s at_).2.2 ≠ 0 then (num s at_).2.2 else if (num s at_).1 < 0 then 3 else if (num s at_).1 > most then more else if (s.length : Int) - (num s at_).2.1 < (num s at_).1 then 4 else 0
def rdC (s : Bs) (most : Int) (r : Rd) : Int × Rd := if r.e ≠ 0 then (0, r) else if szE s r.at_ most 6 ≠ 0 then (0, ⟨r.at_, szE s r.at_ most 6⟩) else ((num s r.at_).1, ⟨(num s r.at_).2.1, 0⟩)
def rdT (s : Bs) (most : Int) (r : Rd) : Bs × Rd := if r.e ≠ 0 then ([], r) else if szE s r.at_ most 5 ≠ 0 then ([], ⟨r.at_, szE s r.at_ most 5⟩) else ((s.take ((num s r.at_).2.1 + (num s r.at_).1.toNat)).drop (num s r.at_).2.1, ⟨(num s r.at_).2.1 + (num s r.at_).1.toNat, 0⟩)
def endE (s : Bs) (r : Rd) : Int := if r.e ≠ 0 then r.e else if r.at_ < s.length then 3 else 0
theorem rdN_enc {p q : Bs} {x : Int} (h : 0 ≤ x ∧ x ≤ 9223372036854775807) {s : Bs} (hs : s = p ++ encN x ++ q) : rdN s ⟨p.length, 0⟩ = (x, ⟨p.length + (encN x).length, 0⟩) := by
  subst hs
  unfold rdN
  rw [num_enc h]; simp
theorem rdC_enc {p q : Bs} {x most : Int} (h : 0 ≤ x ∧ x ≤ 9223372036854775807) (hm : x ≤ most) (hq : x ≤ q.length) {s : Bs} (hs : s = p ++ encN x ++ q) : rdC s most ⟨p.length, 0⟩ = (x, ⟨p.length + (encN x).length, 0⟩) := by
  subst hs
  have hz : szE (p ++ encN x ++ q) p.length most 6 = 0 := by
    unfold szE
    rw [num_enc h]
    rw [if_neg (by simp), if_neg (by show ¬ x < 0; omega), if_neg (by show ¬ x > most; omega), if_neg (by simp; omega)]
  unfold rdC
  show (if (0 : Int) ≠ 0 then _ else _) = _
  rw [if_neg (by simp), hz, if_neg (by simp), num_enc h]
theorem rdN_err {s : Bs} {r : Rd} (h : r.e ≠ 0) : rdN s r = (0, r) := by unfold rdN; rw [if_pos h]
end Go.RdM
namespace Go.WalM
open Go Go.SL Go.DskM Go.RdM
set_option linter.unusedVariables false
set_option linter.unusedSimpArgs false
def dig : Nat → Nat → DskM.Bs
  | 0, _ => []
  | k + 1, n => dig k (n / 10) ++ [UInt8.ofNat (48 + n % 10)]
theorem len_dig : ∀ k n, (dig k n).length = k
  | 0, _ => rfl
  | k + 1, n => by rw [dig, List.length_append, len_dig k]; rfl
def dval (s : DskM.Bs) : Nat := s.foldl (fun m b => 10 * m + (b.toNat - 48)) 0
theorem dval_snoc (s : DskM.Bs) (b : UInt8) : dval (s ++ [b]) = 10 * dval s + (b.toNat - 48) := by unfold dval; rw [List.foldl_append]; rfl
def isD (s : DskM.Bs) : Prop := ∀ b ∈ s, 48 ≤ b.toNat ∧ b.toNat ≤ 57
instance (s : DskM.Bs) : Decidable (isD s) := by unfold isD; infer_instance
theorem dig_toNat (n : Nat) : (UInt8.ofNat (48 + n % 10)).toNat = 48 + n % 10 := by simp; omega
theorem isD_dig : ∀ k n, isD (dig k n)
  | 0, _ => by intro b hb; simp [dig] at hb
  | k + 1, n => by
    intro b hb
    rw [dig] at hb
    rcases List.mem_append.1 hb with hb | hb
    · exact isD_dig k _ b hb
    · rw [List.mem_singleton] at hb; subst hb; rw [dig_toNat]; omega
theorem dval_dig : ∀ k n, n < 10 ^ k → dval (dig k n) = n
  | 0, n, h => by have : n = 0 := by simpa using h
                  subst this; rfl
  | k + 1, n, h => by rw [dig, dval_snoc, dval_dig k (n / 10) (by rw [Nat.pow_succ] at h; omega), dig_toNat]; omega
theorem dval_lt : ∀ s, isD s → dval s < 10 ^ s.length := by
  intro s
  refine snoc_ind (P := fun s => isD s → dval s < 10 ^ s.length) (fun _ => by simp [dval]) (fun l b ih => ?_) s
  intro h
  have h1 := ih fun c hc => h c (by simp [hc])
  have h2 := h b (by simp)
  rw [dval_snoc, List.length_append, List.length_singleton, Nat.pow_succ]; omega
theorem dig_dval : ∀ s, isD s → dig s.length (dval s) = s := by
  intro s
  refine snoc_ind (P := fun s => isD s → dig s.length (dval s) = s) (fun _ => rfl) (fun l b ih => ?_) s
  intro h
  have h1 := ih fun c hc => h c (by simp [hc])
  have h2 := h b (by simp)
  rw [List.length_append, List.length_singleton, dig, dval_snoc]
  have e1 : (10 * dval l + (b.toNat - 48)) / 10 = dval l := by omega
  have e2 : (10 * dval l + (b.toNat - 48)) % 10 = b.toNat - 48 := by omega
  rw [e1, e2, h1]
  have : UInt8.ofNat (48 + (b.toNat - 48)) = b := by apply UInt8.toNat_inj.1; have := b.toNat_lt; simp; omega
  rw [this]
def fileN (nm : DskM.Bs) (n : Nat) : DskM.Bs := nm ++ [46] ++ dig 6 n
theorem len_fileN (nm : DskM.Bs) (n : Nat) : (fileN nm n).length = nm.length + 7 := by unfold fileN; simp [len_dig]
def parseN (nm f : DskM.Bs) : Option Nat :=
  if f.take (nm ++ [46]).length = nm ++ [46] ∧ (f.drop (nm ++ [46]).length).length = 6 ∧ isD (f.drop (nm ++ [46]).length) ∧ 0 < dval (f.drop (nm ++ [46]).length) then some (dval (f.drop (nm ++ [46]).length)) else none
theorem parse_file {nm : DskM.Bs} {n : Nat} (h : 1 ≤ n ∧ n ≤ 999999) : parseN nm (fileN nm n) = some n := by
  unfold parseN fileN
  rw [List.take_left, List.drop_left, if_pos, dval_dig 6 n (by omega)]
  exact ⟨rfl, len_dig 6 n, isD_dig 6 n, by rw [dval_dig 6 n (by omega)]; omega⟩
theorem parse_some {nm f : DskM.Bs} {n : Nat} (h : parseN nm f = some n) : f = fileN nm n ∧ 1 ≤ n ∧ n ≤ 999999 := by
  unfold parseN at h
  split at h
  · rename_i hc
    obtain ⟨h1, h2, h3, h4⟩ := hc
    simp only [Option.some.injEq] at h
    have h5 := dval_lt _ h3
    have h6 := dig_dval _ h3
    rw [h2] at h5 h6
    refine ⟨?_, by omega, by omega⟩
    have h7 := List.take_append_drop (nm ++ [46]).length f
    rw [h1] at h7
    unfold fileN
    rw [← h, h6]; exact h7.symm
  · simp at h
theorem app_lt (a : DskM.Bs) {x y : DskM.Bs} : a ++ x < a ++ y ↔ x < y := by
  induction a with
  | nil => rfl
  | cons b a ih => rw [List.cons_append, List.cons_append, List.cons_lt_cons_iff]; simp [ih]
theorem snoc_lt : ∀ {x y : DskM.Bs} {a b : UInt8}, x.length = y.length → (x ++ [a] < y ++ [b] ↔ x < y ∨ x = y ∧ a < b)
  | [], [], a, b, _ => by simp [List.cons_lt_cons_iff]
  | [], _ :: _, _, _, h => by simp at h
  | _ :: _, [], _, _, h => by simp at h
  | c :: x, d :: y, a, b, h => by
    have h' : x.length = y.length := by simpa using h
    rw [List.cons_append, List.cons_append, List.cons_lt_cons_iff, snoc_lt h', List.cons_lt_cons_iff]
    constructor
    · rintro (h1 | ⟨rfl, h1 | ⟨rfl, h1⟩⟩)
      · exact .inl (.inl h1)
      · exact .inl (.inr ⟨rfl, h1⟩)
      · exact .inr ⟨rfl, h1⟩
    · rintro ((h1 | ⟨rfl, h1⟩) | ⟨h1, h2⟩)
      · exact .inl h1
      · exact .inr ⟨rfl, .inl h1⟩
      · simp only [List.cons.injEq] at h1
        obtain ⟨rfl, rfl⟩ := h1
        exact .inr ⟨rfl, .inr ⟨rfl, h2⟩⟩
theorem dig_lt : ∀ {k m n : Nat}, m < 10 ^ k → n < 10 ^ k → (dig k m < dig k n ↔ m < n)
  | 0, m, n, hm, hn => by
    have : m = 0 := by simpa using hm
    have : n = 0 := by simpa using hn
    subst m n; simp [dig]
  | k + 1, m, n, hm, hn => by
    rw [Nat.pow_succ] at hm hn
    rw [dig, dig, snoc_lt (by rw [len_dig, len_dig]), dig_lt (by omega) (by omega)]
    have hlt : UInt8.ofNat (48 + m % 10) < UInt8.ofNat (48 + n % 10) ↔ m % 10 < n % 10 := by
      rw [UInt8.lt_iff_toNat_lt, dig_toNat, dig_toNat]; omega
    rw [hlt]
    constructor
    · rintro (h | ⟨h1, h2⟩)
      · omega
      · have := congrArg dval h1
        rw [dval_dig k _ (by omega), dval_dig k _ (by omega)] at this
        omega
    · intro h
      by_cases h1 : m / 10 < n / 10
      · exact .inl h1
      · have : m / 10 = n / 10 := by omega
        exact .inr ⟨by rw [this], by omega⟩
theorem fileN_lt {nm : DskM.Bs} {m n : Nat} (hm : m ≤ 999999) (hn : n ≤ 999999) : fileN nm m < fileN nm n ↔ m < n := by
  unfold fileN
  rw [app_lt, dig_lt (by omega) (by omega)]
def segsOf (nm : DskM.Bs) (fs : Files) : List (Nat × Fl) := fs.filterMap fun p => (parseN nm p.1).map fun n => (n, p.2)
theorem segsOf_nil (nm : DskM.Bs) : segsOf nm [] = [] := rfl
theorem segsOf_cons (nm : DskM.Bs) (p : DskM.Bs × Fl) (fs : Files) : segsOf nm (p :: fs) = (match parseN nm p.1 with | some n => [(n, p.2)] | none => []) ++ segsOf nm fs := by
  unfold segsOf
  rw [List.filterMap_cons]
  cases parseN nm p.1 <;> rfl
theorem segsOf_app (nm : DskM.Bs) (a b : Files) : segsOf nm (a ++ b) = segsOf nm a ++ segsOf nm b := by unfold segsOf; rw [List.filterMap_append]
theorem mem_segs {nm : DskM.Bs} {fs : Files} {q : Nat × Fl} : q ∈ segsOf nm fs ↔ 1 ≤ q.1 ∧ q.1 ≤ 999999 ∧ (fileN nm q.1, q.2) ∈ fs := by
  unfold segsOf
  rw [List.mem_filterMap]
  constructor
  · rintro ⟨p, hp, h⟩
    cases hq : parseN nm p.1 with
    | none => rw [hq] at h; simp at h
    | some n =>
      rw [hq] at h
      simp only [Option.map_some, Option.some.injEq] at h
      subst h
      obtain ⟨h1, h2, h3⟩ := parse_some hq
      exact ⟨h2, h3, by rw [← h1]; exact hp⟩
  · rintro ⟨h1, h2, h3⟩
    exact ⟨_, h3, by rw [parse_file ⟨h1, h2⟩]; rfl⟩
theorem find_seg {nm : DskM.Bs} {fs : Files} (hi : Inc fs) {n : Nat} {f : Fl} (h : (n, f) ∈ segsOf nm fs) : find fs (fileN nm n) = some f := by
  obtain ⟨_, _, h3⟩ := mem_segs.1 h
  exact look_get hi.nod h3
theorem find_none {nm : DskM.Bs} {fs : Files} (hi : Inc fs) {n : Nat} (hn : 1 ≤ n ∧ n ≤ 999999) (h : ∀ q ∈ segsOf nm fs, q.1 ≠ n) : find fs (fileN nm n) = none := by
  cases hf : find fs (fileN nm n) with
  | none => rfl
  | some f => exact absurd rfl (h (n, f) (mem_segs.2 ⟨hn.1, hn.2, find_mem hf⟩))
theorem segs_set {nm : DskM.Bs} {n : Nat} {f : Fl} (hn : 1 ≤ n ∧ n ≤ 999999) : ∀ {fs : Files}, Inc fs → (∀ q ∈ segsOf nm fs, q.1 ≤ n) → segsOf nm (setS fs (fileN nm n) f) = (segsOf nm fs).filter (fun q => decide (q.1 ≠ n)) ++ [(n, f)]
  | [], _, _ => by rw [setS, segsOf_cons, parse_file hn]; rfl
  | p :: fs, h, hq => by
    obtain ⟨h1, h2⟩ := List.pairwise_cons.1 h
    have hgt : fileN nm n ≤ p.1 → segsOf nm fs = [] := by
      intro hle
      rw [List.eq_nil_iff_forall_not_mem]
      intro q hm
      obtain ⟨g1, g2, g3⟩ := mem_segs.1 hm
      have h3 := h1 _ g3
      have h4 : fileN nm n < fileN nm q.1 := List.lt_of_le_of_lt hle h3
      have h5 := (fileN_lt hn.2 g2).1 h4
      have := hq q (by rw [segsOf_cons]; exact List.mem_append_right _ hm)
      omega
    rw [setS]
    split
    · rename_i hlt
      have h0 : segsOf nm (p :: fs) = [] := by
        rw [segsOf_cons, hgt (List.not_lt.1 (lt_asymm hlt))]
        cases hp : parseN nm p.1 with
        | none => rfl
        | some m =>
          obtain ⟨e1, e2, e3⟩ := parse_some hp
          rw [e1] at hlt
          have h5 := (fileN_lt hn.2 e3).1 hlt
          have := hq (m, p.2) (by rw [segsOf_cons, hp]; simp)
          have : m ≤ n := this
          omega
      rw [segsOf_cons, parse_file hn, h0]; rfl
    · split
      · rename_i h3 h4
        have h0 := hgt (by rw [h4]; exact List.le_refl _)
        have hpp : parseN nm p.1 = some n := by rw [← h4]; exact parse_file hn
        rw [segsOf_cons, parse_file hn, segsOf_cons, hpp, h0]
        simp
      · rename_i h3 h4
        rw [segsOf_cons, segs_set hn h2 (fun q hm => hq q (by rw [segsOf_cons]; exact List.mem_append_right _ hm)), segsOf_cons, List.filter_append, ← List.append_assoc]
        congr 2
        cases hp : parseN nm p.1 with
        | none => rfl
        | some m =>
          have : m ≠ n := by
            intro e; subst e
            exact h4 (parse_some hp).1.symm
          simp [this]
theorem segs_del {nm : DskM.Bs} {n : Nat} (hn : 1 ≤ n ∧ n ≤ 999999) : ∀ {fs : Files}, segsOf nm (delS fs (fileN nm n)) = (segsOf nm fs).filter (fun q => decide (q.1 ≠ n))
  | [] => rfl
  | p :: fs => by
    have ih := segs_del (nm := nm) hn (fs := fs)
    unfold delS at ih ⊢
    rw [List.filter_cons]
    by_cases h : p.1 = fileN nm n
    · rw [if_neg (by simp [h]), ih, segsOf_cons, h, parse_file hn]
      simp
    · rw [if_pos (by simp [h]), segsOf_cons, ih, segsOf_cons, List.filter_append]
      congr 1
      cases hp : parseN nm p.1 with
      | none => rfl
      | some m =>
        have : m ≠ n := fun e => by subst e; exact h (parse_some hp).1
        simp [this]
def txt (x : DskM.Bs) : DskM.Bs := encN x.length ++ x
def sumB (r : Nat) : Nat := if r % 2 = 1 then (r / 2) ^^^ 2197175160 else r / 2
def sumU (r : Nat) (b : UInt8) : Nat := sumB (sumB (sumB (sumB (sumB (sumB (sumB (sumB (r ^^^ b.toNat))))))))
def sumR (r : Nat) (s : DskM.Bs) : Nat := s.foldl sumU r
def crc (s : DskM.Bs) : Nat := sumR 4294967295 s ^^^ 4294967295
theorem sumB_lt {r : Nat} (h : r < 4294967296) : sumB r < 4294967296 := by
  unfold sumB
  split
  · exact Nat.xor_lt_two_pow (n := 32) (by omega) (by omega)
  · omega
theorem sumU_lt {r : Nat} {b : UInt8} (h : r < 4294967296) : sumU r b < 4294967296 := by
  have hb := b.toNat_lt
  unfold sumU
  exact sumB_lt (sumB_lt (sumB_lt (sumB_lt (sumB_lt (sumB_lt (sumB_lt (sumB_lt (Nat.xor_lt_two_pow (n := 32) h (by omega)))))))))
theorem sumR_lt : ∀ {s : DskM.Bs} {r : Nat}, r < 4294967296 → sumR r s < 4294967296
  | [], r, h => h
  | b :: s, r, h => sumR_lt (s := s) (sumU_lt h)
theorem crc_lt (s : DskM.Bs) : crc s < 4294967296 := Nat.xor_lt_two_pow (n := 32) (sumR_lt (by omega)) (by omega)
def body (first : Nat) (g : List DskM.Bs) : DskM.Bs := encN first ++ encN g.length ++ (g.map txt).flatten
def encG (first : Nat) (g : List DskM.Bs) : DskM.Bs := txt (body first g) ++ encN (crc (body first g))
def encGs : Nat → List (List DskM.Bs) → DskM.Bs
  | _, [] => []
  | f, g :: gs => encG f g ++ encGs (f + g.length) gs
structure OkG (g : List DskM.Bs) : Prop where
  ne : g ≠ []
  len : g.length ≤ 256
  rc : ∀ r ∈ g, r.length ≤ 65536
theorem len_txt (x : DskM.Bs) : (txt x).length = (encN x.length).length + x.length := by unfold txt; rw [List.length_append]
theorem txt_le {x : DskM.Bs} (h : x.length ≤ 9223372036854775807) : (txt x).length ≤ x.length + 9 := by
  rw [len_txt]; have := encN_le (x := (x.length : Int)) (by omega); omega
theorem sum_txt : ∀ {g : List DskM.Bs}, (∀ r ∈ g, r.length ≤ 65536) → ((g.map txt).flatten).length ≤ g.length * 65545
  | [], _ => by simp
  | x :: g, h => by
    have h1 := sum_txt (g := g) fun r hr => h r (by simp [hr])
    have h2 := h x (by simp)
    have h3 := txt_le (x := x) (by omega)
    simp only [List.map_cons, List.flatten_cons, List.length_append, List.length_cons] at h1 ⊢
    omega
theorem body_le {f : Nat} {g : List DskM.Bs} (hg : OkG g) (hf : f ≤ 1099511627776) : (body f g).length ≤ 16779538 := by
  unfold body
  have h1 := encN_le (x := (f : Int)) (by omega)
  have hl := hg.len
  have h2 := encN_le (x := (g.length : Int)) (by omega)
  have h3 := sum_txt hg.rc
  rw [List.length_append, List.length_append]
  have : g.length * 65545 ≤ 256 * 65545 := Nat.mul_le_mul_right _ hl
  omega
theorem encG_le {f : Nat} {g : List DskM.Bs} (hg : OkG g) (hf : f ≤ 1099511627776) : (encG f g).length ≤ 16779556 := by
  unfold encG
  have h1 := body_le hg hf
  have h2 := txt_le (x := body f g) (by omega)
  have h3 := crc_lt (body f g)
  have h4 := encN_le (x := (crc (body f g) : Int)) (by omega)
  rw [List.length_append]; omega
theorem encG_pos (f : Nat) (g : List DskM.Bs) : 0 < (encG f g).length := by unfold encG txt encN; simp
theorem encGs_app : ∀ (a b : List (List DskM.Bs)) (f : Nat), encGs f (a ++ b) = encGs f a ++ encGs (f + a.flatten.length) b
  | [], b, f => by simp [encGs]
  | g :: a, b, f => by
    rw [List.cons_append, encGs, encGs_app a b, encGs, List.append_assoc, List.flatten_cons, List.length_append, ← Nat.add_assoc]
theorem encGs_one (f : Nat) (g : List DskM.Bs) : encGs f [g] = encG f g := by simp [encGs]
theorem rdT_enc {p q x : DskM.Bs} {most : Int} (hx : (x.length : Int) ≤ 9223372036854775807) (hm : (x.length : Int) ≤ most) {s : DskM.Bs} (hs : s = p ++ txt x ++ q) : rdT s most ⟨p.length, 0⟩ = (x, ⟨p.length + (txt x).length, 0⟩) := by
  have hs2 : s = p ++ encN x.length ++ (x ++ q) := by rw [hs]; unfold txt; simp only [List.append_assoc]
  have hn := num_enc (p := p) (q := x ++ q) (x := (x.length : Int)) (by omega)
  rw [← hs2] at hn
  have hz : szE s p.length most 5 = 0 := by
    unfold szE
    rw [hn, if_neg (by simp), if_neg (by show ¬ (x.length : Int) < 0; omega), if_neg (by show ¬ (x.length : Int) > most; omega), if_neg (by rw [hs2]; simp; omega)]
  unfold rdT
  show (if (0 : Int) ≠ 0 then _ else _) = _
  rw [if_neg (by simp), hz, if_neg (by simp), hn]
  show ((s.take (p.length + (encN x.length).length + (x.length : Int).toNat)).drop (p.length + (encN x.length).length), _) = _
  have h1 : s.drop (p.length + (encN x.length).length) = x ++ q := by
    rw [hs2, ← List.length_append, List.drop_left]
  rw [Int.toNat_natCast, List.drop_take, h1, Nat.add_sub_cancel_left, List.take_left, len_txt, Nat.add_assoc]
theorem num_short {p : DskM.Bs} {x : Int} {j : Nat} (h : 0 ≤ x ∧ x ≤ 9223372036854775807) (hj : j < (encN x).length) : (num (p ++ (encN x).take j) p.length).2.2 ≠ 0 := by
  rcases Nat.eq_zero_or_pos j with h0 | h0
  · subst h0
    rw [num_none (by simp)]; simp
  · have hk := len_be 8 x.toNat (by omega)
    obtain ⟨k, hkk⟩ : ∃ k, k = (be x.toNat).length := ⟨_, rfl⟩
    rw [← hkk] at hk
    have hle : (encN x).length = k + 1 := by rw [len_encN, ← hkk]
    have hb : (p ++ (encN x).take j)[p.length]? = some (UInt8.ofNat (128 + k)) := by
      rw [List.getElem?_append_right (Nat.le_refl _), Nat.sub_self, List.getElem?_take, if_pos h0]
      unfold encN; rw [← hkk]; simp
    have hf := size_first hk
    have hs : szB (128 + k) = k := by unfold szB; rw [if_neg (by omega)]; omega
    rw [num_some hb, hf, hs, if_neg (by omega), if_pos (by rw [List.length_append, List.length_take]; omega)]
    simp
theorem rdN_short {p : DskM.Bs} {x : Int} {j : Nat} (h : 0 ≤ x ∧ x ≤ 9223372036854775807) (hj : j < (encN x).length) : (rdN (p ++ (encN x).take j) ⟨p.length, 0⟩).2.e ≠ 0 := by
  have := num_short (p := p) h hj
  unfold rdN
  show (if (0 : Int) ≠ 0 then _ else _ : Int × Rd).2.e ≠ 0
  rw [if_neg (by simp), if_pos this]; exact this
theorem take_app_lt {α : Type} {a b : List α} {j : Nat} (h : j ≤ a.length) : (a ++ b).take j = a.take j := List.take_append_of_le_length h
theorem torn_none {p : DskM.Bs} {f : Nat} {g : List DskM.Bs} {j : Nat} (hf : f ≤ 1099511627776) (hg : OkG g) (hj : j < (encG f g).length) {s : DskM.Bs} (hs : s = p ++ (encG f g).take j) : (rdN s (rdT s 1073741824 ⟨p.length, 0⟩).2).2.e ≠ 0 := by
  obtain ⟨b, hb⟩ : ∃ b, b = body f g := ⟨_, rfl⟩
  have hbl : b.length ≤ 16779538 := by rw [hb]; exact body_le hg hf
  have he : encG f g = encN b.length ++ b ++ encN (crc b) := by unfold encG txt; rw [← hb]
  have hxb : (0 : Int) ≤ (b.length : Int) ∧ (b.length : Int) ≤ 9223372036854775807 := by omega
  have herr : ∀ r : Rd, r.e ≠ 0 → (rdN s r).2.e ≠ 0 := fun r hr => by rw [rdN_err hr]; exact hr
  rw [he] at hs hj
  by_cases h1 : j < (encN b.length).length
  · refine herr _ ?_
    rw [List.append_assoc, take_app_lt (by omega)] at hs
    have hn := num_short (p := p) hxb h1
    rw [← hs] at hn
    have hz : szE s p.length 1073741824 5 ≠ 0 := by unfold szE; rw [if_pos hn]; exact hn
    unfold rdT
    show (if (0 : Int) ≠ 0 then _ else _ : DskM.Bs × Rd).2.e ≠ 0
    rw [if_neg (by simp), if_pos hz]; exact hz
  · by_cases h2 : j < (encN b.length ++ b).length
    · refine herr _ ?_
      rw [take_app_lt (by omega), List.take_append, List.take_of_length_le (by omega), ← List.append_assoc] at hs
      have hn := num_enc (p := p) (q := b.take (j - (encN b.length).length)) hxb
      rw [← hs] at hn
      have hz : szE s p.length 1073741824 5 = 4 := by
        unfold szE
        rw [hn, if_neg (by simp), if_neg (by show ¬ (b.length : Int) < 0; omega), if_neg (by show ¬ (b.length : Int) > 1073741824; omega), if_pos]
        rw [List.length_append] at h2
        rw [hs]
        simp only [List.length_append, List.length_take]
        omega
      unfold rdT
      show (if (0 : Int) ≠ 0 then _ else _ : DskM.Bs × Rd).2.e ≠ 0
      rw [if_neg (by simp), hz, if_pos (by simp)]; simp
    · have hs2 : s = p ++ txt b ++ (encN (crc b)).take (j - (encN b.length ++ b).length) := by
        rw [hs, List.take_append, List.take_of_length_le (by omega), ← List.append_assoc]; rfl
      rw [rdT_enc (by omega) (by omega) hs2]
      have hc := crc_lt b
      have := rdN_short (p := p ++ txt b) (x := (crc b : Int)) (j := j - (encN b.length ++ b).length) (by omega) (by rw [List.length_append] at hj; omega)
      rw [← hs2, List.length_append] at this
      exact this
structure Sg where
  num : Nat
  gs : List (List DskM.Bs)
def Sg.recs (x : Sg) : List DskM.Bs := x.gs.flatten
structure Lg where
  first : Nat
  segs : List Sg
  pend : List DskM.Bs
  fresh : Bool
  broken : Bool
def allR (segs : List Sg) : List DskM.Bs := (segs.map Sg.recs).flatten
theorem allR_app (a b : List Sg) : allR (a ++ b) = allR a ++ allR b := by unfold allR; rw [List.map_append, List.flatten_append]
theorem allR_one (x : Sg) : allR [x] = x.recs := by unfold allR; simp
theorem allR_cons (x : Sg) (a : List Sg) : allR (x :: a) = x.recs ++ allR a := by unfold allR; simp
def rowsOf : Nat → List Sg → List (Nat × Nat × Nat × Nat)
  | _, [] => []
  | f, x :: xs => (x.num, f, f + x.recs.length - 1, x.gs.length) :: rowsOf (f + x.recs.length) xs
theorem rowsOf_len : ∀ (l : List Sg) (f : Nat), (rowsOf f l).length = l.length
  | [], _ => rfl
  | x :: l, f => by rw [rowsOf, List.length_cons, rowsOf_len l, List.length_cons]
theorem rowsOf_app : ∀ (a b : List Sg) (f : Nat), rowsOf f (a ++ b) = rowsOf f a ++ rowsOf (f + (allR a).length) b
  | [], b, f => by simp [rowsOf, allR]
  | x :: a, b, f => by
    rw [List.cons_append, rowsOf, rowsOf_app a b, rowsOf, allR_cons, List.length_append, List.cons_append, Nat.add_assoc]
theorem rowsOf_one (x : Sg) (f : Nat) : rowsOf f [x] = [(x.num, f, f + x.recs.length - 1, x.gs.length)] := rfl
def noteS (segs : List Sg) (n : Nat) (g : List DskM.Bs) : List Sg :=
  match segs.getLast? with
  | none => [⟨n, [g]⟩]
  | some x => if x.num = n then segs.dropLast ++ [⟨n, x.gs ++ [g]⟩] else segs ++ [⟨n, [g]⟩]
theorem noteS_new {segs : List Sg} {n : Nat} {g : List DskM.Bs} (h : ∀ x, segs.getLast? = some x → x.num ≠ n) : noteS segs n g = segs ++ [⟨n, [g]⟩] := by
  unfold noteS
  cases hl : segs.getLast? with
  | none => rw [List.getLast?_eq_none_iff.1 hl]; rfl
  | some x => exact if_neg (h x hl)
theorem noteS_old {S : List Sg} {n : Nat} {gs : List (List DskM.Bs)} {g : List DskM.Bs} : noteS (S ++ [⟨n, gs⟩]) n g = S ++ [⟨n, gs ++ [g]⟩] := by
  unfold noteS
  rw [List.getLast?_concat]
  dsimp only
  rw [if_pos rfl, List.dropLast_concat]
theorem noteS_all (segs : List Sg) (n : Nat) (g : List DskM.Bs) : allR (noteS segs n g) = allR segs ++ g := by
  unfold noteS
  cases hl : segs.getLast? with
  | none => rw [List.getLast?_eq_none_iff.1 hl]; simp [allR, Sg.recs]
  | some x =>
    obtain ⟨S, rfl⟩ : ∃ S, segs = S ++ [x] := by
      obtain ⟨S, hS⟩ := List.getLast?_eq_some_iff.1 hl
      exact ⟨S, hS⟩
    dsimp only
    by_cases hx : x.num = n
    · rw [if_pos hx, List.dropLast_concat, allR_app, allR_app, allR_one, allR_one]
      unfold Sg.recs; simp
    · rw [if_neg hx, allR_app, allR_one]; unfold Sg.recs; simp
def nextN (segs : List Sg) (fresh : Bool) : Nat :=
  match segs.getLast? with
  | none => 1
  | some x => if fresh = true ∨ 8 ≤ x.gs.length then x.num + 1 else x.num
def lastN (L : Lg) : Nat := L.first + (allR L.segs).length - 1
def commitL (L : Lg) : Lg := if L.pend = [] then L else { L with segs := noteS L.segs (nextN L.segs L.fresh) L.pend, pend := [], fresh := false }
def openL (L : Lg) : Lg := { L with pend := [], fresh := true, broken := false }
structure OkS (first : Nat) (segs : List Sg) : Prop where
  pos : 1 ≤ first
  nil : segs = [] → first = 1
  inc : segs.Pairwise (fun a b => a.num < b.num)
  num : ∀ x ∈ segs, 1 ≤ x.num ∧ x.num ≤ 999999
  grp : ∀ x ∈ segs, x.gs ≠ [] ∧ ∀ g ∈ x.gs, OkG g
theorem OkG.recs {x : Sg} (h : x.gs ≠ [] ∧ ∀ g ∈ x.gs, OkG g) : 0 < x.recs.length := by
  unfold Sg.recs
  obtain ⟨h1, h2⟩ := h
  cases hg : x.gs with
  | nil => exact absurd hg h1
  | cons g gs =>
    have := (h2 g (by rw [hg]; simp)).ne
    have := List.length_pos_iff.2 this
    rw [List.flatten_cons, List.length_append]; omega
def Torn (f : Nat) (t : DskM.Bs) : Prop := t = [] ∨ ∃ g j, OkG g ∧ j < (encG f g).length ∧ t = (encG f g).take j
def Holds : Nat → List Sg → List (Nat × Fl) → Prop
  | _, [], [] => True
  | f, x :: xs, q :: r => q.1 = x.num ∧ (∃ t, Torn (f + x.recs.length) t ∧ q.2.data = encGs f x.gs ++ t) ∧ Holds (f + x.recs.length) xs r
  | _, _, _ => False
end Go.WalM
namespace Go.Proofs.Ytcbigmgakdanjaa
open Go Go.SL Go.RowKit Go.DskM
set_option linter.unusedVariables false
set_option linter.unusedSimpArgs false
theorem tF90_2a : fieldB Try.prog 90 2 2 = true := by kernel_rfl
theorem tF90_3a : fieldB Try.prog 90 3 3 = true := by kernel_rfl
theorem tF90_4a : fieldB Try.prog 90 4 4 = true := by kernel_rfl
theorem tO3a : oneB Try.prog 3 = true := by kernel_rfl
theorem tO4a : oneB Try.prog 4 = true := by kernel_rfl
theorem tO9a : oneB Try.prog 9 = true := by kernel_rfl
theorem tS35a : sliceB Try.prog 35 9 1 = true := by kernel_rfl
theorem tZ3a : (Try.prog.info? 3).map (·.size) = some 1 := by kernel_rfl
theorem tZ4a : (Try.prog.info? 4).map (·.size) = some 1 := by kernel_rfl
theorem take_snoc {α : Type} {l : List α} {i : Nat} {x : α} (h : l[i]? = some x) : l.take (i + 1) = l.take i ++ [x] := by
  rw [List.take_add_one, h]; rfl
theorem take_all {α : Type} {l : List α} {i : Nat} (h : l.length ≤ i) : l.take i = l := List.take_of_length_le h
def inR (lo hi : Int) (s : Bs) : Prop := ∀ b ∈ s, lo ≤ (b.toNat : Int) ∧ (b.toNat : Int) ≤ hi
instance (lo hi : Int) (s : Bs) : Decidable (inR lo hi s) := by unfold inR; infer_instance
set_option maxHeartbeats 400000 in
set_option maxRecDepth 100000 in
theorem within_any {σ : World} {F : List Res} (s : Bs) (lo hi : Int) (hs : s.length ≤ maxLen) (h0 : 0 ≤ lo ∧ lo ≤ 255) (h1 : 0 ≤ hi ∧ hi ≤ 255) : FnT Try.prog σ F 69 [.string (str s), .int .u8 lo, .int .u8 hi] [] (fun u ρ => u = .bool (decide (inR lo hi s)) ∧ ρ = []) := by
  refine fn_of 26 Try.func69 rfl Try.ntmps69 rfl ?_
  unfold maxLen at hs
  refine w_seq (w_region (za rfl (wl_nil (st_tn (w_seq (w_seq (w_region (zm rfl (zd rfl (op_lenBs rfl Try.underlying9) (zm rfl (wl_nil (st_tn (w_block ?_)))))))))))))
  refine w_loopQ (X := Nat) (fun z => z ≤ s.length ∧ ∀ b ∈ s.take z, lo ≤ (b.toNat : Int) ∧ (b.toNat : Int) ≤ hi) (fun z => [(10, .int .i64 (z))]) (fun _ => []) (fun z => s.length - z) (0) [(0, _), (1, _), (2, _), (9, _)] [] [] rfl (rfl) (.cons rfl (.nil _)) (.cons rfl (.cons rfl (.cons rfl (.cons rfl (.nil _))))) (by
      try dsimp only
      exact ⟨Nat.zero_le _, by simp⟩) ?_
  rintro i ⟨hi0, hn⟩
  refine w_norm2 (by dsimp only [List.cons_append, List.nil_append]) (by dsimp only [List.cons_append, List.nil_append]) ?_
  try dsimp only at hi0 hn ⊢
  refine w_seq (w_region (zd rfl (op_lss rfl rfl) (wl_nil (st_tn (w_seq (w_cond_d rfl (fun hc11 => ?_) (fun hc11 => ?_)))))))
  · -- c11.t
    obtain ⟨b, hb⟩ := getE (l := s) (i := i) (by omega)
    refine w_skip (st_tn (w_seq (w_block (w_seq (w_region (zm rfl (za rfl (wl_nil (st_tn (w_seq (w_cutL [(24, .bool (decide ((b.toNat : Int) < lo ∨ (b.toNat : Int) > hi)))] [0, 1, 2, 9, 10] [] rfl (fun K' hK => ?_) ?_)))))))))))
    · -- cut r4
      refine w_region (zm rfl (zm rfl (zd rfl (op_idxBs rfl rfl Try.underlying9 (by assumption)) ?_)))
      refine zm rfl (zd rfl (op_lss rfl rfl) (zm rfl (wl_gsplit (t := 18) rfl (fun hg18 => ?_) (fun hg18 => ?_))))
      · -- 18 is True
        refine wl_unwanted rfl rfl rfl rfl rfl rfl rfl rfl (wl_unwanted rfl rfl rfl rfl rfl rfl rfl rfl (wl_unwanted rfl rfl rfl rfl rfl rfl rfl rfl (wl_unwanted rfl rfl rfl rfl rfl rfl rfl rfl (wl_unwanted rfl rfl rfl rfl rfl rfl rfl rfl (zd rfl (op_pick_t rfl rfl) (wl_nil (st_tn ?_)))))))
        exact cut_done1 [] hK rfl (by first | (rw [decide_eq_decide]; omega) | (symm; rw [decide_eq_false_iff_not]; omega) | (symm; rw [decide_eq_true_iff]; omega) | (simp; done) | (simp; omega) | (simp [*]; done) | (simp [*]; omega)) (by rfl) rfl rfl
      · -- 18 is False
        refine wl_wanted_det rfl rfl rfl rfl rfl rfl rfl (op_move rfl) (wl_wanted_det rfl rfl rfl rfl rfl rfl rfl (op_move rfl) (wl_wanted_det rfl rfl rfl rfl rfl rfl rfl (op_idxBs rfl rfl Try.underlying9 (by assumption)) ?_))
        refine wl_wanted_det rfl rfl rfl rfl rfl rfl rfl (op_move rfl) (wl_wanted_det rfl rfl rfl rfl rfl rfl rfl (op_gtr rfl rfl) (zd rfl (op_pick_f rfl rfl) (wl_nil (st_tn ?_))))
        exact cut_done1 [] hK rfl (by first | (rw [decide_eq_decide]; omega) | (symm; rw [decide_eq_false_iff_not]; omega) | (symm; rw [decide_eq_true_iff]; omega) | (simp; done) | (simp; omega) | (simp [*]; done) | (simp [*]; omega)) (by rfl) rfl rfl
    · -- behind r4
      show W _ _ _ _ _ [(24, _), (0, _), (1, _), (2, _), (9, _), (10, _)] [] _
      refine w_cond_d rfl (fun hc24 => ?_) (fun hc24 => ?_)
      · -- c24.t
        refine w_seq (w_region (za rfl (wl_nil (st_tn (w_ret (st_br (st_tr (st_tr (st_br (st_tr (st_ret (vs := [_]) [] Try.results69 ⟨rfl, trivial⟩ rfl ?_)))))))))))
        refine ⟨_, rfl, ?_⟩
        refine ⟨?_, rfl⟩; have : ¬ inR lo hi s := fun h => by have := h b (List.mem_of_getElem? hb); omega
        simp [retv, this]
      · -- c24.f
        refine w_skip (st_bn (st_tn (w_region (zd rfl (op_add' rfl rfl (by omega)) ?_))))
        refine zm rfl (wl_nil ?_)
        refine st_roundQ (x := i) (i + 1) [] rfl (rfl) (.cons rfl (.nil _)) (.cons rfl (.cons rfl (.cons rfl (.cons rfl (.nil _))))) (by
            try dsimp only
            refine ⟨by omega, by rw [take_snoc hb]; intro q hq; rcases List.mem_append.1 hq with hq | hq; (· exact hn q hq); (· simp only [List.mem_singleton] at hq; subst hq; omega)⟩) (by
            try dsimp only
            omega)
  · -- c11.f
    refine w_exit (st_te ?_)
    refine st_te ?_
    refine st_be (st_tn (w_seq (w_region (za rfl (wl_nil (st_tn (w_ret (st_ret (vs := [_]) [] Try.results69 ⟨rfl, trivial⟩ rfl ?_))))))))
    refine ⟨_, rfl, ?_⟩
    refine ⟨?_, rfl⟩; rw [take_all (by omega)] at hn; have : inR lo hi s := hn
    simp [retv, this]
theorem nameB_iff (s : Bs) : nameB s = decide (s ≠ [] ∧ s.length ≤ 64 ∧ inR 33 126 s) := by
  unfold nameB inR
  rw [Bool.eq_iff_iff]
  simp only [Bool.and_eq_true, decide_eq_true_eq, List.all_eq_true, and_assoc]
  constructor
  · rintro ⟨h1, h2, h3⟩; exact ⟨h1, h2, fun b hb => by have := h3 b hb; omega⟩
  · rintro ⟨h1, h2, h3⟩; exact ⟨h1, h2, fun b hb => by have := h3 b hb; omega⟩
set_option maxHeartbeats 400000 in
set_option maxRecDepth 100000 in
theorem isName_any {σ : World} {F : List Res} (s : Bs) (hs : s.length ≤ maxLen) : FnT Try.prog σ F 50 [.string (str s)] [] (fun u ρ => u = .bool (nameB s) ∧ ρ = []) := by
  refine fn_of 14 Try.func50 rfl Try.ntmps50 rfl ?_
  refine w_seq (w_region (za rfl (wl_nil (st_tn (w_seq (w_region (zm rfl (zd rfl (op_neBs rfl rfl) (zm rfl (wl_gsplit (t := 5) rfl (fun hg5 => ?_) (fun hg5 => ?_)))))))))))
  · -- 5 is True
    refine wl_wanted_det rfl rfl rfl rfl rfl rfl rfl (op_move rfl) (wl_wanted_det rfl rfl rfl rfl rfl rfl rfl (op_lenBs rfl Try.underlying9) (wl_wanted_det rfl rfl rfl rfl rfl rfl rfl (op_leq rfl rfl) (zd rfl (op_pick_t rfl rfl) (zm rfl (wl_gsplit (t := 10) rfl (fun hg10 => ?_) (fun hg10 => ?_))))))
    · -- 10 is True
      refine wl_wanted_det rfl rfl rfl rfl rfl rfl rfl (op_move rfl) (wl_wanted_det rfl rfl rfl rfl rfl rfl rfl (op_fn Try.func69 rfl rfl rfl (within_any _ _ _ (by assumption) (by omega) (by omega))) ?_)
      refine zd rfl (op_pick_t rfl rfl) (za rfl (wl_nil (st_tn (w_ret (st_ret (vs := [_]) [] Try.results50 ⟨rfl, trivial⟩ rfl ?_)))))
      refine ⟨_, rfl, ?_⟩
      refine ⟨?_, rfl⟩
      rw [nameB_iff]
      first | (simp [retv, *]; done) | (simp [retv, *]; omega) | (simp_all [retv]; done)
    · -- 10 is False
      refine wl_unwanted rfl rfl rfl rfl rfl rfl rfl rfl (wl_unwanted rfl rfl rfl rfl rfl rfl rfl rfl (zd rfl (op_pick_f rfl rfl) (za rfl (wl_nil (st_tn (w_ret (st_ret (vs := [_]) [] Try.results50 ⟨rfl, trivial⟩ rfl ?_)))))))
      refine ⟨_, rfl, ?_⟩
      refine ⟨?_, rfl⟩
      rw [nameB_iff]
      first | (simp [retv, *]; done) | (simp [retv, *]; omega) | (simp_all [retv]; done)
  · -- 5 is False
    refine wl_unwanted rfl rfl rfl rfl rfl rfl rfl rfl (wl_unwanted rfl rfl rfl rfl rfl rfl rfl rfl (wl_unwanted rfl rfl rfl rfl rfl rfl rfl rfl (zd rfl (op_pick_f rfl rfl) (zm rfl (wl_unwanted rfl rfl rfl rfl rfl rfl rfl rfl (wl_unwanted rfl rfl rfl rfl rfl rfl rfl rfl (zd rfl (op_pick_f rfl rfl) (za rfl (wl_nil (st_tn (w_ret (st_ret (vs := [_]) [] Try.results50 ⟨rfl, trivial⟩ rfl ?_))))))))))))
    refine ⟨_, rfl, ?_⟩
    refine ⟨?_, rfl⟩
    rw [nameB_iff]
    first | (simp [retv, *]; done) | (simp [retv, *]; omega) | (simp_all [retv]; done)
def cellD (s : St) (m : Nat) : List Value := [.int .i64 s.cap, .map (some m), .bool s.down, .bool s.lim, .int .i64 s.left]
theorem celD {σ : World} {F : List Res} {R : RL} {b : Nat} {s : St} {m : Nat} (lab : Nat) (h : getL R lab = some (cel b (cellD s m) 90)) : Ent σ (rs R ++ F) (At ⟨b, 0, none⟩ (cellD s m)) := Ent.lab h (says_cel 0)
set_option maxHeartbeats 400000 in
set_option maxRecDepth 100000 in
theorem ready_any {σ : World} {F : List Res} {b m : Nat} {s : St} {a : Option Addr} {c : Nat} {l : List Bs} (hd : Ent σ F (At ⟨b, 0, none⟩ (cellD s m))) (h : Sl σ F encT 1 (.slice a l.length c) l) (hl : ∀ x ∈ l, x.length ≤ maxLen) :
    FnT Try.prog σ F 62 [.pointer (some ⟨b, 0, none⟩), .slice a l.length c] [] (fun u ρ => u = .int .i64 (readyE s l) ∧ ρ = []) := by
  refine fn_of 25 Try.func62 rfl Try.ntmps62 rfl ?_
  have hle := h.i64
  refine w_seq (w_region (za rfl (wl_nil (st_tn (w_seq (w_block (w_seq (w_region (zm rfl (zd rfl (op_val (v' := .bool false) (by simp) (op_eqPtr rfl Try.underlying22)) ?_))))))))))
  refine za rfl (wl_nil (st_tn (w_cond_f (rfl) ?_)))
  refine w_seq (w_region (zm rfl (zd rfl (op_nilCheck rfl) (zd rfl (op_fieldAddr (off := 2) rfl tF90_2a) (zd rfl (op_load1 rfl tO4a (Ent.app (Ent.fld hd 2) _)) (za rfl (wl_nil (st_tn (w_cond rfl (fun hc10 => ?_) (fun hc10 => ?_))))))))))
  · -- c10.t
    refine w_seq (w_region (za rfl (wl_nil (st_tn (w_ret (st_br (st_tr (st_ret (vs := [_]) [] Try.results62 ⟨rfl, trivial⟩ rfl ?_))))))))
    refine ⟨_, rfl, ?_⟩
    refine ⟨?_, rfl⟩; unfold readyE; simp [retv, hc10]
  · -- c10.f
    refine w_skip (st_bn (st_tn (w_seq (w_seq (w_region (zm rfl (zd rfl (op_lenT rfl tS35a (Sl.ent (by first | exact Sl.app (by assumption) _ | exact Sl.app (Sl.app (by assumption) _) _))) ?_)))))))
    refine zm rfl (wl_nil (st_tn (w_block ?_)))
    refine w_loopQ (X := Nat) (fun z => z ≤ l.length ∧ ∀ x ∈ l.take z, nameB x = true) (fun z => [(17, .int .i64 (z))]) (fun _ => []) (fun z => l.length - z) (0) [(15, _), (16, _)] [] [] rfl (rfl) (.cons rfl (.nil _)) (.cons rfl (.cons rfl (.nil _))) (by
        try dsimp only
        exact ⟨Nat.zero_le _, by simp⟩) ?_
    rintro i ⟨hi, hn⟩
    refine w_norm2 (by dsimp only [List.cons_append, List.nil_append]) (by dsimp only [List.cons_append, List.nil_append]) ?_
    try dsimp only at hi hn ⊢
    refine w_seq (w_region (zd rfl (op_lss rfl rfl) (wl_nil (st_tn (w_seq (w_cond_d rfl (fun hc18 => ?_) (fun hc18 => ?_)))))))
    · -- c18.t
      obtain ⟨x, hx⟩ := getE (l := l) (i := i) (by omega)
      have hxl := hl x (List.mem_of_getElem? hx)
      refine w_skip (st_tn (w_seq (w_block (w_seq (w_region (zd rfl (op_idx rfl rfl tS35a (Sl.ent (by first | exact Sl.app (by assumption) _ | exact Sl.app (Sl.app (by assumption) _) _)) (by omega)) ?_))))))
      refine zd rfl (op_ldx rfl tO9a (by first | exact Sl.app (by assumption) _ | exact Sl.app (Sl.app (by assumption) _) _) (by assumption) (by rfl)) ?_
      refine za rfl (wl_nil (st_tn (w_seq (w_region (zm rfl (zd rfl (op_fn Try.func50 rfl rfl rfl (isName_any _ (by assumption))) ?_))))))
      refine zd rfl (op_not rfl) (wl_nil (st_tn (w_cond rfl (fun hc23 => ?_) (fun hc23 => ?_))))
      · -- c23.t
        refine w_seq (w_region (za rfl (wl_nil (st_tn (w_ret (st_br (st_tr (st_tr (st_br (st_tr (st_ret (vs := [_]) [] Try.results62 ⟨rfl, trivial⟩ rfl ?_)))))))))))
        refine ⟨_, rfl, ?_⟩
        refine ⟨?_, rfl⟩
        have hdn : s.down = false := by simpa using hc10
        simp only [retv]; unfold readyE
        first | (have hnx : nameB x = false := by simpa using hc23
                 have : ¬ ∀ y ∈ l, nameB y = true := fun h => by rw [h x (List.mem_of_getElem? hx)] at hnx; simp at hnx
                 simp [hdn, this]; done) | (rw [take_all (by omega)] at hn; rw [if_neg (by simp [hdn]), if_pos (List.all_eq_true.2 hn)])
      · -- c23.f
        refine w_skip (st_bn (st_tn (w_region (zd rfl (op_add' rfl rfl (by omega)) ?_))))
        refine zm rfl (wl_nil ?_)
        refine st_roundQ (x := i) (i + 1) [] rfl (rfl) (.cons rfl (.nil _)) (.cons rfl (.cons rfl (.nil _))) (by
            try dsimp only
            refine ⟨by omega, by rw [take_snoc hx]; intro q hq; rcases List.mem_append.1 hq with hq | hq; (· exact hn q hq); (· simp only [List.mem_singleton] at hq; subst hq; simpa using hc23)⟩) (by
            try dsimp only
            omega)
    · -- c18.f
      refine w_exit (st_te ?_)
      refine st_te ?_
      refine st_be (st_tn (w_seq (w_region (za rfl (wl_nil (st_tn (w_ret (st_ret (vs := [_]) [] Try.results62 ⟨rfl, trivial⟩ rfl ?_))))))))
      refine ⟨_, rfl, ?_⟩
      refine ⟨?_, rfl⟩
      have hdn : s.down = false := by simpa using hc10
      simp only [retv]; unfold readyE
      first | (have hnx : nameB x = false := by simpa using hc23
               have : ¬ ∀ y ∈ l, nameB y = true := fun h => by rw [h x (List.mem_of_getElem? hx)] at hnx; simp at hnx
               simp [hdn, this]; done) | (rw [take_all (by omega)] at hn; rw [if_neg (by simp [hdn]), if_pos (List.all_eq_true.2 hn)])
set_option maxHeartbeats 400000 in
set_option maxRecDepth 100000 in
theorem operate_any {σ : World} {F : List Res} {b m : Nat} (s : St) (hg : DskM.Good s) :
    FnT Try.prog σ F 64 [.pointer (some ⟨b, 0, none⟩)] [(601, cel b (cellD s m) 90)] (fun u ρ => u = .bool (oper s).1 ∧ ρ = [(601, cel b (cellD (oper s).2 m) 90)]) := by
  refine fn_of 23 Try.func64 rfl Try.ntmps64 rfl ?_
  have hlo := hg.lo
  have hhi := hg.hi
  refine w_seq (w_region (za rfl (wl_nil (st_tn (w_seq (w_seq (w_region (zm rfl (zd rfl (op_nilCheck rfl) (zd rfl (op_fieldAddr (off := 3) rfl tF90_3a) (zd rfl (op_load1 rfl tO4a (Ent.lab (l := 601) rfl (says_cel 3))) (zd rfl (op_not rfl) (wl_nil ?_)))))))))))))
  refine st_tn (w_cond rfl (fun hc7 => ?_) (fun hc7 => ?_))
  · -- c7.t
    refine w_seq (w_region (za rfl (wl_nil (st_tn (w_ret (st_tr (st_ret (vs := [_]) [601] Try.results64 ⟨rfl, trivial⟩ rfl ?_)))))))
    refine ⟨[(601, _)], rfl, ?_⟩
    have : s.lim = false := by simpa using hc7
    have h : oper s = (true, s) := by simp [oper, this]
    rw [h]; exact ⟨rfl, rfl⟩
  · -- c7.f
    refine w_skip (st_tn (w_seq (w_seq (w_region (zm rfl (zd rfl (op_nilCheck rfl) (zd rfl (op_fieldAddr (off := 4) rfl tF90_4a) (zd rfl (op_load1 rfl tO3a (Ent.lab (l := 601) rfl (says_cel 4))) (zd rfl (op_leq rfl rfl) (wl_nil (st_tn (w_cond_d rfl (fun hc12 => ?_) (fun hc12 => ?_)))))))))))))
    · -- c12.t
      refine w_seq (w_region (zm rfl (zd rfl (op_nilCheck rfl) (zd rfl (op_fieldAddr (off := 2) rfl tF90_2a) (wl_op0 [601] rfl rfl rfl (op_store rfl rfl tZ4a (by rfl) (by rfl) (by exact Nat.le_of_ble_eq_true rfl)) ?_)))))
      rintro _ _ ⟨rfl, rfl⟩
      refine wl_nil (st_tn (w_seq (w_region (za rfl (wl_nil (st_tn (w_ret (st_tr (st_ret (vs := [_]) [601] Try.results64 ⟨rfl, trivial⟩ rfl ?_)))))))))
      refine ⟨[(601, _)], rfl, ?_⟩
      have : s.lim = true := by simpa using hc7
      have h : oper s = (false, { s with down := true }) := by simp [oper, this, hc12]
      rw [h]; exact ⟨rfl, rfl⟩
    · -- c12.f
      refine w_skip (st_tn (w_seq (w_region (zm rfl (zd rfl (op_nilCheck rfl) (zd rfl (op_fieldAddr (off := 4) rfl tF90_4a) (zd rfl (op_load1 rfl tO3a (Ent.lab (l := 601) rfl (says_cel 4))) (zd rfl (op_sub' rfl rfl (by omega)) ?_))))))))
      refine zd rfl (op_nilCheck rfl) (zd rfl (op_fieldAddr (off := 4) rfl tF90_4a) (wl_op0 [601] rfl rfl rfl (op_store rfl rfl tZ3a (by rfl) (by rfl) (by exact Nat.le_of_ble_eq_true rfl)) ?_))
      rintro _ _ ⟨rfl, rfl⟩
      refine wl_nil (st_tn (w_seq (w_region (za rfl (wl_nil (st_tn (w_ret (st_ret (vs := [_]) [601] Try.results64 ⟨rfl, trivial⟩ rfl ?_))))))))
      refine ⟨[(601, _)], rfl, ?_⟩
      have : s.lim = true := by simpa using hc7
      have h : oper s = (true, { s with left := s.left - 1 }) := by simp [oper, this, hc12]
      rw [h]; exact ⟨rfl, rfl⟩
end Go.Proofs.Ytcbigmgakdanjaa
namespace Go.Proofs.Ytcbigmgakdanjaa
open Go Go.SL Go.RowKit Go.DskM
set_option linter.unusedVariables false
set_option linter.unusedSimpArgs false
theorem tA93b : aggB Try.prog 93 3 = true := by kernel_rfl
theorem tB93b : placesB Try.prog 93 = some ([(0, 1), (1, 1), (2, 1)], [Value.string .empty, Value.int .i64 0, Value.bool false]) := by kernel_rfl
theorem tF90_1b : fieldB Try.prog 90 1 1 = true := by kernel_rfl
theorem tF93_0b : fieldB Try.prog 93 0 0 = true := by kernel_rfl
theorem tL35_1b : zerosB Try.prog 35 9 1 1 = some [Value.string .empty] := by kernel_rfl
theorem tN93b : (Try.prog.info? 93).bind (·.zero) = some (Value.agg #[Value.string .empty, Value.int .i64 0, Value.bool false]) := by kernel_rfl
theorem tO88b : oneB Try.prog 88 = true := by kernel_rfl
theorem tO9b : oneB Try.prog 9 = true := by kernel_rfl
theorem tQ88b : mapB Try.prog 88 9 93 KL.desc := ⟨Try.underlying88, Try.underlying9⟩
theorem tZ93b : (Try.prog.info? 93).map (·.size) = some 3 := by kernel_rfl
theorem Sl.nilv {σ : World} {F : List Res} {α : Type} {enc : α → List Value} {k : Nat} : Sl σ F enc k (.slice none 0 0) ([] : List α) := ⟨fun w hw => ⟨by simp, by simp, .inl ⟨_, _, rfl, rfl⟩⟩, by simp [maxLen]⟩
def keysOf (fs : Files) : List Bs := fs.map Prod.fst
theorem sortsS_in (m : Nat) : AnyZ.SortsIn Try.prog Try.sorted60_ren Fence.wide m :=
  ⟨fun blk off cap ss W hH hblk hsz => callsIn_wide.2 (Try.slices_Sort_string blk off cap ss W hH hblk hsz), fun p cap W => callsIn_wide.2 (Try.slices_Sort_string_none p cap W)⟩
theorem flat_T (l : List Bs) : (l.map encT).flatten = l.map encStr := flat_one (enc0 := encStr) (enc := encT) (fun _ => rfl) l
theorem sort_inc {l : List Bs} {fs : Files} (h : l.Perm (keysOf fs)) (hi : DskM.Inc fs) : l.mergeSort (fun x y => decide (x ≤ y)) = keysOf fs := by
  have tr : ∀ a b c : Bs, decide (a ≤ b) = true → decide (b ≤ c) = true → decide (a ≤ c) = true := fun a b c h1 h2 => by simp only [decide_eq_true_eq] at *; exact List.le_trans h1 h2
  have to : ∀ a b : Bs, (decide (a ≤ b) || decide (b ≤ a)) = true := fun a b => by simp only [Bool.or_eq_true, decide_eq_true_eq]; exact List.le_total a b
  refine List.Perm.eq_of_pairwise (le := fun a b => decide (a ≤ b) = true) (fun a b _ _ h1 h2 => ?_) (List.pairwise_mergeSort tr to l) ?_ ((List.mergeSort_perm l _).trans h)
  · simp only [decide_eq_true_eq] at h1 h2; exact List.le_antisymm h1 h2
  · exact (DskM.Inc.keys hi).imp fun h => decide_eq_true (List.not_lt.1 (lt_asymm h))
theorem gives_files {σ : World} {F : List Res} {b bb : Nat} {l : Files} (hb : Ent σ F (At ⟨bb, 0, none⟩ [.map (some b)])) (hm : Mr σ F KL encF (.map (some b)) l) (hk : ∀ p ∈ l, p.1.length ≤ maxLen) (hl : l.length ≤ 256) {w : World} (ho : SL.Own σ F w) (n : Nat) (hn : 1 ≤ n) :
    ∃ D : DataW Unit, Maps.size D = l.length ∧ (strKeys D).Perm (l.map Prod.fst) ∧ SeqGives Fence.wide n Try.prog 79 #[.pointer (some ⟨bb, 0, none⟩)] encStr (fun ss => ss.Perm (strKeys D)) (Maps.size D) w := by
  obtain ⟨b', o', e, hr⟩ := hb w ho
  cases e
  have hcell := hr 0 (.map (some b)) rfl
  rcases hm w ho with ⟨h1, _⟩ | ⟨b2, bs, clock, h1, h2, h3⟩
  · cases h1
  · cases h1
    obtain ⟨D, h4, h5, h6⟩ := ownsS_of Try.underlying9 h2 h3 hk (by unfold maxLen; omega)
    exact ⟨D, h5, h6, AnyZ.keys_gives (ρ := Try.keys61_ren) { Try.keys61 with } Fence.wide n trivial rfl hn bb b l.length D w (cell_lt hcell) hcell h4⟩
theorem sortedK {σ : World} {F : List Res} {b bb : Nat} {l fs : Files} (lab : Nat) (hb : Ent σ F (At ⟨bb, 0, none⟩ [.map (some b)])) (hm : Mr σ F KL encF (.map (some b)) l) (hp : l.Perm fs) (hi : DskM.Inc fs) (hk : ∀ p ∈ fs, p.1.length ≤ maxLen) (hl : fs.length ≤ 256) :
    FnT Try.prog σ F 60 [.func (.func 79) #[] #[.pointer (some ⟨bb, 0, none⟩)]] [] (fun u ρ => ∃ a c, u = .slice a (keysOf fs).length c ∧ ρ = [(lab, slW 9 encT 1 (.slice a (keysOf fs).length c) (keysOf fs))]) := by
  intro w ho
  have ho' : SL.Own σ F w := ho
  obtain ⟨D, h1, h2, hseq⟩ := gives_files hb hm (fun p h => hk p (hp.mem_iff.1 h)) (by rw [hp.length_eq]; exact hl) ho' 2 (by omega)
  have hll := hp.length_eq
  refine ((callsIn_wide (n := 5)).1 (AnyZ.sorted_in Try.sorted60 Fence.wide 5 trivial trivial trivial trivial rfl (by omega) (sortsS_in _) (enters_of Try.func78 (by kernel_rfl) rfl) 79 #[.pointer (some ⟨bb, 0, none⟩)] trivial (enters_of Try.func79 (by kernel_rfl) rfl) _ _ (by rw [h1]; unfold maxLen; omega) (by rw [h1]; omega) w hseq)).mono ?_
  rintro e W' ⟨u, ss, rfl, hS, hrow, _, hbel⟩
  have hsort := sort_inc ((hS.trans h2).trans (hp.map Prod.fst)) hi
  have hlen : ss.length = (keysOf fs).length := by rw [((hS.trans h2).trans (hp.map Prod.fst)).length_eq]; rfl
  rw [hsort, hlen, ← flat_T] at hrow
  obtain ⟨a, c, rfl, hown⟩ := own_row ho' hbel hrow (fun _ => rfl) (by rw [keysOf, List.length_map]; unfold maxLen; omega)
  exact ⟨_, _, rfl, ⟨a, c, rfl, rfl⟩, hown⟩
set_option maxHeartbeats 400000 in
set_option maxRecDepth 100000 in
theorem keys_any {σ : World} {F : List Res} {m : Nat} (lab : Nat) :
    FnT Try.prog σ F 61 [.map (some m)] [] (fun u ρ => ∃ bb, u = .func (.func 79) #[] #[.pointer (some ⟨bb, 0, none⟩)] ∧ ρ = [(lab, cel bb [.map (some m)] 88)]) := by
  refine fn_of 4 Try.func61 rfl Try.ntmps61 rfl ?_
  refine w_seq (w_region (wl_op [] rfl rfl rfl rfl (op_box (T := 88) (l := 1) rfl) ?_))
  rintro _ _ ⟨b1, rfl, rfl⟩
  refine za rfl (wl_nil (st_tn (w_seq (w_region (zd rfl (op_makeFunc rfl rfl) (za rfl (wl_nil (st_tn (w_ret (st_ret (vs := [_]) [1] Try.results61 ⟨rfl, trivial⟩ rfl ?_))))))))))
  refine ⟨[(lab, _)], rfl, ?_⟩
  exact ⟨_, rfl, rfl⟩
theorem name_len {s : St} (hg : DskM.Good s) : ∀ p ∈ s.fs, p.1.length ≤ maxLen := fun p hp => by
  have := hg.nam p hp
  rw [nameB_iff] at this
  have := (of_decide_eq_true this).2.1
  unfold maxLen; omega
theorem look_fs {s : St} {l : Files} (hg : DskM.Good s) (hp : l.Perm s.fs) (k : Bs) : lookK KL l k = find s.fs k := look_perm hp ((hp.map Prod.fst).nodup_iff.2 hg.inc.nod) k
theorem len_fs {s : St} {l : Files} (hg : DskM.Good s) (hp : l.Perm s.fs) : l.length ≤ 256 := by rw [hp.length_eq]; exact hg.cnt
set_option maxHeartbeats 400000 in
set_option maxRecDepth 100000 in
theorem used_any {σ : World} {F : List Res} {b m : Nat} {s : St} {l : Files} {bs : List Nat} {ck : Nat} (hg : DskM.Good s) (hp : l.Perm s.fs) (hd : Ent σ F (At ⟨b, 0, none⟩ (cellD s m))) (hm : Me σ F KL encF m l bs ck) :
    FnT Try.prog σ F 63 [.pointer (some ⟨b, 0, none⟩)] [] (fun u ρ => u = .int .i64 (if s.down = true then 0 else (used s.fs : Int)) ∧ ρ = []) := by
  refine fn_of 24 Try.func63 rfl Try.ntmps63 rfl ?_
  have hlen := len_fs hg hp
  have huse := hg.use
  have hcap := hg.cap
  have hul := used_perm hp
  refine w_seq (w_region (za rfl (wl_nil (st_tn (w_seq (w_seq (w_region (zm rfl (zd rfl (op_fn Try.func62 rfl rfl rfl (ready_any (s := s) (m := m) (l := []) (Ent.app hd _) Sl.nilv (by simp))) ?_)))))))))
  refine zd rfl (op_neq rfl rfl) (wl_nil (st_tn (w_cond_d rfl (fun hc8 => ?_) (fun hc8 => ?_))))
  · -- c8.t
    have hdn : s.down = true := by
      unfold readyE at hc8
      by_cases h : s.down = true
      · exact h
      · simp [h] at hc8
    refine w_seq (w_region (za rfl (wl_nil (st_tn (w_ret (st_tr (st_ret (vs := [_]) [] Try.results63 ⟨rfl, trivial⟩ rfl ?_)))))))
    refine ⟨_, rfl, ?_⟩
    exact ⟨by simp [retv, hdn], rfl⟩
  · -- c8.f
    have hdn : s.down = false := by
      unfold readyE at hc8
      by_cases h : s.down = true
      · simp [h] at hc8
      · simpa using h
    refine w_skip (st_tn (w_seq (w_region (za rfl (wl_nil (st_tn (w_seq (w_seq (w_region (zm rfl (zd rfl (op_nilCheck rfl) (zd rfl (op_fieldAddr (off := 1) rfl tF90_1b) (zd rfl (op_load1 rfl tO88b (Ent.app (Ent.fld hd 1) _)) ?_)))))))))))))
    refine wl_op [] rfl rfl rfl rfl (op_range (kt := KL) (encV := encF) (lab := 13) rfl tQ88b (Ent.app hm _)) ?_
    rintro _ _ ⟨r13, rfl, rfl⟩
    refine wl_nil (st_tn (w_block ?_))
    refine w_loopQ (X := List (Bs × Fl) × List (Bs × Fl) × Nat) (fun z => (z.1 ++ z.2.1).Perm l ∧ z.2.2 = used z.1) (fun z => [(3, .int .i64 (z.2.2))]) (fun z => [(13, itR r13 m l bs ck (z.1) (z.2.1))]) (fun z => z.2.1.length) (([], l, 0)) [(13, _)] [] [13] rfl (rfl) (.cons rfl (.nil _)) (.cons rfl (.nil _)) (by
        try dsimp only
        exact ⟨List.Perm.refl _, rfl⟩) ?_
    rintro ⟨dn_it, td_it, n⟩ ⟨hperm, hn⟩
    refine w_norm2 (by dsimp only [List.cons_append, List.nil_append]) (by dsimp only [List.cons_append, List.nil_append]) ?_
    try dsimp only at hperm hn ⊢
    refine w_seq (w_region (wl_op [13] rfl rfl rfl rfl (op_next (kt := KL) (encV := encF) (lab := 13) rfl (Ent.app hm _)) ?_))
    rintro _ _ ⟨o14, dn14, td14, rfl, rfl, hn14⟩
    refine zd rfl (op_nextOk rfl) (wl_nil (st_tn (w_seq (w_cond rfl (fun hc15 => ?_) (fun hc15 => ?_)))))
    · -- c15.t
      obtain ⟨p, hpe⟩ := Option.isSome_iff_exists.1 hc15
      subst hpe
      obtain ⟨hdn14, hpt⟩ : dn14 = p :: dn_it ∧ td_it.Perm (p :: td14) := hn14
      subst hdn14
      have hu2 := used_perm (perm_next hperm hpt)
      have hu3 : used ((p :: dn_it) ++ td14) = p.2.data.length + used dn_it + used td14 := by simp [used, Nat.add_assoc]
      refine w_skip (st_tn (w_block (w_seq (w_region (zd rfl (op_entry (kt := KL) (encV := encF) rfl (Ent.app hm _) (It.lab 13 rfl)) (zd rfl (op_extract rfl rfl) (wl_op [] rfl rfl rfl rfl (op_alloc (l := 5) tN93b) ?_)))))))
      rintro _ _ ⟨b5, rfl, rfl⟩
      refine wl_op0 [5] rfl rfl rfl (op_store rfl rfl tZ93b (by rfl) (by rfl) (by exact Nat.le_of_ble_eq_true rfl)) ?_
      rintro _ _ ⟨rfl, rfl⟩
      refine wl_nil (st_tn (w_region (zm rfl (zd rfl (op_fieldAddr (off := 0) rfl tF93_0b) (zd rfl (op_load1 rfl tO9b (Ent.lab (l := 5) rfl (says_cel 0))) (zd rfl (op_lenBs rfl Try.underlying9) (zd rfl (op_add' rfl rfl (by omega)) ?_)))))))
      refine za rfl (wl_nil (st_bn ?_))
      refine st_roundQ (x := (dn_it, td_it, n)) ((_, _, n + p.2.data.length)) [13] rfl (rfl) (.cons rfl (.nil _)) (.cons rfl (.nil _)) (by
          try dsimp only
          exact ⟨perm_next hperm hpt, by rw [used_cons]; omega⟩) (by
          try dsimp only
          have := hpt.length_eq; simp at this; omega)
    · -- c15.f
      have ho : o14 = none := by simpa using hc15
      subst ho
      obtain ⟨htd, hdn14, htd14⟩ : td_it = [] ∧ dn14 = dn_it ∧ td14 = [] := hn14
      subst htd
      rw [List.append_nil] at hperm
      refine w_exit (st_te ?_)
      refine st_te ?_
      refine st_be (st_tn (w_seq (w_region (zm rfl (za rfl (wl_nil (st_tn (w_ret (st_ret (vs := [_]) [] Try.results63 ⟨rfl, trivial⟩ rfl ?_)))))))))
      refine ⟨_, rfl, ?_⟩
      exact ⟨by rw [used_perm hperm] at hn; simp [retv, hdn, hn, used_perm hp], rfl⟩
def findO (s : St) (n : Bs) : Fl × Int := if readyE s [n] ≠ 0 then (zeroF, readyE s [n]) else match find s.fs n with | none => (zeroF, 10) | some f => (f, 0)
theorem look_val {s : St} {l : Files} {n : Bs} {f : Fl} {z : Value} (h : lookK KL l n = find s.fs n) (hf : find s.fs n = some f) : Value.tuple #[((lookK KL l n).map encF).getD z, .bool (lookK KL l n).isSome] = .tuple #[encF f, .bool true] := by rw [h, hf]; rfl
theorem look_val0 {s : St} {l : Files} {n : Bs} {z : Value} (h : lookK KL l n = find s.fs n) (hf : find s.fs n = none) : Value.tuple #[((lookK KL l n).map encF).getD z, .bool (lookK KL l n).isSome] = .tuple #[z, .bool false] := by rw [h, hf]; rfl
set_option maxHeartbeats 400000 in
set_option maxRecDepth 100000 in
theorem find_any {σ : World} {F : List Res} {b m : Nat} {s : St} {l : Files} (n : Bs) (hg : DskM.Good s) (hp : l.Perm s.fs) (hn : n.length ≤ maxLen) (hd : Ent σ F (At ⟨b, 0, none⟩ (cellD s m))) (hm' : Mr σ F KL encF (.map (some m)) l) :
    FnT Try.prog σ F 76 [.pointer (some ⟨b, 0, none⟩), .string (str n)] [] (fun u ρ => u = .tuple #[encF (findO s n).1, .int .i64 (findO s n).2] ∧ ρ = []) := by
  refine fn_of 30 Try.func76 rfl Try.ntmps76 rfl ?_
  have hlk := look_fs hg hp n
  refine w_seq (w_region (wl_op [] rfl rfl rfl rfl (op_alloc (l := 4) tN93b) ?_))
  rintro _ _ ⟨b4, rfl, rfl⟩
  refine za rfl (wl_nil (st_tn (w_seq (w_seq (w_region (zm rfl (zm rfl (wl_op [] rfl rfl rfl rfl (op_buildSlice (enc := encT) (l := [_]) (lab := 11) tL35_1b rfl rfl (fun _ => rfl) rfl) ?_))))))))
  rintro _ _ ⟨a11, c11, rfl, rfl⟩
  refine zd rfl (op_fn Try.func62 rfl rfl rfl (ready_any (s := s) (m := m) (l := [n]) (Ent.app hd _) (Sl.lab 11 rfl (by simp [maxLen])) (by simpa using hn))) ?_
  refine za rfl (wl_nil (st_tn (w_seq (w_region (zm rfl (zd rfl (op_neq rfl rfl) (wl_nil (st_tn (w_cond_d rfl (fun hc14 => ?_) (fun hc14 => ?_))))))))))
  · -- c14.t
    refine w_seq (w_region (zd rfl (op_build tB93b rfl rfl) (zm rfl (wl_op0 [4] rfl rfl rfl (op_store rfl rfl tZ93b (by rfl) (by rfl) (by exact Nat.le_of_ble_eq_true rfl)) ?_))))
    rintro _ _ ⟨rfl, rfl⟩
    refine za rfl (wl_nil (st_tn (w_ret (st_tr (st_ret (vs := [_, _]) [] Try.results76 ⟨⟨_, rfl, Ent.mono (Ent.lab (l := 4) rfl (says_cel 0)) (fun _ h => run_load_agg tA93b h (Nat.le_of_ble_eq_true rfl))⟩, ⟨rfl, trivial⟩⟩ rfl ?_)))))
    refine ⟨_, rfl, ?_⟩
    have h : findO s n = (zeroF, readyE s [n]) := by unfold findO; rw [if_pos hc14]
    rw [h]; exact ⟨rfl, rfl⟩
  · -- c14.f
    refine w_skip (st_tn (w_seq ?_))
    by_cases hf : (find s.fs n).isSome = true
    · -- hf+
      obtain ⟨f, hff⟩ := Option.isSome_iff_exists.1 hf
      refine w_region (zm rfl (zd rfl (op_nilCheck rfl) (zd rfl (op_fieldAddr (off := 1) rfl tF90_1b) (zd rfl (op_load1 rfl tO88b (Ent.app (Ent.fld hd 1) _)) (zm rfl (zd rfl (op_val (v' := .tuple #[encF f, .bool true]) (by exact look_val hlk hff) (op_lookup2 (kt := KL) (encV := encF) rfl rfl tQ88b tN93b (Ent.app hm' _))) ?_))))))
      refine zm rfl (zd rfl (op_extract rfl rfl) (zd rfl (op_extract rfl rfl) (wl_op [] rfl rfl rfl rfl (op_alloc (l := 7) tN93b) ?_)))
      rintro _ _ ⟨b7, rfl, rfl⟩
      refine wl_op0 [7] rfl rfl rfl (op_store rfl rfl tZ93b (by rfl) (by rfl) (by exact Nat.le_of_ble_eq_true rfl)) ?_
      rintro _ _ ⟨rfl, rfl⟩
      refine za rfl (wl_nil (st_tn (w_seq (w_seq (w_region (zm rfl (zd rfl (op_not_t rfl) (wl_nil (st_tn (w_cond_f (rfl) ?_))))))))))
      refine w_skip (st_tn (w_seq (w_region (zd rfl (op_loadA rfl tA93b (Ent.lab (l := 7) rfl (says_cel 0)) (Nat.le_of_ble_eq_true rfl)) (wl_op0 [4] rfl rfl rfl (op_store rfl rfl tZ93b (by rfl) (by rfl) (by exact Nat.le_of_ble_eq_true rfl)) ?_)))))
      rintro _ _ ⟨rfl, rfl⟩
      refine za rfl (wl_nil (st_tn (w_ret (st_ret (vs := [_, _]) [] Try.results76 ⟨⟨_, rfl, Ent.mono (Ent.lab (l := 4) rfl (says_cel 0)) (fun _ h => run_load_agg tA93b h (Nat.le_of_ble_eq_true rfl))⟩, ⟨rfl, trivial⟩⟩ rfl ?_))))
      refine ⟨_, rfl, ?_⟩
      have h : findO s n = (f, 0) := by unfold findO; rw [if_neg hc14, hff]
      rw [h]; exact ⟨rfl, rfl⟩
    · -- hf-
      have hff : find s.fs n = none := by simpa using hf
      refine w_region (zm rfl (zd rfl (op_nilCheck rfl) (zd rfl (op_fieldAddr (off := 1) rfl tF90_1b) (zd rfl (op_load1 rfl tO88b (Ent.app (Ent.fld hd 1) _)) (zm rfl (zd rfl (op_val (v' := .tuple #[encF zeroF, .bool false]) (by exact look_val0 hlk hff) (op_lookup2 (kt := KL) (encV := encF) rfl rfl tQ88b tN93b (Ent.app hm' _))) ?_))))))
      refine zm rfl (zd rfl (op_extract rfl rfl) (zd rfl (op_extract rfl rfl) (wl_op [] rfl rfl rfl rfl (op_alloc (l := 7) tN93b) ?_)))
      rintro _ _ ⟨b7, rfl, rfl⟩
      refine wl_op0 [7] rfl rfl rfl (op_store rfl rfl tZ93b (by rfl) (by rfl) (by exact Nat.le_of_ble_eq_true rfl)) ?_
      rintro _ _ ⟨rfl, rfl⟩
      refine za rfl (wl_nil (st_tn (w_seq (w_seq (w_region (zm rfl (zd rfl (op_not_f rfl) (wl_nil (st_tn (w_cond_t (rfl) ?_))))))))))
      refine w_seq (w_region (zd rfl (op_build tB93b rfl rfl) (wl_op0 [4] rfl rfl rfl (op_store rfl rfl tZ93b (by rfl) (by rfl) (by exact Nat.le_of_ble_eq_true rfl)) ?_)))
      rintro _ _ ⟨rfl, rfl⟩
      refine za rfl (wl_nil (st_tn (w_ret (st_tr (st_ret (vs := [_, _]) [] Try.results76 ⟨⟨_, rfl, Ent.mono (Ent.lab (l := 4) rfl (says_cel 0)) (fun _ h => run_load_agg tA93b h (Nat.le_of_ble_eq_true rfl))⟩, ⟨rfl, trivial⟩⟩ rfl ?_)))))
      refine ⟨_, rfl, ?_⟩
      have h : findO s n = (zeroF, 10) := by unfold findO; rw [if_neg hc14, hff]
      rw [h]; exact ⟨rfl, rfl⟩
end Go.Proofs.Ytcbigmgakdanjaa
namespace Go.Proofs.Ytcbigmgakdanjaa
open Go Go.SL Go.RowKit Go.DskM
set_option linter.unusedVariables false
set_option linter.unusedSimpArgs false
theorem tF90_1c : fieldB Try.prog 90 1 1 = true := by kernel_rfl
theorem tF90_2c : fieldB Try.prog 90 2 2 = true := by kernel_rfl
theorem tF90_3c : fieldB Try.prog 90 3 3 = true := by kernel_rfl
theorem tF90_4c : fieldB Try.prog 90 4 4 = true := by kernel_rfl
theorem tF93_0c : fieldB Try.prog 93 0 0 = true := by kernel_rfl
theorem tN93c : (Try.prog.info? 93).bind (·.zero) = some (Value.agg #[Value.string .empty, Value.int .i64 0, Value.bool false]) := by kernel_rfl
theorem tO4c : oneB Try.prog 4 = true := by kernel_rfl
theorem tO88c : oneB Try.prog 88 = true := by kernel_rfl
theorem tO9c : oneB Try.prog 9 = true := by kernel_rfl
theorem tZ3c : (Try.prog.info? 3).map (·.size) = some 1 := by kernel_rfl
theorem tZ4c : (Try.prog.info? 4).map (·.size) = some 1 := by kernel_rfl
theorem tZ93c : (Try.prog.info? 93).map (·.size) = some 3 := by kernel_rfl
theorem read_find (s : St) (n : Bs) (d : Bool) : readO s n d = (if d = true then (findO s n).1.data.take (findO s n).1.syn else (findO s n).1.data, (findO s n).2) := by
  unfold readO findO
  split
  · cases d <;> rfl
  · cases find s.fs n <;> cases d <;> rfl
set_option maxHeartbeats 400000 in
set_option maxRecDepth 100000 in
theorem read_any {σ : World} {F : List Res} {b m : Nat} {s : St} {l : Files} (n : Bs) (hg : DskM.Good s) (hp : l.Perm s.fs) (hn : n.length ≤ maxLen) (hd : Ent σ F (At ⟨b, 0, none⟩ (cellD s m))) (hm' : Mr σ F KL encF (.map (some m)) l) :
    FnT Try.prog σ F 71 [.pointer (some ⟨b, 0, none⟩), .string (str n)] [] (fun u ρ => u = .tuple #[.string (str (readO s n false).1), .int .i64 (readO s n false).2] ∧ ρ = []) := by
  refine fn_of 17 Try.func71 rfl Try.ntmps71 rfl ?_
  refine w_seq (w_region (za rfl (za rfl (wl_nil (st_tn (w_seq (w_region (zm rfl (zm rfl (zd rfl (op_fn Try.func76 rfl rfl rfl (find_any n hg hp hn (Ent.app hd _) (Ent.app hm' _))) (zm rfl (zd rfl (op_extract rfl rfl) (zd rfl (op_extract rfl rfl) ?_)))))))))))))
  refine wl_op [] rfl rfl rfl rfl (op_alloc (l := 6) tN93c) ?_
  rintro _ _ ⟨b6, rfl, rfl⟩
  refine wl_op0 [6] rfl rfl rfl (op_store rfl rfl tZ93c (by rfl) (by rfl) (by exact Nat.le_of_ble_eq_true rfl)) ?_
  rintro _ _ ⟨rfl, rfl⟩
  refine za rfl (wl_nil (st_tn (w_seq (w_region (zd rfl (op_fieldAddr (off := 0) rfl tF93_0c) (zd rfl (op_load1 rfl tO9c (Ent.lab (l := 6) rfl (says_cel 0))) (zm rfl (za rfl (za rfl (wl_nil (st_tn (w_ret (st_ret (vs := [_, _]) [] Try.results71 ⟨rfl, ⟨rfl, trivial⟩⟩ rfl ?_)))))))))))))
  refine ⟨_, rfl, ?_⟩
  rw [read_find]; exact ⟨rfl, rfl⟩
set_option maxHeartbeats 400000 in
set_option maxRecDepth 100000 in
theorem down_any {σ : World} {F : List Res} {b m : Nat} (s : St) (hd : Ent σ F (At ⟨b, 0, none⟩ (cellD s m))) :
    FnT Try.prog σ F 37 [.pointer (some ⟨b, 0, none⟩)] [] (fun u ρ => u = .bool s.down ∧ ρ = []) := by
  refine fn_of 11 Try.func37 rfl Try.ntmps37 rfl ?_
  refine w_seq (w_region (za rfl (wl_nil (st_tn (w_seq (w_region (zm rfl (zd rfl (op_val (v' := .bool true) (by simp) (op_nePtr rfl Try.underlying22)) ?_))))))))
  refine zm rfl (wl_wanted_det rfl rfl rfl rfl rfl rfl rfl (op_move rfl) (wl_wanted_det rfl rfl rfl rfl rfl rfl rfl (op_nilCheck rfl) (wl_wanted_det rfl rfl rfl rfl rfl rfl rfl (op_fieldAddr (off := 2) rfl tF90_2c) (wl_wanted_det rfl rfl rfl rfl rfl rfl rfl (op_load1 rfl tO4c (Ent.app (Ent.fld hd 2) _)) (zd rfl (op_pick_t rfl rfl) (za rfl (wl_nil (st_tn (w_ret (st_ret (vs := [_]) [] Try.results37 ⟨rfl, trivial⟩ rfl ?_))))))))))
  refine ⟨_, rfl, ?_⟩
  exact ⟨rfl, rfl⟩
set_option maxHeartbeats 400000 in
set_option maxRecDepth 100000 in
theorem limit_any {σ : World} {F : List Res} {b m : Nat} (s : St) (k : Int) :
    FnT Try.prog σ F 36 [.pointer (some ⟨b, 0, none⟩), .int .i64 k] [(601, cel b (cellD s m) 90)] (fun u ρ => u = .tuple #[] ∧ ρ = [(601, cel b (cellD (limO s k) m) 90)]) := by
  refine fn_of 14 Try.func36 rfl Try.ntmps36 rfl ?_
  refine w_seq (w_region (zm rfl (zd rfl (op_val (v' := .bool true) (by simp) (op_nePtr rfl Try.underlying22)) ?_)))
  refine wl_nil (st_tn (w_cond_t (rfl) ?_))
  refine w_region (zm rfl (zm rfl (zm rfl (zd rfl (op_max rfl rfl) (zd rfl (op_nilCheck rfl) (zd rfl (op_fieldAddr (off := 3) rfl tF90_3c) (wl_op0 [601] rfl rfl rfl (op_store rfl rfl tZ4c (by rfl) (by rfl) (by exact Nat.le_of_ble_eq_true rfl)) ?_)))))))
  rintro _ _ ⟨rfl, rfl⟩
  refine zd rfl (op_nilCheck rfl) (zd rfl (op_fieldAddr (off := 4) rfl tF90_4c) (wl_op0 [601] rfl rfl rfl (op_store rfl rfl tZ3c (by rfl) (by rfl) (by exact Nat.le_of_ble_eq_true rfl)) ?_))
  rintro _ _ ⟨rfl, rfl⟩
  refine wl_nil (st_end (vs := []) [601] Try.results36 trivial rfl ?_)
  refine ⟨[(601, _)], rfl, ?_⟩
  exact ⟨rfl, rfl⟩
def listO (s : St) : List Bs := if s.down = true then [] else keysOf s.fs
theorem ready_nil (s : St) : readyE s [] = if s.down = true then 27 else 0 := by unfold readyE; simp
set_option maxHeartbeats 400000 in
set_option maxRecDepth 100000 in
theorem list_any {σ : World} {F : List Res} {b m : Nat} {s : St} {l : Files} (lab : Nat) (hg : DskM.Good s) (hp : l.Perm s.fs) (hd : Ent σ F (At ⟨b, 0, none⟩ (cellD s m))) (hm' : Mr σ F KL encF (.map (some m)) l) :
    FnT Try.prog σ F 51 [.pointer (some ⟨b, 0, none⟩)] [] (fun u ρ => ∃ a c, u = .slice a (listO s).length c ∧ ρ = [(lab, slW 9 encT 1 (.slice a (listO s).length c) (listO s))]) := by
  refine fn_of 12 Try.func51 rfl Try.ntmps51 rfl ?_
  refine w_seq (w_region (za rfl (wl_nil (st_tn (w_seq (w_seq (w_region (zm rfl (zd rfl (op_fn Try.func62 rfl rfl rfl (ready_any (s := s) (m := m) (l := []) (Ent.app hd _) Sl.nilv (by simp))) ?_)))))))))
  refine zd rfl (op_neq rfl rfl) (wl_nil (st_tn (w_cond_d rfl (fun hc5 => ?_) (fun hc5 => ?_))))
  · -- c5.t
    have hdn : listO s = [] := by
      rw [ready_nil] at hc5
      unfold listO
      by_cases h : s.down = true <;> simp [h] at hc5 ⊢
    refine w_seq (w_region (za rfl (wl_nil (st_tn (w_emp 12 (slO_nil 9 1) ?_)))))
    refine w_ret (st_tr (st_ret (vs := [_]) [12] Try.results51 ⟨rfl, trivial⟩ rfl ?_))
    refine ⟨[(lab, _)], rfl, ?_⟩
    rw [hdn]; exact ⟨_, _, rfl, rfl⟩
  · -- c5.f
    have hdn : listO s = keysOf s.fs := by
      rw [ready_nil] at hc5
      unfold listO
      by_cases h : s.down = true <;> simp [h] at hc5 ⊢
    refine w_skip (st_tn (w_seq (w_region (zm rfl (zd rfl (op_nilCheck rfl) (zd rfl (op_fieldAddr (off := 1) rfl tF90_1c) (zd rfl (op_load1 rfl tO88c (Ent.app (Ent.fld hd 1) _)) (wl_op [] rfl rfl rfl rfl (op_fn Try.func61 rfl rfl rfl (keys_any 10)) ?_))))))))
    rintro _ _ ⟨b10, rfl, rfl⟩
    refine wl_op [] rfl rfl rfl rfl (op_fn Try.func60 rfl rfl rfl (sortedK 11 (Ent.lab (l := 10) rfl (says_cel 0)) (Ent.app hm' _) hp hg.inc (name_len hg) hg.cnt)) ?_
    rintro _ _ ⟨a11, c11, rfl, rfl⟩
    refine za rfl (wl_nil (st_tn (w_ret (st_ret (vs := [_]) [11] Try.results51 ⟨rfl, trivial⟩ rfl ?_))))
    refine ⟨[(lab, _)], rfl, ?_⟩
    rw [hdn]; exact ⟨_, _, rfl, rfl⟩
end Go.Proofs.Ytcbigmgakdanjaa
namespace Go.Proofs.Ytcbigmgakdanjaa
open Go Go.SL Go.RowKit Go.DskM
set_option linter.unusedVariables false
set_option linter.unusedSimpArgs false
theorem tA93d : aggB Try.prog 93 3 = true := by kernel_rfl
theorem tF90_0d : fieldB Try.prog 90 0 0 = true := by kernel_rfl
theorem tF90_1d : fieldB Try.prog 90 1 1 = true := by kernel_rfl
theorem tF93_0d : fieldB Try.prog 93 0 0 = true := by kernel_rfl
theorem tF93_1d : fieldB Try.prog 93 1 1 = true := by kernel_rfl
theorem tF93_2d : fieldB Try.prog 93 2 2 = true := by kernel_rfl
theorem tL35_1d : zerosB Try.prog 35 9 1 1 = some [Value.string .empty] := by kernel_rfl
theorem tMixd : Try.prog.follows .mixedOrders = true := by kernel_rfl
theorem tN93d : (Try.prog.info? 93).bind (·.zero) = some (Value.agg #[Value.string .empty, Value.int .i64 0, Value.bool false]) := by kernel_rfl
theorem tO3d : oneB Try.prog 3 = true := by kernel_rfl
theorem tO88d : oneB Try.prog 88 = true := by kernel_rfl
theorem tO9d : oneB Try.prog 9 = true := by kernel_rfl
theorem tQ88d : mapB Try.prog 88 9 93 KL.desc := ⟨Try.underlying88, Try.underlying9⟩
theorem tZ3d : (Try.prog.info? 3).map (·.size) = some 1 := by kernel_rfl
theorem tZ4d : (Try.prog.info? 4).map (·.size) = some 1 := by kernel_rfl
theorem tZ9d : (Try.prog.info? 9).map (·.size) = some 1 := by kernel_rfl
theorem tZ93d : (Try.prog.info? 93).map (·.size) = some 3 := by kernel_rfl
theorem le_used {fs : Files} {p : Bs × Fl} (h : p ∈ fs) : p.2.data.length ≤ used fs := by
  induction fs with
  | nil => simp at h
  | cons q l ih =>
    rw [used_cons]
    rcases List.mem_cons.1 h with rfl | h
    · omega
    · have := ih h; omega
theorem app_ready {s : St} {n d : Bs} (h : readyE s [n] ≠ 0) : appO s n d = (readyE s [n], s) := by unfold appO; rw [if_pos h]
theorem app_limit {s : St} {n d : Bs} (h : ¬ readyE s [n] ≠ 0) (h2 : find s.fs n = none) (h3 : 256 ≤ s.fs.length) : appO s n d = (6, s) := by unfold appO; rw [if_neg h, if_pos ⟨h2, h3⟩]
theorem app_full {s : St} {n d : Bs} (h : ¬ readyE s [n] ≠ 0) (h2 : ¬ (find s.fs n = none ∧ 256 ≤ s.fs.length)) (h3 : s.cap < used s.fs + d.length) : appO s n d = (28, s) := by unfold appO; rw [if_neg h, if_neg h2, if_pos h3]
theorem app_done {s : St} {n d : Bs} (h : ¬ readyE s [n] ≠ 0) (h2 : ¬ (find s.fs n = none ∧ 256 ≤ s.fs.length)) (h3 : ¬ s.cap < used s.fs + d.length) : appO s n d = (if (oper (grown s n d)).1 = true then 0 else 27, (oper (grown s n d)).2) := by
  unfold appO; rw [if_neg h, if_neg h2, if_neg h3]; split <;> rfl
theorem oper_perm {s : St} {l : Files} (h : l.Perm s.fs) : l.Perm (oper s).2.fs := by rw [(oper_fs s).1]; exact h
theorem grown_perm {s : St} {l : Files} {n d : Bs} {f : Fl} (hg : DskM.Good s) (h : l.Perm s.fs) (hf : (find s.fs n).getD zeroF = f) : (setK KL l n ⟨f.data ++ d, f.syn, f.dur⟩).Perm (oper (grown s n d)).2.fs := by
  refine oper_perm ?_
  subst hf
  exact set_perm h hg.inc n _
set_option maxHeartbeats 1000000 in
set_option maxRecDepth 100000 in
theorem append_any {σ : World} {F : List Res} {b m : Nat} {s : St} {l : Files} (n d : Bs) (hg : DskM.Good s) (hp : l.Perm s.fs) (hn : n.length ≤ maxLen) (hdl : d.length ≤ 1099511627776) :
    FnT Try.prog σ F 44 [.pointer (some ⟨b, 0, none⟩), .string (str n), .string (str d)] [(601, cel b (cellD s m) 90), (602, mp KL encF m l)] (fun u ρ => ∃ l', l'.Perm (appO s n d).2.fs ∧ u = .int .i64 (appO s n d).1 ∧ ρ = [(601, cel b (cellD (appO s n d).2 m) 90), (602, mp KL encF m l')]) := by
  refine fn_of 62 Try.func44 rfl Try.ntmps44 rfl ?_
  have hlk := look_fs hg hp n
  have huse := hg.use
  have hcap := hg.cap
  have hll := hp.length_eq
  refine w_seq (w_region (za rfl (wl_nil (st_tn (w_seq (w_seq (w_region (zm rfl (zm rfl (wl_op [] rfl rfl rfl rfl (op_buildSlice (enc := encT) (l := [_]) (lab := 12) tL35_1d rfl rfl (fun _ => rfl) rfl) ?_))))))))))
  rintro _ _ ⟨a12, c12, rfl, rfl⟩
  refine zd rfl (op_fn Try.func62 rfl rfl rfl (ready_any (s := s) (m := m) (l := [n]) (celD 601 rfl) (Sl.lab 12 rfl (by simp [maxLen])) (by simpa using hn))) ?_
  refine za rfl (wl_nil (st_tn (w_seq (w_region (zm rfl (zd rfl (op_neq rfl rfl) (wl_nil (st_tn (w_cond_d rfl (fun hc15 => ?_) (fun hc15 => ?_))))))))))
  · -- c15.t
    refine w_seq (w_region (zm rfl (za rfl (wl_nil (st_tn (w_ret (st_tr (st_ret (vs := [_]) [601, 602] Try.results44 ⟨rfl, trivial⟩ rfl ?_))))))))
    refine ⟨[(601, _), (602, _)], rfl, ?_⟩
    rw [app_ready hc15]; exact ⟨l, hp, rfl, rfl⟩
  · -- c15.f
    have hdn := (ready0 hc15).1
    refine w_skip (st_tn (w_seq ?_))
    by_cases hf : (find s.fs n).isSome = true
    · -- hf+
      obtain ⟨f, hff⟩ := Option.isSome_iff_exists.1 hf
      have hfl : f.data.length ≤ used s.fs := le_used (find_mem hff)
      have hfd : (find s.fs n).getD zeroF = f := by rw [hff]; rfl
      have hno : ¬ (find s.fs n = none ∧ 256 ≤ s.fs.length) := fun h => by rw [hff] at h; simp at h
      refine w_region (zm rfl (zd rfl (op_nilCheck rfl) (zd rfl (op_fieldAddr (off := 1) rfl tF90_1d) (zd rfl (op_load1 rfl tO88d (Ent.lab (l := 601) rfl (says_cel 1))) (zm rfl (zd rfl (op_val (v' := .tuple #[encF f, .bool true]) (by exact look_val hlk hff) (op_lookup2 (kt := KL) (encV := encF) rfl rfl tQ88d tN93d (Mr.lab 602 rfl))) ?_))))))
      refine zm rfl (zd rfl (op_extract rfl rfl) (zd rfl (op_extract rfl rfl) (wl_op [] rfl rfl rfl rfl (op_alloc (l := 8) tN93d) ?_)))
      rintro _ _ ⟨b8, rfl, rfl⟩
      refine wl_op0 [8] rfl rfl rfl (op_store rfl rfl tZ93d (by rfl) (by rfl) (by exact Nat.le_of_ble_eq_true rfl)) ?_
      rintro _ _ ⟨rfl, rfl⟩
      refine za rfl (wl_nil (st_tn (w_seq (w_block (w_seq (w_region (zm rfl (zd rfl (op_not_t rfl) (zm rfl (wl_unwanted rfl rfl rfl rfl rfl rfl rfl rfl (wl_unwanted rfl rfl rfl rfl rfl rfl rfl rfl (wl_unwanted rfl rfl rfl rfl rfl rfl rfl rfl (wl_unwanted rfl rfl rfl rfl rfl rfl rfl rfl ?_)))))))))))))
      refine wl_unwanted rfl rfl rfl rfl rfl rfl rfl rfl (wl_unwanted rfl rfl rfl rfl rfl rfl rfl rfl (zd rfl (op_pick_f rfl rfl) (za rfl (wl_nil (st_tn (w_cond_f (rfl) ?_))))))
      refine w_seq (w_openM 602 rfl (fun bs ck hwf => ?_))
      refine w_drawW (fun β => [⟨38, [], [], [], noW (_), false, [], []⟩, ⟨39, [0], [], [], noW (_), false, [], []⟩, ⟨40, [], [], [], noW (_), false, [], []⟩, ⟨41, [2], [], [], noW (_), false, [], []⟩, ⟨42, [1, 3], [], [], noW (_), false, [], []⟩, ⟨43, [], [], [], noW (_), false, [], []⟩, ⟨44, [5], [], [], noW (_), false, [], []⟩, ⟨45, [6], [], [], noW (_), false, [], []⟩, ⟨46, [7], [], [], noW (_), false, [], []⟩]) [] [0, 2] [⟨38, [], [], false, [], []⟩, ⟨39, [0], [], false, [], []⟩, ⟨40, [], [], false, [], []⟩, ⟨41, [2], [], false, [], []⟩, ⟨42, [1, 3], [], false, [], []⟩, ⟨43, [], [], false, [], []⟩, ⟨44, [5], [], false, [], []⟩, ⟨45, [6], [], false, [], []⟩, ⟨46, [7], [], false, [], []⟩] [[], [], [], [], [], [], [], [], []] [[], [], [], [], [], [], [], [], []] tMixd (fun _ => by rfl) (fun _ => by rfl) (by kernel_rfl) (by kernel_rfl) (by rfl) (by rfl)
          (fun β => ⟨.p rfl (by intro X; exact op_move rfl),
          ⟨.p rfl (by intro X; rintro _ _ ⟨rfl, rfl⟩; exact op_val (v' := .int .i64 (used s.fs : Int)) (by rw [hdn]; rfl) (op_fn Try.func63 rfl rfl rfl (used_any (s := s) (bs := bs) (ck := ck) hg hp (Ent.lab (l := 601) rfl (says_cel 0)) (Me.lab 602 rfl)))),
          ⟨.p rfl (by intro X; exact op_move rfl),
          ⟨.p rfl (by intro X; rintro _ _ ⟨rfl, rfl⟩; exact op_lenBs rfl Try.underlying9),
          ⟨.p rfl (by intro X; rintro _ _ ⟨rfl, rfl⟩ _ _ ⟨rfl, rfl⟩; exact op_add' rfl rfl (by omega)),
          ⟨.p rfl (by intro X; exact op_move rfl),
          ⟨.p rfl (by intro X; rintro _ _ ⟨rfl, rfl⟩; exact op_nilCheck rfl),
          ⟨.p rfl (by intro X; rintro _ _ ⟨rfl, rfl⟩; exact op_fieldAddr (off := 0) rfl tF90_0d),
          ⟨.p rfl (by intro X; rintro _ _ ⟨rfl, rfl⟩; exact op_load1 rfl tO3d (Ent.lab (l := 601) rfl (says_cel 0))),
          trivial⟩⟩⟩⟩⟩⟩⟩⟩⟩)
          (fun β β' => ⟨fun _ => by rfl, ⟨fun _ => by rfl, ⟨fun _ => by rfl, ⟨fun _ => by rfl, ⟨fun _ => by rfl, ⟨fun _ => by rfl, ⟨fun _ => by rfl, ⟨fun _ => by rfl, ⟨fun _ => by rfl, trivial⟩⟩⟩⟩⟩⟩⟩⟩⟩) ?_
      intro β
      rintro _ _ ⟨rfl, rfl⟩ _ _ ⟨rfl, rfl⟩ _ _ ⟨rfl, rfl⟩ _ _ ⟨rfl, rfl⟩ _ _ ⟨rfl, rfl⟩ _ _ ⟨rfl, rfl⟩ _ _ ⟨rfl, rfl⟩ _ _ ⟨rfl, rfl⟩ _ _ ⟨rfl, rfl⟩
      refine wl_norm (e' := [(0, _), (1, _), (2, _), (8, _), (42, _), (46, _)]) (.cons rfl (.cons rfl (.cons rfl (.cons rfl (.cons rfl (.cons rfl (.nil _))))))) (by dsimp only [cond_false, cond_true, List.nil_append, List.cons_append]) ?_
      refine zd rfl (op_gtr rfl rfl) (za rfl (wl_nil (st_tn (w_cond_d rfl (fun hc37 => ?_) (fun hc37 => ?_)))))
      · -- c37.t
        refine w_seq (w_wk 602 (mp KL encF m l) rfl mpE_mp ?_)
        refine w_region (za rfl (wl_nil (st_tn (w_ret (st_br (st_tr (st_ret (vs := [_]) [601, 602] Try.results44 ⟨rfl, trivial⟩ rfl ?_)))))))
        refine ⟨[(601, _), (602, _)], rfl, ?_⟩
        rw [app_full hc15 hno (by omega)]; exact ⟨l, hp, rfl, rfl⟩
      · -- c37.f
        refine w_skip (st_bn (st_tn (w_seq (w_wk 602 (mp KL encF m l) rfl mpE_mp ?_))))
        refine w_region (zd rfl (op_fieldAddr (off := 0) rfl tF93_0d) (zd rfl (op_load1 rfl tO9d (Ent.lab (l := 8) rfl (says_cel 0))) (zm rfl (zd rfl (op_catBs rfl rfl (by omega)) ?_))))
        refine zd rfl (op_fieldAddr (off := 0) rfl tF93_0d) (wl_op0 [8] rfl rfl rfl (op_store rfl rfl tZ9d (by rfl) (by rfl) (by exact Nat.le_of_ble_eq_true rfl)) ?_)
        rintro _ _ ⟨rfl, rfl⟩
        refine wl_nil (st_tn (w_seq ?_))
        refine w_drawW (fun β => [⟨53, [], [], [], noW (_), false, [], []⟩, ⟨54, [0], [], [], noW (_), false, [], []⟩, ⟨55, [1], [], [], noW (_), false, [], []⟩, ⟨56, [2], [], [], noW (_), false, [], []⟩, ⟨57, [], [], [], noW (_), false, [], []⟩, ⟨58, [], [], [], noW (_), false, [], []⟩]) [] [0, 1, 8] [⟨53, [], [], false, [], []⟩, ⟨54, [0], [], false, [], []⟩, ⟨55, [1], [], false, [], []⟩, ⟨56, [2], [], false, [], []⟩, ⟨57, [], [], false, [], []⟩, ⟨58, [], [], false, [], []⟩] [[], [], [], [], [], []] [[], [], [], [], [], []] tMixd (fun _ => by rfl) (fun _ => by rfl) (by kernel_rfl) (by kernel_rfl) (by rfl) (by rfl)
            (fun β => ⟨.p rfl (by intro X; exact op_move rfl),
            ⟨.p rfl (by intro X; rintro _ _ ⟨rfl, rfl⟩; exact op_nilCheck rfl),
            ⟨.p rfl (by intro X; rintro _ _ ⟨rfl, rfl⟩; exact op_fieldAddr (off := 1) rfl tF90_1d),
            ⟨.p rfl (by intro X; rintro _ _ ⟨rfl, rfl⟩; exact op_load1 rfl tO88d (Ent.lab (l := 601) rfl (says_cel 1))),
            ⟨.p rfl (by intro X; exact op_move rfl),
            ⟨.p rfl (by intro X; exact op_loadA rfl tA93d (Ent.lab (l := 8) rfl (says_cel 0)) (Nat.le_of_ble_eq_true rfl)),
            trivial⟩⟩⟩⟩⟩⟩)
            (fun β β' => ⟨fun _ => by rfl, ⟨fun _ => by rfl, ⟨fun _ => by rfl, ⟨fun _ => by rfl, ⟨fun _ => by rfl, ⟨fun _ => by rfl, trivial⟩⟩⟩⟩⟩⟩) ?_
        intro β
        rintro _ _ ⟨rfl, rfl⟩ _ _ ⟨rfl, rfl⟩ _ _ ⟨rfl, rfl⟩ _ _ ⟨rfl, rfl⟩ _ _ ⟨rfl, rfl⟩ _ _ ⟨rfl, rfl⟩
        refine wl_norm (e' := [(0, _), (56, _), (57, _), (58, _)]) (.cons rfl (.cons rfl (.cons rfl (.cons rfl (.nil _))))) (by dsimp only [cond_false, cond_true, List.nil_append, List.cons_append]) ?_
        refine wl_op0 [602] rfl rfl rfl (op_mapUpdate (kt := KL) (encV := encF) (lab := 602) (v := ⟨f.data ++ d, f.syn, f.dur⟩) rfl rfl rfl tQ88d) ?_
        rintro _ _ ⟨rfl, rfl⟩
        refine wl_nil (st_tn (w_seq (w_seq (w_region (zm rfl (wl_op [601] rfl rfl rfl rfl (op_fn Try.func64 rfl rfl rfl (operate_any (grown s n d) (hg.grown ((ready0 hc15).2 n (by simp)) hno (by omega)))) ?_))))))
        rintro _ _ ⟨rfl, rfl⟩
        refine zd rfl (op_not rfl) (wl_nil (st_tn (w_cond rfl (fun hc61 => ?_) (fun hc61 => ?_))))
        · -- c61.t
          refine w_seq (w_region (za rfl (wl_nil (st_tn (w_ret (st_tr (st_ret (vs := [_]) [601, 602] Try.results44 ⟨rfl, trivial⟩ rfl ?_)))))))
          refine ⟨[(601, _), (602, _)], rfl, ?_⟩
          rw [app_done hc15 hno (by omega), if_neg (by simpa using hc61)]; exact ⟨_, grown_perm hg hp hfd, rfl, rfl⟩
        · -- c61.f
          refine w_skip (st_tn (w_seq (w_region (za rfl (wl_nil (st_tn (w_ret (st_ret (vs := [_]) [601, 602] Try.results44 ⟨rfl, trivial⟩ rfl ?_))))))))
          refine ⟨[(601, _), (602, _)], rfl, ?_⟩
          rw [app_done hc15 hno (by omega), if_pos (by simpa using hc61)]; exact ⟨_, grown_perm hg hp hfd, rfl, rfl⟩
    · -- hf-
      have hff : find s.fs n = none := by simpa using hf
      have hfd : (find s.fs n).getD zeroF = zeroF := by rw [hff]; rfl
      have hfz : zeroF.data.length = 0 := rfl
      refine w_region (zm rfl (zd rfl (op_nilCheck rfl) (zd rfl (op_fieldAddr (off := 1) rfl tF90_1d) (zd rfl (op_load1 rfl tO88d (Ent.lab (l := 601) rfl (says_cel 1))) (zm rfl (zd rfl (op_val (v' := .tuple #[encF zeroF, .bool false]) (by exact look_val0 hlk hff) (op_lookup2 (kt := KL) (encV := encF) rfl rfl tQ88d tN93d (Mr.lab 602 rfl))) ?_))))))
      refine zm rfl (zd rfl (op_extract rfl rfl) (zd rfl (op_extract rfl rfl) (wl_op [] rfl rfl rfl rfl (op_alloc (l := 8) tN93d) ?_)))
      rintro _ _ ⟨b8, rfl, rfl⟩
      refine wl_op0 [8] rfl rfl rfl (op_store rfl rfl tZ93d (by rfl) (by rfl) (by exact Nat.le_of_ble_eq_true rfl)) ?_
      rintro _ _ ⟨rfl, rfl⟩
      refine za rfl (wl_nil (st_tn (w_seq (w_block (w_seq (w_region (zm rfl (zd rfl (op_not_f rfl) (zm rfl (wl_wanted_det rfl rfl rfl rfl rfl rfl rfl (op_move rfl) (wl_wanted_det rfl rfl rfl rfl rfl rfl rfl (op_nilCheck rfl) (wl_wanted_det rfl rfl rfl rfl rfl rfl rfl (op_fieldAddr (off := 1) rfl tF90_1d) (wl_wanted_det rfl rfl rfl rfl rfl rfl rfl (op_load1 rfl tO88d (Ent.lab (l := 601) rfl (says_cel 1))) ?_)))))))))))))
      refine wl_wanted_det rfl rfl rfl rfl rfl rfl rfl (op_lenM (kt := KL) (encV := encF) rfl tQ88d (Mr.lab 602 rfl)) (wl_wanted_det rfl rfl rfl rfl rfl rfl rfl (op_geq rfl rfl) (zd rfl (op_pick_t rfl rfl) (za rfl (wl_nil (st_tn (w_cond_d rfl (fun hc26 => ?_) (fun hc26 => ?_)))))))
      · -- c26.t
        refine w_seq (w_region (za rfl (wl_nil (st_tn (w_ret (st_br (st_tr (st_ret (vs := [_]) [601, 602] Try.results44 ⟨rfl, trivial⟩ rfl ?_))))))))
        refine ⟨[(601, _), (602, _)], rfl, ?_⟩
        rw [app_limit hc15 hff (by omega)]; exact ⟨l, hp, rfl, rfl⟩
      · -- c26.f
        have hno : ¬ (find s.fs n = none ∧ 256 ≤ s.fs.length) := fun h => hc26 (by have := h.2; omega)
        refine w_seq (w_openM 602 rfl (fun bs ck hwf => ?_))
        refine w_drawW (fun β => [⟨38, [], [], [], noW (_), false, [], []⟩, ⟨39, [0], [], [], noW (_), false, [], []⟩, ⟨40, [], [], [], noW (_), false, [], []⟩, ⟨41, [2], [], [], noW (_), false, [], []⟩, ⟨42, [1, 3], [], [], noW (_), false, [], []⟩, ⟨43, [], [], [], noW (_), false, [], []⟩, ⟨44, [5], [], [], noW (_), false, [], []⟩, ⟨45, [6], [], [], noW (_), false, [], []⟩, ⟨46, [7], [], [], noW (_), false, [], []⟩]) [] [0, 2] [⟨38, [], [], false, [], []⟩, ⟨39, [0], [], false, [], []⟩, ⟨40, [], [], false, [], []⟩, ⟨41, [2], [], false, [], []⟩, ⟨42, [1, 3], [], false, [], []⟩, ⟨43, [], [], false, [], []⟩, ⟨44, [5], [], false, [], []⟩, ⟨45, [6], [], false, [], []⟩, ⟨46, [7], [], false, [], []⟩] [[], [], [], [], [], [], [], [], []] [[], [], [], [], [], [], [], [], []] tMixd (fun _ => by rfl) (fun _ => by rfl) (by kernel_rfl) (by kernel_rfl) (by rfl) (by rfl)
            (fun β => ⟨.p rfl (by intro X; exact op_move rfl),
            ⟨.p rfl (by intro X; rintro _ _ ⟨rfl, rfl⟩; exact op_val (v' := .int .i64 (used s.fs : Int)) (by rw [hdn]; rfl) (op_fn Try.func63 rfl rfl rfl (used_any (s := s) (bs := bs) (ck := ck) hg hp (Ent.lab (l := 601) rfl (says_cel 0)) (Me.lab 602 rfl)))),
            ⟨.p rfl (by intro X; exact op_move rfl),
            ⟨.p rfl (by intro X; rintro _ _ ⟨rfl, rfl⟩; exact op_lenBs rfl Try.underlying9),
            ⟨.p rfl (by intro X; rintro _ _ ⟨rfl, rfl⟩ _ _ ⟨rfl, rfl⟩; exact op_add' rfl rfl (by omega)),
            ⟨.p rfl (by intro X; exact op_move rfl),
            ⟨.p rfl (by intro X; rintro _ _ ⟨rfl, rfl⟩; exact op_nilCheck rfl),
            ⟨.p rfl (by intro X; rintro _ _ ⟨rfl, rfl⟩; exact op_fieldAddr (off := 0) rfl tF90_0d),
            ⟨.p rfl (by intro X; rintro _ _ ⟨rfl, rfl⟩; exact op_load1 rfl tO3d (Ent.lab (l := 601) rfl (says_cel 0))),
            trivial⟩⟩⟩⟩⟩⟩⟩⟩⟩)
            (fun β β' => ⟨fun _ => by rfl, ⟨fun _ => by rfl, ⟨fun _ => by rfl, ⟨fun _ => by rfl, ⟨fun _ => by rfl, ⟨fun _ => by rfl, ⟨fun _ => by rfl, ⟨fun _ => by rfl, ⟨fun _ => by rfl, trivial⟩⟩⟩⟩⟩⟩⟩⟩⟩) ?_
        intro β
        rintro _ _ ⟨rfl, rfl⟩ _ _ ⟨rfl, rfl⟩ _ _ ⟨rfl, rfl⟩ _ _ ⟨rfl, rfl⟩ _ _ ⟨rfl, rfl⟩ _ _ ⟨rfl, rfl⟩ _ _ ⟨rfl, rfl⟩ _ _ ⟨rfl, rfl⟩ _ _ ⟨rfl, rfl⟩
        refine wl_norm (e' := [(0, _), (1, _), (2, _), (8, _), (42, _), (46, _)]) (.cons rfl (.cons rfl (.cons rfl (.cons rfl (.cons rfl (.cons rfl (.nil _))))))) (by dsimp only [cond_false, cond_true, List.nil_append, List.cons_append]) ?_
        refine zd rfl (op_gtr rfl rfl) (za rfl (wl_nil (st_tn (w_cond_d rfl (fun hc37 => ?_) (fun hc37 => ?_)))))
        · -- c37.t
          refine w_seq (w_wk 602 (mp KL encF m l) rfl mpE_mp ?_)
          refine w_region (za rfl (wl_nil (st_tn (w_ret (st_br (st_tr (st_ret (vs := [_]) [601, 602] Try.results44 ⟨rfl, trivial⟩ rfl ?_)))))))
          refine ⟨[(601, _), (602, _)], rfl, ?_⟩
          rw [app_full hc15 hno (by omega)]; exact ⟨l, hp, rfl, rfl⟩
        · -- c37.f
          refine w_skip (st_bn (st_tn (w_seq (w_wk 602 (mp KL encF m l) rfl mpE_mp ?_))))
          refine w_region (zd rfl (op_fieldAddr (off := 0) rfl tF93_0d) (zd rfl (op_load1 rfl tO9d (Ent.lab (l := 8) rfl (says_cel 0))) (zm rfl (zd rfl (op_catBs rfl rfl (by omega)) ?_))))
          refine zd rfl (op_fieldAddr (off := 0) rfl tF93_0d) (wl_op0 [8] rfl rfl rfl (op_store rfl rfl tZ9d (by rfl) (by rfl) (by exact Nat.le_of_ble_eq_true rfl)) ?_)
          rintro _ _ ⟨rfl, rfl⟩
          refine wl_nil (st_tn (w_seq ?_))
          refine w_drawW (fun β => [⟨53, [], [], [], noW (_), false, [], []⟩, ⟨54, [0], [], [], noW (_), false, [], []⟩, ⟨55, [1], [], [], noW (_), false, [], []⟩, ⟨56, [2], [], [], noW (_), false, [], []⟩, ⟨57, [], [], [], noW (_), false, [], []⟩, ⟨58, [], [], [], noW (_), false, [], []⟩]) [] [0, 1, 8] [⟨53, [], [], false, [], []⟩, ⟨54, [0], [], false, [], []⟩, ⟨55, [1], [], false, [], []⟩, ⟨56, [2], [], false, [], []⟩, ⟨57, [], [], false, [], []⟩, ⟨58, [], [], false, [], []⟩] [[], [], [], [], [], []] [[], [], [], [], [], []] tMixd (fun _ => by rfl) (fun _ => by rfl) (by kernel_rfl) (by kernel_rfl) (by rfl) (by rfl)
              (fun β => ⟨.p rfl (by intro X; exact op_move rfl),
              ⟨.p rfl (by intro X; rintro _ _ ⟨rfl, rfl⟩; exact op_nilCheck rfl),
              ⟨.p rfl (by intro X; rintro _ _ ⟨rfl, rfl⟩; exact op_fieldAddr (off := 1) rfl tF90_1d),
              ⟨.p rfl (by intro X; rintro _ _ ⟨rfl, rfl⟩; exact op_load1 rfl tO88d (Ent.lab (l := 601) rfl (says_cel 1))),
              ⟨.p rfl (by intro X; exact op_move rfl),
              ⟨.p rfl (by intro X; exact op_loadA rfl tA93d (Ent.lab (l := 8) rfl (says_cel 0)) (Nat.le_of_ble_eq_true rfl)),
              trivial⟩⟩⟩⟩⟩⟩)
              (fun β β' => ⟨fun _ => by rfl, ⟨fun _ => by rfl, ⟨fun _ => by rfl, ⟨fun _ => by rfl, ⟨fun _ => by rfl, ⟨fun _ => by rfl, trivial⟩⟩⟩⟩⟩⟩) ?_
          intro β
          rintro _ _ ⟨rfl, rfl⟩ _ _ ⟨rfl, rfl⟩ _ _ ⟨rfl, rfl⟩ _ _ ⟨rfl, rfl⟩ _ _ ⟨rfl, rfl⟩ _ _ ⟨rfl, rfl⟩
          refine wl_norm (e' := [(0, _), (56, _), (57, _), (58, _)]) (.cons rfl (.cons rfl (.cons rfl (.cons rfl (.nil _))))) (by dsimp only [cond_false, cond_true, List.nil_append, List.cons_append]) ?_
          refine wl_op0 [602] rfl rfl rfl (op_mapUpdate (kt := KL) (encV := encF) (lab := 602) (v := ⟨zeroF.data ++ d, zeroF.syn, zeroF.dur⟩) rfl rfl rfl tQ88d) ?_
          rintro _ _ ⟨rfl, rfl⟩
          refine wl_nil (st_tn (w_seq (w_seq (w_region (zm rfl (wl_op [601] rfl rfl rfl rfl (op_fn Try.func64 rfl rfl rfl (operate_any (grown s n d) (hg.grown ((ready0 hc15).2 n (by simp)) hno (by omega)))) ?_))))))
          rintro _ _ ⟨rfl, rfl⟩
          refine zd rfl (op_not rfl) (wl_nil (st_tn (w_cond rfl (fun hc61 => ?_) (fun hc61 => ?_))))
          · -- c61.t
            refine w_seq (w_region (za rfl (wl_nil (st_tn (w_ret (st_tr (st_ret (vs := [_]) [601, 602] Try.results44 ⟨rfl, trivial⟩ rfl ?_)))))))
            refine ⟨[(601, _), (602, _)], rfl, ?_⟩
            rw [app_done hc15 hno (by omega), if_neg (by simpa using hc61)]; exact ⟨_, grown_perm hg hp hfd, rfl, rfl⟩
          · -- c61.f
            refine w_skip (st_tn (w_seq (w_region (za rfl (wl_nil (st_tn (w_ret (st_ret (vs := [_]) [601, 602] Try.results44 ⟨rfl, trivial⟩ rfl ?_))))))))
            refine ⟨[(601, _), (602, _)], rfl, ?_⟩
            rw [app_done hc15 hno (by omega), if_pos (by simpa using hc61)]; exact ⟨_, grown_perm hg hp hfd, rfl, rfl⟩
theorem syn_ready {s : St} {n : Bs} (h : readyE s [n] ≠ 0) : synO s n = (readyE s [n], s) := by unfold synO; rw [if_pos h]
theorem syn_none {s : St} {n : Bs} (h : ¬ readyE s [n] ≠ 0) (h2 : find s.fs n = none) : synO s n = (10, s) := by unfold synO; rw [if_neg h, h2]
theorem syn_fail {s : St} {n : Bs} {f : Fl} (h : ¬ readyE s [n] ≠ 0) (h2 : find s.fs n = some f) (h3 : ¬ (oper s).1 = true) : synO s n = (27, (oper s).2) := by unfold synO; rw [if_neg h, h2]; exact if_neg h3
theorem syn_done {s : St} {n : Bs} {f : Fl} (h : ¬ readyE s [n] ≠ 0) (h2 : find s.fs n = some f) (h3 : (oper s).1 = true) : synO s n = (0, { (oper s).2 with fs := setS s.fs n ⟨f.data, f.data.length, true⟩ }) := by unfold synO; rw [if_neg h, h2]; exact if_pos h3
set_option maxHeartbeats 1000000 in
set_option maxRecDepth 100000 in
theorem sync_any {σ : World} {F : List Res} {b m : Nat} {s : St} {l : Files} (n : Bs) (hg : DskM.Good s) (hp : l.Perm s.fs) (hn : n.length ≤ maxLen) :
    FnT Try.prog σ F 48 [.pointer (some ⟨b, 0, none⟩), .string (str n)] [(601, cel b (cellD s m) 90), (602, mp KL encF m l)] (fun u ρ => ∃ l', l'.Perm (synO s n).2.fs ∧ u = .int .i64 (synO s n).1 ∧ ρ = [(601, cel b (cellD (synO s n).2 m) 90), (602, mp KL encF m l')]) := by
  refine fn_of 42 Try.func48 rfl Try.ntmps48 rfl ?_
  have hlk := look_fs hg hp n
  have hll := hp.length_eq
  refine w_seq (w_region (za rfl (wl_nil (st_tn (w_seq (w_seq (w_region (zm rfl (zm rfl (wl_op [] rfl rfl rfl rfl (op_buildSlice (enc := encT) (l := [_]) (lab := 10) tL35_1d rfl rfl (fun _ => rfl) rfl) ?_))))))))))
  rintro _ _ ⟨a10, c10, rfl, rfl⟩
  refine zd rfl (op_fn Try.func62 rfl rfl rfl (ready_any (s := s) (m := m) (l := [n]) (celD 601 rfl) (Sl.lab 10 rfl (by simp [maxLen])) (by simpa using hn))) ?_
  refine za rfl (wl_nil (st_tn (w_seq (w_region (zm rfl (zd rfl (op_neq rfl rfl) (wl_nil (st_tn (w_cond_d rfl (fun hc13 => ?_) (fun hc13 => ?_))))))))))
  · -- c13.t
    refine w_seq (w_region (zm rfl (za rfl (wl_nil (st_tn (w_ret (st_tr (st_ret (vs := [_]) [601, 602] Try.results48 ⟨rfl, trivial⟩ rfl ?_))))))))
    refine ⟨[(601, _), (602, _)], rfl, ?_⟩
    rw [syn_ready hc13]; exact ⟨l, hp, rfl, rfl⟩
  · -- c13.f
    refine w_skip (st_tn (w_seq ?_))
    by_cases hf : (find s.fs n).isSome = true
    · -- hf+
      obtain ⟨f, hff⟩ := Option.isSome_iff_exists.1 hf
      refine w_region (zm rfl (zd rfl (op_nilCheck rfl) (zd rfl (op_fieldAddr (off := 1) rfl tF90_1d) (zd rfl (op_load1 rfl tO88d (Ent.lab (l := 601) rfl (says_cel 1))) (zm rfl (zd rfl (op_val (v' := .tuple #[encF f, .bool true]) (by exact look_val hlk hff) (op_lookup2 (kt := KL) (encV := encF) rfl rfl tQ88d tN93d (Mr.lab 602 rfl))) ?_))))))
      refine zm rfl (zd rfl (op_extract rfl rfl) (zd rfl (op_extract rfl rfl) (wl_op [] rfl rfl rfl rfl (op_alloc (l := 6) tN93d) ?_)))
      rintro _ _ ⟨b6, rfl, rfl⟩
      refine wl_op0 [6] rfl rfl rfl (op_store rfl rfl tZ93d (by rfl) (by rfl) (by exact Nat.le_of_ble_eq_true rfl)) ?_
      rintro _ _ ⟨rfl, rfl⟩
      refine za rfl (wl_nil (st_tn (w_seq (w_block (w_seq (w_region (zm rfl (zd rfl (op_not_t rfl) (za rfl (wl_nil (st_tn (w_cond_f (rfl) ?_))))))))))))
      refine w_seq (w_region (zm rfl (wl_op [601] rfl rfl rfl rfl (op_fn Try.func64 rfl rfl rfl (operate_any s hg)) ?_)))
      rintro _ _ ⟨rfl, rfl⟩
      refine zd rfl (op_not rfl) (za rfl (wl_nil (st_tn (w_cond rfl (fun hc27 => ?_) (fun hc27 => ?_)))))
      · -- c27.t
        refine w_seq (w_region (za rfl (wl_nil (st_tn (w_ret (st_br (st_tr (st_ret (vs := [_]) [601, 602] Try.results48 ⟨rfl, trivial⟩ rfl ?_))))))))
        refine ⟨[(601, _), (602, _)], rfl, ?_⟩
        rw [syn_fail hc13 hff (by simpa using hc27)]; exact ⟨_, oper_perm hp, rfl, rfl⟩
      · -- c27.f
        refine w_skip (st_bn (st_tn (w_seq (w_region (zd rfl (op_fieldAddr (off := 0) rfl tF93_0d) (zd rfl (op_load1 rfl tO9d (Ent.lab (l := 6) rfl (says_cel 0))) (zd rfl (op_lenBs rfl Try.underlying9) (zd rfl (op_fieldAddr (off := 1) rfl tF93_1d) (wl_op0 [6] rfl rfl rfl (op_store rfl rfl tZ3d (by rfl) (by rfl) (by exact Nat.le_of_ble_eq_true rfl)) ?_)))))))))
        rintro _ _ ⟨rfl, rfl⟩
        refine zd rfl (op_fieldAddr (off := 2) rfl tF93_2d) (wl_op0 [6] rfl rfl rfl (op_store rfl rfl tZ4d (by rfl) (by rfl) (by exact Nat.le_of_ble_eq_true rfl)) ?_)
        rintro _ _ ⟨rfl, rfl⟩
        refine wl_nil (st_tn (w_seq ?_))
        refine w_drawW (fun β => [⟨36, [], [], [], noW (_), false, [], []⟩, ⟨37, [0], [], [], noW (_), false, [], []⟩, ⟨38, [1], [], [], noW (_), false, [], []⟩, ⟨39, [2], [], [], noW (_), false, [], []⟩, ⟨40, [], [], [], noW (_), false, [], []⟩, ⟨41, [], [], [], noW (_), false, [], []⟩]) [] [0, 1, 6] [⟨36, [], [], false, [], []⟩, ⟨37, [0], [], false, [], []⟩, ⟨38, [1], [], false, [], []⟩, ⟨39, [2], [], false, [], []⟩, ⟨40, [], [], false, [], []⟩, ⟨41, [], [], false, [], []⟩] [[], [], [], [], [], []] [[], [], [], [], [], []] tMixd (fun _ => by rfl) (fun _ => by rfl) (by kernel_rfl) (by kernel_rfl) (by rfl) (by rfl)
            (fun β => ⟨.p rfl (by intro X; exact op_move rfl),
            ⟨.p rfl (by intro X; rintro _ _ ⟨rfl, rfl⟩; exact op_nilCheck rfl),
            ⟨.p rfl (by intro X; rintro _ _ ⟨rfl, rfl⟩; exact op_fieldAddr (off := 1) rfl tF90_1d),
            ⟨.p rfl (by intro X; rintro _ _ ⟨rfl, rfl⟩; exact op_load1 rfl tO88d (Ent.lab (l := 601) rfl (says_cel 1))),
            ⟨.p rfl (by intro X; exact op_move rfl),
            ⟨.p rfl (by intro X; exact op_loadA rfl tA93d (Ent.lab (l := 6) rfl (says_cel 0)) (Nat.le_of_ble_eq_true rfl)),
            trivial⟩⟩⟩⟩⟩⟩)
            (fun β β' => ⟨fun _ => by rfl, ⟨fun _ => by rfl, ⟨fun _ => by rfl, ⟨fun _ => by rfl, ⟨fun _ => by rfl, ⟨fun _ => by rfl, trivial⟩⟩⟩⟩⟩⟩) ?_
        intro β
        rintro _ _ ⟨rfl, rfl⟩ _ _ ⟨rfl, rfl⟩ _ _ ⟨rfl, rfl⟩ _ _ ⟨rfl, rfl⟩ _ _ ⟨rfl, rfl⟩ _ _ ⟨rfl, rfl⟩
        refine wl_norm (e' := [(39, _), (40, _), (41, _)]) (.cons rfl (.cons rfl (.cons rfl (.nil _)))) (by dsimp only [cond_false, cond_true, List.nil_append, List.cons_append]) ?_
        refine wl_op0 [602] rfl rfl rfl (op_mapUpdate (kt := KL) (encV := encF) (lab := 602) (v := ⟨f.data, f.data.length, true⟩) rfl rfl rfl tQ88d) ?_
        rintro _ _ ⟨rfl, rfl⟩
        refine wl_nil (st_tn (w_seq (w_region (za rfl (wl_nil (st_tn (w_ret (st_ret (vs := [_]) [601, 602] Try.results48 ⟨rfl, trivial⟩ rfl ?_))))))))
        refine ⟨[(601, _), (602, _)], rfl, ?_⟩
        rw [syn_done hc13 hff (by simpa using hc27)]; exact ⟨_, set_perm hp hg.inc n _, rfl, rfl⟩
    · -- hf-
      have hff : find s.fs n = none := by simpa using hf
      refine w_region (zm rfl (zd rfl (op_nilCheck rfl) (zd rfl (op_fieldAddr (off := 1) rfl tF90_1d) (zd rfl (op_load1 rfl tO88d (Ent.lab (l := 601) rfl (says_cel 1))) (zm rfl (zd rfl (op_val (v' := .tuple #[encF zeroF, .bool false]) (by exact look_val0 hlk hff) (op_lookup2 (kt := KL) (encV := encF) rfl rfl tQ88d tN93d (Mr.lab 602 rfl))) ?_))))))
      refine zm rfl (zd rfl (op_extract rfl rfl) (zd rfl (op_extract rfl rfl) (wl_op [] rfl rfl rfl rfl (op_alloc (l := 6) tN93d) ?_)))
      rintro _ _ ⟨b6, rfl, rfl⟩
      refine wl_op0 [6] rfl rfl rfl (op_store rfl rfl tZ93d (by rfl) (by rfl) (by exact Nat.le_of_ble_eq_true rfl)) ?_
      rintro _ _ ⟨rfl, rfl⟩
      refine za rfl (wl_nil (st_tn (w_seq (w_block (w_seq (w_region (zm rfl (zd rfl (op_not_f rfl) (za rfl (wl_nil (st_tn (w_cond_t (rfl) ?_))))))))))))
      refine w_seq (w_region (za rfl (wl_nil (st_tn (w_ret (st_br (st_tr (st_ret (vs := [_]) [601, 602] Try.results48 ⟨rfl, trivial⟩ rfl ?_))))))))
      refine ⟨[(601, _), (602, _)], rfl, ?_⟩
      rw [syn_none hc13 hff]; exact ⟨l, hp, rfl, rfl⟩
theorem rem_ready {s : St} {n : Bs} (h : readyE s [n] ≠ 0) : remO s n = (readyE s [n], s) := by unfold remO; rw [if_pos h]
theorem rem_find {s : St} {n : Bs} (h : (findO s n).2 ≠ 0) : remO s n = ((findO s n).2, s) := by
  unfold findO at h ⊢
  by_cases hr : readyE s [n] ≠ 0
  · rw [if_pos hr]; exact rem_ready hr
  · rw [if_neg hr] at h ⊢
    unfold remO; rw [if_neg hr]
    cases hf : find s.fs n with
    | none => rfl
    | some f => rw [hf] at h; exact absurd rfl h
theorem find_ok {s : St} {n : Bs} (h : ¬ (findO s n).2 ≠ 0) : ¬ readyE s [n] ≠ 0 ∧ ∃ f, find s.fs n = some f := by
  unfold findO at h
  by_cases hr : readyE s [n] ≠ 0
  · rw [if_pos hr] at h; exact absurd hr h
  · refine ⟨hr, ?_⟩
    rw [if_neg hr] at h
    cases hf : find s.fs n with
    | none => rw [hf] at h; simp at h
    | some f => exact ⟨f, rfl⟩
theorem rem_fail {s : St} {n : Bs} {f : Fl} (h : ¬ readyE s [n] ≠ 0) (h2 : find s.fs n = some f) (h3 : ¬ (oper s).1 = true) : remO s n = (27, (oper s).2) := by unfold remO; rw [if_neg h, h2]; exact if_neg h3
theorem rem_done {s : St} {n : Bs} {f : Fl} (h : ¬ readyE s [n] ≠ 0) (h2 : find s.fs n = some f) (h3 : (oper s).1 = true) : remO s n = (0, { (oper s).2 with fs := delS s.fs n }) := by unfold remO; rw [if_neg h, h2]; exact if_pos h3
set_option maxHeartbeats 400000 in
set_option maxRecDepth 100000 in
theorem remove_any {σ : World} {F : List Res} {b m : Nat} {s : St} {l : Files} (n : Bs) (hg : DskM.Good s) (hp : l.Perm s.fs) (hn : n.length ≤ maxLen) :
    FnT Try.prog σ F 58 [.pointer (some ⟨b, 0, none⟩), .string (str n)] [(601, cel b (cellD s m) 90), (602, mp KL encF m l)] (fun u ρ => ∃ l', l'.Perm (remO s n).2.fs ∧ u = .int .i64 (remO s n).1 ∧ ρ = [(601, cel b (cellD (remO s n).2 m) 90), (602, mp KL encF m l')]) := by
  refine fn_of 24 Try.func58 rfl Try.ntmps58 rfl ?_
  refine w_seq (w_region (za rfl (wl_nil (st_tn (w_seq (w_seq (w_region (zm rfl (zm rfl (zd rfl (op_fn Try.func76 rfl rfl rfl (find_any (s := s) (m := m) n hg hp hn (celD 601 rfl) (Mr.lab 602 rfl))) (zm rfl (zd rfl (op_extract rfl rfl) (zd rfl (op_extract rfl rfl) ?_)))))))))))))
  refine wl_op [] rfl rfl rfl rfl (op_alloc (l := 5) tN93d) ?_
  rintro _ _ ⟨b5, rfl, rfl⟩
  refine wl_op0 [5] rfl rfl rfl (op_store rfl rfl tZ93d (by rfl) (by rfl) (by exact Nat.le_of_ble_eq_true rfl)) ?_
  rintro _ _ ⟨rfl, rfl⟩
  refine za rfl (wl_nil (st_tn (w_seq (w_region (zm rfl (zd rfl (op_neq rfl rfl) (wl_nil (st_tn (w_cond_d rfl (fun hc14 => ?_) (fun hc14 => ?_))))))))))
  · -- c14.t
    refine w_seq (w_region (zm rfl (za rfl (wl_nil (st_tn (w_ret (st_tr (st_ret (vs := [_]) [601, 602] Try.results58 ⟨rfl, trivial⟩ rfl ?_))))))))
    refine ⟨[(601, _), (602, _)], rfl, ?_⟩
    rw [rem_find hc14]; exact ⟨l, hp, rfl, rfl⟩
  · -- c14.f
    obtain ⟨hr, f, hff⟩ := find_ok hc14
    refine w_skip (st_tn (w_seq (w_seq (w_region (zm rfl (wl_op [601] rfl rfl rfl rfl (op_fn Try.func64 rfl rfl rfl (operate_any s hg)) ?_))))))
    rintro _ _ ⟨rfl, rfl⟩
    refine zd rfl (op_not rfl) (wl_nil (st_tn (w_cond rfl (fun hc18 => ?_) (fun hc18 => ?_))))
    · -- c18.t
      refine w_seq (w_region (za rfl (wl_nil (st_tn (w_ret (st_tr (st_ret (vs := [_]) [601, 602] Try.results58 ⟨rfl, trivial⟩ rfl ?_)))))))
      refine ⟨[(601, _), (602, _)], rfl, ?_⟩
      rw [rem_fail hr hff (by simpa using hc18)]; exact ⟨_, oper_perm hp, rfl, rfl⟩
    · -- c18.f
      refine w_skip (st_tn (w_seq (w_region (zm rfl (zd rfl (op_nilCheck rfl) (zd rfl (op_fieldAddr (off := 1) rfl tF90_1d) (zd rfl (op_load1 rfl tO88d (Ent.lab (l := 601) rfl (says_cel 1))) (zm rfl (wl_op0 [602] rfl rfl rfl (op_delete (kt := KL) (encV := encF) (lab := 602) rfl rfl tQ88d) ?_)))))))))
      rintro _ _ ⟨rfl, rfl⟩
      refine wl_nil (st_tn (w_seq (w_region (za rfl (wl_nil (st_tn (w_ret (st_ret (vs := [_]) [601, 602] Try.results58 ⟨rfl, trivial⟩ rfl ?_))))))))
      refine ⟨[(601, _), (602, _)], rfl, ?_⟩
      rw [rem_done hr hff (by simpa using hc18)]; exact ⟨_, del_perm hp hg.inc n, rfl, rfl⟩
end Go.Proofs.Ytcbigmgakdanjaa
namespace Go.Proofs.Ytcbigmgakdanjaa
open Go Go.SL Go.RowKit Go.DskM
set_option linter.unusedVariables false
set_option linter.unusedSimpArgs false
theorem tA93e : aggB Try.prog 93 3 = true := by kernel_rfl
theorem tF90_1e : fieldB Try.prog 90 1 1 = true := by kernel_rfl
theorem tF90_2e : fieldB Try.prog 90 2 2 = true := by kernel_rfl
theorem tF90_3e : fieldB Try.prog 90 3 3 = true := by kernel_rfl
theorem tF90_4e : fieldB Try.prog 90 4 4 = true := by kernel_rfl
theorem tF93_0e : fieldB Try.prog 93 0 0 = true := by kernel_rfl
theorem tF93_1e : fieldB Try.prog 93 1 1 = true := by kernel_rfl
theorem tF93_2e : fieldB Try.prog 93 2 2 = true := by kernel_rfl
theorem tMixe : Try.prog.follows .mixedOrders = true := by kernel_rfl
theorem tN93e : (Try.prog.info? 93).bind (·.zero) = some (Value.agg #[Value.string .empty, Value.int .i64 0, Value.bool false]) := by kernel_rfl
theorem tO3e : oneB Try.prog 3 = true := by kernel_rfl
theorem tO4e : oneB Try.prog 4 = true := by kernel_rfl
theorem tO88e : oneB Try.prog 88 = true := by kernel_rfl
theorem tO9e : oneB Try.prog 9 = true := by kernel_rfl
theorem tQ88e : mapB Try.prog 88 9 93 KL.desc := ⟨Try.underlying88, Try.underlying9⟩
theorem tS35e : sliceB Try.prog 35 9 1 = true := by kernel_rfl
theorem tS66e : sliceB Try.prog 66 3 1 = true := by kernel_rfl
theorem tZ3e : (Try.prog.info? 3).map (·.size) = some 1 := by kernel_rfl
theorem tZ4e : (Try.prog.info? 4).map (·.size) = some 1 := by kernel_rfl
theorem tZ9e : (Try.prog.info? 9).map (·.size) = some 1 := by kernel_rfl
theorem tZ93e : (Try.prog.info? 93).map (·.size) = some 3 := by kernel_rfl
theorem setS_mid {k : Bs} {f f' : Fl} {R : Files} : ∀ {Q : Files}, (∀ p ∈ Q, p.1 < k) → setS (Q ++ (k, f) :: R) k f' = Q ++ (k, f') :: R
  | [], _ => by
    show setS ((k, f) :: R) k f' = _
    unfold setS; rw [if_neg (lt_irrefl k), if_pos rfl]; rfl
  | q :: Q, h => by
    have h1 := h q List.mem_cons_self
    show setS (q :: (Q ++ (k, f) :: R)) k f' = _
    unfold setS
    rw [if_neg (lt_asymm h1), if_neg (ne_of_lt h1).symm, setS_mid fun p hp => h p (List.mem_cons_of_mem _ hp)]; rfl
theorem delS_none {k : Bs} {Q : Files} (h : ∀ p ∈ Q, p.1 ≠ k) : delS Q k = Q := List.filter_eq_self.2 fun p hp => decide_eq_true (h p hp)
theorem delS_mid {k : Bs} {f : Fl} {Q R : Files} (h : ∀ p ∈ Q, p.1 < k) (h2 : ∀ p ∈ R, k < p.1) : delS (Q ++ (k, f) :: R) k = Q ++ R := by
  unfold delS
  rw [List.filter_append, List.filter_cons]
  have h3 := delS_none fun p hp => ne_of_lt (h p hp)
  have h4 := delS_none fun p hp => (ne_of_lt (h2 p hp)).symm
  unfold delS at h3 h4
  rw [h3, h4]; simp
structure SInv (fs : Files) (sc : List Int) (i : Nat) (r : List Int) (D : Files) : Prop where
  ex : ∃ Q, startF fs sc = Q ++ startF (fs.drop i) r ∧ D.Perm (Q ++ fs.drop i) ∧ (∀ p ∈ Q, ∀ q ∈ fs.drop i, p.1 < q.1) ∧ DskM.Inc Q
theorem SInv.init {fs : Files} {sc : List Int} {D : Files} (h : D.Perm fs) : SInv fs sc 0 sc D := ⟨[], by simp, by simpa using h, by simp, List.Pairwise.nil⟩
theorem SInv.fin {fs : Files} {sc : List Int} {i : Nat} {r : List Int} {D : Files} (h : SInv fs sc i r D) (hi : fs.length ≤ i) : D.Perm (startF fs sc) := by
  obtain ⟨Q, h1, h2, _⟩ := h.ex
  rw [List.drop_of_length_le hi] at h1 h2
  rw [h1]; simpa [startF] using h2
theorem drop_at {fs : Files} {i : Nat} {p : Bs × Fl} (h : fs[i]? = some p) : fs.drop i = p :: fs.drop (i + 1) := by
  obtain ⟨hi, rfl⟩ := List.getElem?_eq_some_iff.1 h
  exact (List.drop_eq_getElem_cons hi)
section
variable {fs : Files} {sc : List Int} {i : Nat} {r : List Int} {D : Files} {p : Bs × Fl}
theorem inc_mid {Q R : Files} (hi : DskM.Inc fs) (hx : fs[i]? = some p) (h3 : ∀ p ∈ Q, ∀ q ∈ fs.drop i, p.1 < q.1) (h4 : DskM.Inc Q) : DskM.Inc (Q ++ p :: fs.drop (i + 1)) ∧ (∀ q ∈ Q, q.1 < p.1) ∧ (∀ q ∈ fs.drop (i + 1), p.1 < q.1) := by
  rw [drop_at hx] at h3
  have h5 : DskM.Inc (p :: fs.drop (i + 1)) := by rw [← drop_at hx]; exact List.Pairwise.drop hi
  exact ⟨List.pairwise_append.2 ⟨h4, h5, h3⟩, fun q hq => h3 q hq p List.mem_cons_self, (List.pairwise_cons.1 h5).1⟩
theorem SInv.look (h : SInv fs sc i r D) (hi : DskM.Inc fs) (hx : fs[i]? = some p) : lookK KL D p.1 = some p.2 := by
  obtain ⟨Q, h1, h2, h3, h4⟩ := h.ex
  rw [drop_at hx] at h2
  obtain ⟨h5, _, _⟩ := inc_mid (R := []) hi hx h3 h4
  rw [look_perm h2 ((h2.map Prod.fst).nodup_iff.2 h5.nod)]
  exact find_of h5 (by simp)
theorem SInv.lost (h : SInv fs sc i r D) (hi : DskM.Inc fs) (hx : fs[i]? = some p) (hd : p.2.dur = false) : SInv fs sc (i + 1) r (delK KL D p.1) := by
  obtain ⟨Q, h1, h2, h3, h4⟩ := h.ex
  obtain ⟨h5, h6, h7⟩ := inc_mid (R := []) hi hx h3 h4
  rw [drop_at hx] at h1 h2
  have h8 : startF (p :: fs.drop (i + 1)) r = startF (fs.drop (i + 1)) r := by
    conv => lhs; unfold startF
    rw [if_neg (by simp [hd])]
  rw [h8] at h1
  refine ⟨Q, h1, ?_, fun a ha b hb => lt_trans (h6 a ha) (h7 b hb), h4⟩
  have := del_perm h2 h5 p.1
  rwa [show (Q ++ p :: fs.drop (i + 1)) = (Q ++ (p.1, p.2) :: fs.drop (i + 1)) from rfl, delS_mid h6 h7] at this
theorem SInv.same (h : SInv fs sc i r D) (hi : DskM.Inc fs) (hx : fs[i]? = some p) (hd : p.2.dur = true) (hz : p.2.data.length - p.2.syn = 0) : SInv fs sc (i + 1) r D := by
  obtain ⟨Q, h1, h2, h3, h4⟩ := h.ex
  obtain ⟨h5, h6, h7⟩ := inc_mid (R := []) hi hx h3 h4
  rw [drop_at hx] at h1 h2
  have h8 : startF (p :: fs.drop (i + 1)) r = p :: startF (fs.drop (i + 1)) r := by
    conv => lhs; unfold startF
    rw [if_pos hd, if_pos hz]
  rw [h8] at h1
  refine ⟨Q ++ [p], by rw [h1]; simp, by simpa using h2, fun a ha b hb => ?_, List.pairwise_append.2 ⟨h4, List.pairwise_singleton _ _, fun a ha b hb => ?_⟩⟩
  · rcases List.mem_append.1 ha with ha | ha
    · exact lt_trans (h6 a ha) (h7 b hb)
    · simp at ha; subst ha; exact h7 b hb
  · simp at hb; subst hb; exact h6 a ha
theorem SInv.cut_ {x : Int} (h : SInv fs sc i r D) (hi : DskM.Inc fs) (hx : fs[i]? = some p) (hd : p.2.dur = true) (hz : ¬ p.2.data.length - p.2.syn = 0) (hr : r.head?.getD 0 = x) : SInv fs sc (i + 1) r.tail (setK KL D p.1 (cut p.2 x)) := by
  obtain ⟨Q, h1, h2, h3, h4⟩ := h.ex
  obtain ⟨h5, h6, h7⟩ := inc_mid (R := []) hi hx h3 h4
  rw [drop_at hx] at h1 h2
  have h8 : startF (p :: fs.drop (i + 1)) r = (p.1, cut p.2 x) :: startF (fs.drop (i + 1)) r.tail := by
    conv => lhs; unfold startF
    rw [if_pos hd, if_neg hz, hr]
  rw [h8] at h1
  refine ⟨Q ++ [(p.1, cut p.2 x)], by rw [h1]; simp, ?_, fun a ha b hb => ?_, List.pairwise_append.2 ⟨h4, List.pairwise_singleton _ _, fun a ha b hb => ?_⟩⟩
  · have := set_perm h2 h5 p.1 (cut p.2 x)
    rw [show (Q ++ p :: fs.drop (i + 1)) = (Q ++ (p.1, p.2) :: fs.drop (i + 1)) from rfl, setS_mid h6] at this
    simpa using this
  · rcases List.mem_append.1 ha with ha | ha
    · exact lt_trans (h6 a ha) (h7 b hb)
    · simp at ha; subst ha; exact h7 b hb
  · simp at hb; subst hb; exact h6 a ha
end
theorem sta_down {s : St} {sc : List Int} (h : s.down = true) : staO s sc = { s with fs := startF s.fs sc, down := false, lim := false, left := 0 } := by unfold staO; rw [if_pos h]
theorem sta_up {s : St} {sc : List Int} (h : s.down = false) : staO s sc = s := by unfold staO; rw [if_neg (by simp [h])]
set_option maxHeartbeats 2000000 in
set_option maxRecDepth 100000 in
theorem start_any {σ : World} {F : List Res} {b m : Nat} {s : St} {l : Files} {a : Option Addr} {c : Nat} {sc : List Int} (hg : DskM.Good s) (hp : l.Perm s.fs) (hsc : Sl σ F SL.encZ 1 (.slice a sc.length c) sc) :
    FnT Try.prog σ F 38 [.pointer (some ⟨b, 0, none⟩), .slice a sc.length c] [(601, cel b (cellD s m) 90), (602, mp KL encF m l)] (fun u ρ => ∃ l', l'.Perm (staO s sc).fs ∧ u = .tuple #[] ∧ ρ = [(601, cel b (cellD (staO s sc) m) 90), (602, mp KL encF m l')]) := by
  refine fn_of 97 Try.func38 rfl Try.ntmps38 rfl ?_
  have huse := hg.use
  have hcap := hg.cap
  have hcnt := hg.cnt
  have hkl : (keysOf s.fs).length = s.fs.length := by simp [keysOf]
  refine w_seq (w_seq (w_region (zm rfl (zd rfl (op_val (v' := .bool false) (by simp) (op_eqPtr rfl Try.underlying22)) ?_))))
  refine zm rfl (wl_wanted_det rfl rfl rfl rfl rfl rfl rfl (op_move rfl) (wl_wanted_det rfl rfl rfl rfl rfl rfl rfl (op_nilCheck rfl) (wl_wanted_det rfl rfl rfl rfl rfl rfl rfl (op_fieldAddr (off := 2) rfl tF90_2e) (wl_wanted_det rfl rfl rfl rfl rfl rfl rfl (op_load1 rfl tO4e (Ent.lab (l := 601) rfl (says_cel 2))) (wl_wanted_det rfl rfl rfl rfl rfl rfl rfl (op_not rfl) (zd rfl (op_pick_f rfl rfl) (wl_nil (st_tn (w_cond rfl (fun hc18 => ?_) (fun hc18 => ?_))))))))))
  · -- c18.t
    refine w_ret (st_tr (st_ret (vs := []) [601, 602] Try.results38 trivial rfl ?_))
    refine ⟨[(601, _), (602, _)], rfl, ?_⟩
    rw [sta_up (by simpa using hc18)]; exact ⟨l, hp, rfl, rfl⟩
  · -- c18.f
    have hdn : s.down = true := by simpa using hc18
    refine w_skip (st_tn (w_seq (w_seq (w_region (zm rfl (zd rfl (op_nilCheck rfl) (zd rfl (op_fieldAddr (off := 1) rfl tF90_1e) (zd rfl (op_load1 rfl tO88e (Ent.lab (l := 601) rfl (says_cel 1))) (wl_op [] rfl rfl rfl rfl (op_fn Try.func61 rfl rfl rfl (keys_any 23)) ?_)))))))))
    rintro _ _ ⟨b23, rfl, rfl⟩
    refine wl_op [] rfl rfl rfl rfl (op_fn Try.func60 rfl rfl rfl (sortedK 24 (Ent.lab (l := 23) rfl (says_cel 0)) (Mr.lab 602 rfl) hp hg.inc (name_len hg) hg.cnt)) ?_
    rintro _ _ ⟨a24, c24, rfl, rfl⟩
    refine zd rfl (op_lenT rfl tS35e (Sl.ent (Sl.lab 24 rfl (by unfold maxLen; omega)))) ?_
    refine zm rfl (wl_nil (st_tn (w_block ?_)))
    refine w_loopQ (X := List Int × Option Addr × Nat × Nat × List (Bs × Fl)) (fun z => z.2.2.2.1 ≤ s.fs.length ∧ Sl σ F SL.encZ 1 (.slice z.2.1 z.1.length z.2.2.1) z.1 ∧ SInv s.fs sc z.2.2.2.1 z.1 z.2.2.2.2) (fun z => [(1, .slice (z.2.1) (z.1).length (z.2.2.1)), (26, .int .i64 (z.2.2.2.1))]) (fun z => [(602, mp KL encF m (z.2.2.2.2))]) (fun z => s.fs.length - z.2.2.2.1) ((sc, a, c, 0, l)) [(0, _), (24, _), (25, _)] [(601, _), (23, _), (24, _)] [602, 601, 23, 24] rfl (rfl) (.cons rfl (.cons rfl (.nil _))) (.cons rfl (.cons rfl (.cons rfl (.nil _)))) (by
        try dsimp only
        exact ⟨Nat.zero_le _, hsc, SInv.init hp⟩) ?_
    rintro ⟨r, a_r, c_r, i, D⟩ ⟨hi, hsr, hI⟩
    refine w_norm2 (by dsimp only [List.cons_append, List.nil_append]) (by dsimp only [List.cons_append, List.nil_append]) ?_
    try dsimp only at hi hsr hI ⊢
    refine w_seq (w_region (zd rfl (op_lss rfl rfl) (wl_nil (st_tn (w_seq (w_cond_d rfl (fun hc27 => ?_) (fun hc27 => ?_)))))))
    · -- c27.t
      obtain ⟨p, hx⟩ := getE (l := s.fs) (i := i) (by omega)
      have hk : (keysOf s.fs)[i]? = some p.1 := by rw [keysOf, List.getElem?_map, hx]; rfl
      have hlook := hI.look hg.inc hx
      have hpm := List.mem_of_getElem? hx
      have hsy : p.2.syn ≤ p.2.data.length := hg.syn p hpm
      have hpl : p.2.data.length ≤ used s.fs := le_used hpm
      refine w_skip (st_tn (w_seq (w_block (w_seq (w_region (zd rfl (op_idx rfl rfl tS35e (Sl.ent (Sl.lab 24 rfl (by unfold maxLen; omega))) (by omega)) ?_))))))
      refine zd rfl (op_ldx rfl tO9e (Sl.lab 24 rfl (by unfold maxLen; omega)) (by assumption) (by rfl)) ?_
      refine za rfl (wl_nil (st_tn (w_seq (w_region (zm rfl (zd rfl (op_nilCheck rfl) (zd rfl (op_fieldAddr (off := 1) rfl tF90_1e) (zd rfl (op_load1 rfl tO88e (Ent.lab (l := 601) rfl (says_cel 1))) (zm rfl (zd rfl (op_val (v' := encF p.2) (by rw [hlook]; rfl) (op_lookup (kt := KL) (encV := encF) rfl rfl tQ88e tN93e (Mr.lab 602 rfl))) ?_))))))))))
      refine wl_op [] rfl rfl rfl rfl (op_alloc (l := 6) tN93e) ?_
      rintro _ _ ⟨b6, rfl, rfl⟩
      refine wl_op0 [6] rfl rfl rfl (op_store rfl rfl tZ93e (by rfl) (by rfl) (by exact Nat.le_of_ble_eq_true rfl)) ?_
      rintro _ _ ⟨rfl, rfl⟩
      refine wl_nil (st_tn (w_seq (w_seq (w_region (zd rfl (op_fieldAddr (off := 2) rfl tF93_2e) (zd rfl (op_load1 rfl tO4e (Ent.lab (l := 6) rfl (says_cel 2))) (zd rfl (op_not rfl) (wl_nil (st_tn (w_cond rfl (fun hc38 => ?_) (fun hc38 => ?_)))))))))))
      · -- c38.t
        refine w_seq (w_region (zm rfl (zd rfl (op_nilCheck rfl) (zd rfl (op_fieldAddr (off := 1) rfl tF90_1e) (zd rfl (op_load1 rfl tO88e (Ent.lab (l := 601) rfl (says_cel 1))) (zm rfl (wl_op0 [602] rfl rfl rfl (op_delete (kt := KL) (encV := encF) (lab := 602) rfl rfl tQ88e) ?_)))))))
        rintro _ _ ⟨rfl, rfl⟩
        refine wl_nil (st_tn (w_exit (st_te ?_)))
        refine st_be (st_tn (w_region (zd rfl (op_add' rfl rfl (by omega)) ?_)))
        refine zm rfl (wl_nil ?_)
        refine st_roundQ (x := (r, a_r, c_r, i, D)) ((r, _, _, i + 1, delK KL D p.1)) [602, 601, 23, 24] rfl (rfl) (.cons rfl (.cons rfl (.nil _))) (.cons rfl (.cons rfl (.cons rfl (.nil _)))) (by
            try dsimp only
            exact ⟨by omega, hsr, hI.lost hg.inc hx (by simpa using hc38)⟩) (by
            try dsimp only
            omega)
      · -- c38.f
        refine w_skip (st_tn (w_seq (w_region (zd rfl (op_fieldAddr (off := 0) rfl tF93_0e) (zd rfl (op_load1 rfl tO9e (Ent.lab (l := 6) rfl (says_cel 0))) (zd rfl (op_lenBs rfl Try.underlying9) (zd rfl (op_fieldAddr (off := 1) rfl tF93_1e) (zd rfl (op_load1 rfl tO3e (Ent.lab (l := 6) rfl (says_cel 1))) (zd rfl (op_val (v' := .int .i64 ((p.2.data.length - p.2.syn : Nat) : Int)) (by congr 1; omega) (op_sub' rfl rfl (by omega))) ?_)))))))))
        refine za rfl (wl_nil (st_tn (w_seq (w_seq (w_region (zm rfl (zd rfl (op_eql rfl rfl) (wl_nil (st_tn (w_cond_d rfl (fun hc51 => ?_) (fun hc51 => ?_)))))))))))
        · -- c51.t
          refine w_exit (st_te ?_)
          refine st_be (st_tn (w_region (zd rfl (op_add' rfl rfl (by omega)) ?_)))
          refine zm rfl (wl_nil ?_)
          refine st_roundQ (x := (r, a_r, c_r, i, D)) ((r, _, _, i + 1, D)) [602, 601, 23, 24] rfl (rfl) (.cons rfl (.cons rfl (.nil _))) (.cons rfl (.cons rfl (.cons rfl (.nil _)))) (by
              try dsimp only
              exact ⟨by omega, hsr, hI.same hg.inc hx (by simpa using hc38) (by omega)⟩) (by
              try dsimp only
              omega)
        · -- c51.f
          refine w_skip (st_tn (w_seq (w_region (za rfl (wl_nil (st_tn (w_seq (w_seq (w_region (zm rfl (zd rfl (op_lenT rfl tS66e (Sl.ent (by first | exact Sl.app (by assumption) _ | exact Sl.app (Sl.app (by assumption) _) _))) ?_)))))))))))
          refine zd rfl (op_gtr rfl rfl) (wl_nil (st_tn (w_cond_d rfl (fun hc54 => ?_) (fun hc54 => ?_))))
          · -- c54.t
            obtain ⟨x, hx0⟩ := getE (l := r) (i := 0) (by omega)
            have hhd : r.head?.getD 0 = x := by rw [List.head?_eq_getElem?, hx0]; rfl
            have hks := keep_spec x (p.2.data.length - p.2.syn)
            refine w_drawW (fun β => [⟨55, [], [], [], noW (_), false, [], []⟩, ⟨56, [0], [], [], noW (_), false, [], []⟩, ⟨57, [1], [], [], noW (_), false, [], []⟩, ⟨58, [], [], [], noW (_), false, [], []⟩, ⟨59, [3], [], [], noW (_), false, [], []⟩, ⟨8, [2], [], [], noW (_), false, [], []⟩]) [] [1] [⟨55, [], [], false, [], []⟩, ⟨56, [0], [], false, [], []⟩, ⟨57, [1], [], false, [], []⟩, ⟨58, [], [], false, [], []⟩, ⟨59, [3], [], false, [], []⟩, ⟨8, [2], [], false, [], []⟩] [[], [], [], [], [], []] [[], [], [], [], [], []] tMixe (fun _ => by rfl) (fun _ => by rfl) (by kernel_rfl) (by kernel_rfl) (by rfl) (by rfl)
                (fun β => ⟨.p rfl (by intro X; exact op_move rfl),
                ⟨.p rfl (by intro X; rintro _ _ ⟨rfl, rfl⟩; exact op_idx (i := 0) rfl rfl tS66e (Sl.ent (Sl.app (Sl.app hsr X) _)) (by omega)),
                ⟨.p rfl (by intro X; rintro _ _ ⟨rfl, rfl⟩; exact op_ldx rfl tO3e (by first | exact Sl.app (by assumption) _ | exact Sl.app (Sl.app (by assumption) _) _) (by assumption) (by rfl)),
                ⟨.p rfl (by intro X; exact op_move rfl),
                ⟨.p rfl (by intro X; rintro _ _ ⟨rfl, rfl⟩; exact op_val (v' := .slice (SL.sub a_r c_r 1 1) r.tail.length (c_r - 1)) (by rw [List.length_tail]) (op_sliceL (lo := 1) (l := r) rfl rfl tS66e (Sl.app (Sl.app hsr X) _) (by omega))),
                ⟨.p rfl (by intro X; rintro _ _ ⟨rfl, rfl⟩; exact op_assign rfl),
                trivial⟩⟩⟩⟩⟩⟩)
                (fun β β' => ⟨fun _ => by rfl, ⟨fun _ => by rfl, ⟨fun _ => by rfl, ⟨fun _ => by rfl, ⟨fun _ => by rfl, ⟨fun _ => by rfl, trivial⟩⟩⟩⟩⟩⟩) ?_
            intro β
            rintro _ _ ⟨rfl, rfl⟩ _ _ ⟨rfl, rfl⟩ _ _ ⟨rfl, rfl⟩ _ _ ⟨rfl, rfl⟩ _ _ ⟨rfl, rfl⟩ _ _ ⟨rfl, rfl⟩
            refine wl_norm (e' := [(0, _), (5, _), (6, _), (7, _), (8, _), (24, _), (25, _), (26, _), (59, _)]) (.cons rfl (.cons rfl (.cons rfl (.cons rfl (.cons rfl (.cons rfl (.cons rfl (.cons rfl (.cons rfl (.nil _)))))))))) (by dsimp only [cond_false, cond_true, List.nil_append, List.cons_append]) ?_
            refine za rfl (wl_nil (st_tn (w_seq (w_region (zm rfl (zm rfl (zd rfl (op_add' rfl rfl (by omega)) ?_)))))))
            refine zd rfl (op_rem rfl rfl (by omega)) ?_
            refine za rfl (wl_nil (st_tn (w_seq (w_seq (w_region (zm rfl (zd rfl (op_lss rfl rfl) (wl_nil (st_tn (w_cond_d rfl (fun hc65 => ?_) (fun hc65 => ?_)))))))))))
            · -- c65.t
              have hkk : ((keep x (p.2.data.length - p.2.syn) : Nat) : Int) = x.tmod (((p.2.data.length - p.2.syn : Nat) : Int) + 1) + (((p.2.data.length - p.2.syn : Nat) : Int) + 1) := by rw [hks.1, if_pos hc65]
              have hkl2 := hks.2
              refine w_region (zm rfl (zm rfl (zd rfl (op_add' rfl rfl (by omega)) ?_)))
              refine zd rfl (op_add' rfl rfl (by omega)) ?_
              refine za rfl (wl_nil (st_tn (w_seq (w_region (zd rfl (op_fieldAddr (off := 1) rfl tF93_1e) (zd rfl (op_load1 rfl tO3e (Ent.lab (l := 6) rfl (says_cel 1))) (zm rfl (zd rfl (op_val (v' := .int .i64 ((p.2.syn + keep x (p.2.data.length - p.2.syn) : Nat) : Int)) (by congr 1; omega) (op_add' rfl rfl (by omega))) ?_))))))))
              refine zd rfl (op_fieldAddr (off := 1) rfl tF93_1e) (wl_op0 [6] rfl rfl rfl (op_store rfl rfl tZ3e (by rfl) (by rfl) (by exact Nat.le_of_ble_eq_true rfl)) ?_)
              rintro _ _ ⟨rfl, rfl⟩
              refine wl_nil (st_tn (w_seq (w_region (zd rfl (op_fieldAddr (off := 0) rfl tF93_0e) (zd rfl (op_load1 rfl tO9e (Ent.lab (l := 6) rfl (says_cel 0))) (zd rfl (op_fieldAddr (off := 1) rfl tF93_1e) (zd rfl (op_load1 rfl tO3e (Ent.lab (l := 6) rfl (says_cel 1))) (zd rfl (op_sliceRBs rfl rfl Try.underlying9 (by omega)) ?_))))))))
              refine zd rfl (op_fieldAddr (off := 0) rfl tF93_0e) (wl_op0 [6] rfl rfl rfl (op_store rfl rfl tZ9e (by rfl) (by rfl) (by exact Nat.le_of_ble_eq_true rfl)) ?_)
              rintro _ _ ⟨rfl, rfl⟩
              refine wl_nil (st_tn ?_)
              refine w_drawW (fun β => [⟨81, [], [], [], noW (_), false, [], []⟩, ⟨82, [0], [], [], noW (_), false, [], []⟩, ⟨83, [1], [], [], noW (_), false, [], []⟩, ⟨84, [2], [], [], noW (_), false, [], []⟩, ⟨85, [], [], [], noW (_), false, [], []⟩, ⟨86, [], [], [], noW (_), false, [], []⟩]) [] [0, 5, 6] [⟨81, [], [], false, [], []⟩, ⟨82, [0], [], false, [], []⟩, ⟨83, [1], [], false, [], []⟩, ⟨84, [2], [], false, [], []⟩, ⟨85, [], [], false, [], []⟩, ⟨86, [], [], false, [], []⟩] [[], [], [], [], [], []] [[], [], [], [], [], []] tMixe (fun _ => by rfl) (fun _ => by rfl) (by kernel_rfl) (by kernel_rfl) (by rfl) (by rfl)
                  (fun β => ⟨.p rfl (by intro X; exact op_move rfl),
                  ⟨.p rfl (by intro X; rintro _ _ ⟨rfl, rfl⟩; exact op_nilCheck rfl),
                  ⟨.p rfl (by intro X; rintro _ _ ⟨rfl, rfl⟩; exact op_fieldAddr (off := 1) rfl tF90_1e),
                  ⟨.p rfl (by intro X; rintro _ _ ⟨rfl, rfl⟩; exact op_load1 rfl tO88e (Ent.lab (l := 601) rfl (says_cel 1))),
                  ⟨.p rfl (by intro X; exact op_move rfl),
                  ⟨.p rfl (by intro X; exact op_loadA rfl tA93e (Ent.lab (l := 6) rfl (says_cel 0)) (Nat.le_of_ble_eq_true rfl)),
                  trivial⟩⟩⟩⟩⟩⟩)
                  (fun β β' => ⟨fun _ => by rfl, ⟨fun _ => by rfl, ⟨fun _ => by rfl, ⟨fun _ => by rfl, ⟨fun _ => by rfl, ⟨fun _ => by rfl, trivial⟩⟩⟩⟩⟩⟩) ?_
              intro β
              rintro _ _ ⟨rfl, rfl⟩ _ _ ⟨rfl, rfl⟩ _ _ ⟨rfl, rfl⟩ _ _ ⟨rfl, rfl⟩ _ _ ⟨rfl, rfl⟩ _ _ ⟨rfl, rfl⟩
              refine wl_norm (e' := [(0, _), (1, _), (24, _), (25, _), (26, _), (84, _), (85, _), (86, _)]) (.cons rfl (.cons rfl (.cons rfl (.cons rfl (.cons rfl (.cons rfl (.cons rfl (.cons rfl (.nil _))))))))) (by dsimp only [cond_false, cond_true, List.nil_append, List.cons_append]) ?_
              refine wl_op0 [602] rfl rfl rfl (op_mapUpdate (kt := KL) (encV := encF) (lab := 602) (v := cut p.2 x) rfl rfl rfl tQ88e) ?_
              rintro _ _ ⟨rfl, rfl⟩
              refine wl_nil (st_bn (st_tn (w_region (zd rfl (op_add' rfl rfl (by omega)) ?_))))
              refine zm rfl (wl_nil ?_)
              refine st_roundQ (x := (r, a_r, c_r, i, D)) ((r.tail, _, _, i + 1, setK KL D p.1 (cut p.2 x))) [602, 601, 23, 24] rfl (rfl) (.cons rfl (.cons rfl (.nil _))) (.cons rfl (.cons rfl (.cons rfl (.nil _)))) (by
                  try dsimp only
                  refine ⟨by omega, ?_, hI.cut_ hg.inc hx (by simpa using hc38) (by omega) hhd⟩
                  rw [List.length_tail, ← List.drop_one]; exact hsr.dropL (lo := 1) (by omega)) (by
                  try dsimp only
                  omega)
            · -- c65.f
              have hkk : ((keep x (p.2.data.length - p.2.syn) : Nat) : Int) = x.tmod (((p.2.data.length - p.2.syn : Nat) : Int) + 1) := by rw [hks.1, if_neg hc65]
              have hkl2 := hks.2
              refine w_skip (st_tn (w_seq (w_region (zd rfl (op_fieldAddr (off := 1) rfl tF93_1e) (zd rfl (op_load1 rfl tO3e (Ent.lab (l := 6) rfl (says_cel 1))) (zm rfl (zd rfl (op_val (v' := .int .i64 ((p.2.syn + keep x (p.2.data.length - p.2.syn) : Nat) : Int)) (by congr 1; omega) (op_add' rfl rfl (by omega))) ?_)))))))
              refine zd rfl (op_fieldAddr (off := 1) rfl tF93_1e) (wl_op0 [6] rfl rfl rfl (op_store rfl rfl tZ3e (by rfl) (by rfl) (by exact Nat.le_of_ble_eq_true rfl)) ?_)
              rintro _ _ ⟨rfl, rfl⟩
              refine wl_nil (st_tn (w_seq (w_region (zd rfl (op_fieldAddr (off := 0) rfl tF93_0e) (zd rfl (op_load1 rfl tO9e (Ent.lab (l := 6) rfl (says_cel 0))) (zd rfl (op_fieldAddr (off := 1) rfl tF93_1e) (zd rfl (op_load1 rfl tO3e (Ent.lab (l := 6) rfl (says_cel 1))) (zd rfl (op_sliceRBs rfl rfl Try.underlying9 (by omega)) ?_))))))))
              refine zd rfl (op_fieldAddr (off := 0) rfl tF93_0e) (wl_op0 [6] rfl rfl rfl (op_store rfl rfl tZ9e (by rfl) (by rfl) (by exact Nat.le_of_ble_eq_true rfl)) ?_)
              rintro _ _ ⟨rfl, rfl⟩
              refine wl_nil (st_tn ?_)
              refine w_drawW (fun β => [⟨81, [], [], [], noW (_), false, [], []⟩, ⟨82, [0], [], [], noW (_), false, [], []⟩, ⟨83, [1], [], [], noW (_), false, [], []⟩, ⟨84, [2], [], [], noW (_), false, [], []⟩, ⟨85, [], [], [], noW (_), false, [], []⟩, ⟨86, [], [], [], noW (_), false, [], []⟩]) [] [0, 5, 6] [⟨81, [], [], false, [], []⟩, ⟨82, [0], [], false, [], []⟩, ⟨83, [1], [], false, [], []⟩, ⟨84, [2], [], false, [], []⟩, ⟨85, [], [], false, [], []⟩, ⟨86, [], [], false, [], []⟩] [[], [], [], [], [], []] [[], [], [], [], [], []] tMixe (fun _ => by rfl) (fun _ => by rfl) (by kernel_rfl) (by kernel_rfl) (by rfl) (by rfl)
                  (fun β => ⟨.p rfl (by intro X; exact op_move rfl),
                  ⟨.p rfl (by intro X; rintro _ _ ⟨rfl, rfl⟩; exact op_nilCheck rfl),
                  ⟨.p rfl (by intro X; rintro _ _ ⟨rfl, rfl⟩; exact op_fieldAddr (off := 1) rfl tF90_1e),
                  ⟨.p rfl (by intro X; rintro _ _ ⟨rfl, rfl⟩; exact op_load1 rfl tO88e (Ent.lab (l := 601) rfl (says_cel 1))),
                  ⟨.p rfl (by intro X; exact op_move rfl),
                  ⟨.p rfl (by intro X; exact op_loadA rfl tA93e (Ent.lab (l := 6) rfl (says_cel 0)) (Nat.le_of_ble_eq_true rfl)),
                  trivial⟩⟩⟩⟩⟩⟩)
                  (fun β β' => ⟨fun _ => by rfl, ⟨fun _ => by rfl, ⟨fun _ => by rfl, ⟨fun _ => by rfl, ⟨fun _ => by rfl, ⟨fun _ => by rfl, trivial⟩⟩⟩⟩⟩⟩) ?_
              intro β
              rintro _ _ ⟨rfl, rfl⟩ _ _ ⟨rfl, rfl⟩ _ _ ⟨rfl, rfl⟩ _ _ ⟨rfl, rfl⟩ _ _ ⟨rfl, rfl⟩ _ _ ⟨rfl, rfl⟩
              refine wl_norm (e' := [(0, _), (1, _), (24, _), (25, _), (26, _), (84, _), (85, _), (86, _)]) (.cons rfl (.cons rfl (.cons rfl (.cons rfl (.cons rfl (.cons rfl (.cons rfl (.cons rfl (.nil _))))))))) (by dsimp only [cond_false, cond_true, List.nil_append, List.cons_append]) ?_
              refine wl_op0 [602] rfl rfl rfl (op_mapUpdate (kt := KL) (encV := encF) (lab := 602) (v := cut p.2 x) rfl rfl rfl tQ88e) ?_
              rintro _ _ ⟨rfl, rfl⟩
              refine wl_nil (st_bn (st_tn (w_region (zd rfl (op_add' rfl rfl (by omega)) ?_))))
              refine zm rfl (wl_nil ?_)
              refine st_roundQ (x := (r, a_r, c_r, i, D)) ((r.tail, _, _, i + 1, setK KL D p.1 (cut p.2 x))) [602, 601, 23, 24] rfl (rfl) (.cons rfl (.cons rfl (.nil _))) (.cons rfl (.cons rfl (.cons rfl (.nil _)))) (by
                  try dsimp only
                  refine ⟨by omega, ?_, hI.cut_ hg.inc hx (by simpa using hc38) (by omega) hhd⟩
                  rw [List.length_tail, ← List.drop_one]; exact hsr.dropL (lo := 1) (by omega)) (by
                  try dsimp only
                  omega)
          · -- c54.f
            obtain ⟨x, hx0⟩ : ∃ x : Int, x = 0 := ⟨0, rfl⟩
            have hrn : r = [] := List.eq_nil_of_length_eq_zero (by omega)
            have hhd : r.head?.getD 0 = x := by rw [hrn, hx0]; rfl
            have hks := keep_spec x (p.2.data.length - p.2.syn)
            refine w_skip (st_tn (w_seq (w_region (zm rfl (zm rfl (zd rfl (op_add' rfl rfl (by omega)) ?_))))))
            refine zd rfl (op_val (v' := .int .i64 (x.tmod (((p.2.data.length - p.2.syn : Nat) : Int) + 1))) (by rw [hx0]) (op_rem rfl rfl (by omega))) ?_
            refine za rfl (wl_nil (st_tn (w_seq (w_seq (w_region (zm rfl (zd rfl (op_lss rfl rfl) (wl_nil (st_tn (w_cond_d rfl (fun hc65 => ?_) (fun hc65 => ?_)))))))))))
            · -- c65.t
              have hkk : ((keep x (p.2.data.length - p.2.syn) : Nat) : Int) = x.tmod (((p.2.data.length - p.2.syn : Nat) : Int) + 1) + (((p.2.data.length - p.2.syn : Nat) : Int) + 1) := by rw [hks.1, if_pos hc65]
              have hkl2 := hks.2
              refine w_region (zm rfl (zm rfl (zd rfl (op_add' rfl rfl (by omega)) ?_)))
              refine zd rfl (op_add' rfl rfl (by omega)) ?_
              refine za rfl (wl_nil (st_tn (w_seq (w_region (zd rfl (op_fieldAddr (off := 1) rfl tF93_1e) (zd rfl (op_load1 rfl tO3e (Ent.lab (l := 6) rfl (says_cel 1))) (zm rfl (zd rfl (op_val (v' := .int .i64 ((p.2.syn + keep x (p.2.data.length - p.2.syn) : Nat) : Int)) (by congr 1; omega) (op_add' rfl rfl (by omega))) ?_))))))))
              refine zd rfl (op_fieldAddr (off := 1) rfl tF93_1e) (wl_op0 [6] rfl rfl rfl (op_store rfl rfl tZ3e (by rfl) (by rfl) (by exact Nat.le_of_ble_eq_true rfl)) ?_)
              rintro _ _ ⟨rfl, rfl⟩
              refine wl_nil (st_tn (w_seq (w_region (zd rfl (op_fieldAddr (off := 0) rfl tF93_0e) (zd rfl (op_load1 rfl tO9e (Ent.lab (l := 6) rfl (says_cel 0))) (zd rfl (op_fieldAddr (off := 1) rfl tF93_1e) (zd rfl (op_load1 rfl tO3e (Ent.lab (l := 6) rfl (says_cel 1))) (zd rfl (op_sliceRBs rfl rfl Try.underlying9 (by omega)) ?_))))))))
              refine zd rfl (op_fieldAddr (off := 0) rfl tF93_0e) (wl_op0 [6] rfl rfl rfl (op_store rfl rfl tZ9e (by rfl) (by rfl) (by exact Nat.le_of_ble_eq_true rfl)) ?_)
              rintro _ _ ⟨rfl, rfl⟩
              refine wl_nil (st_tn ?_)
              refine w_drawW (fun β => [⟨81, [], [], [], noW (_), false, [], []⟩, ⟨82, [0], [], [], noW (_), false, [], []⟩, ⟨83, [1], [], [], noW (_), false, [], []⟩, ⟨84, [2], [], [], noW (_), false, [], []⟩, ⟨85, [], [], [], noW (_), false, [], []⟩, ⟨86, [], [], [], noW (_), false, [], []⟩]) [] [0, 5, 6] [⟨81, [], [], false, [], []⟩, ⟨82, [0], [], false, [], []⟩, ⟨83, [1], [], false, [], []⟩, ⟨84, [2], [], false, [], []⟩, ⟨85, [], [], false, [], []⟩, ⟨86, [], [], false, [], []⟩] [[], [], [], [], [], []] [[], [], [], [], [], []] tMixe (fun _ => by rfl) (fun _ => by rfl) (by kernel_rfl) (by kernel_rfl) (by rfl) (by rfl)
                  (fun β => ⟨.p rfl (by intro X; exact op_move rfl),
                  ⟨.p rfl (by intro X; rintro _ _ ⟨rfl, rfl⟩; exact op_nilCheck rfl),
                  ⟨.p rfl (by intro X; rintro _ _ ⟨rfl, rfl⟩; exact op_fieldAddr (off := 1) rfl tF90_1e),
                  ⟨.p rfl (by intro X; rintro _ _ ⟨rfl, rfl⟩; exact op_load1 rfl tO88e (Ent.lab (l := 601) rfl (says_cel 1))),
                  ⟨.p rfl (by intro X; exact op_move rfl),
                  ⟨.p rfl (by intro X; exact op_loadA rfl tA93e (Ent.lab (l := 6) rfl (says_cel 0)) (Nat.le_of_ble_eq_true rfl)),
                  trivial⟩⟩⟩⟩⟩⟩)
                  (fun β β' => ⟨fun _ => by rfl, ⟨fun _ => by rfl, ⟨fun _ => by rfl, ⟨fun _ => by rfl, ⟨fun _ => by rfl, ⟨fun _ => by rfl, trivial⟩⟩⟩⟩⟩⟩) ?_
              intro β
              rintro _ _ ⟨rfl, rfl⟩ _ _ ⟨rfl, rfl⟩ _ _ ⟨rfl, rfl⟩ _ _ ⟨rfl, rfl⟩ _ _ ⟨rfl, rfl⟩ _ _ ⟨rfl, rfl⟩
              refine wl_norm (e' := [(0, _), (1, _), (24, _), (25, _), (26, _), (84, _), (85, _), (86, _)]) (.cons rfl (.cons rfl (.cons rfl (.cons rfl (.cons rfl (.cons rfl (.cons rfl (.cons rfl (.nil _))))))))) (by dsimp only [cond_false, cond_true, List.nil_append, List.cons_append]) ?_
              refine wl_op0 [602] rfl rfl rfl (op_mapUpdate (kt := KL) (encV := encF) (lab := 602) (v := cut p.2 x) rfl rfl rfl tQ88e) ?_
              rintro _ _ ⟨rfl, rfl⟩
              refine wl_nil (st_bn (st_tn (w_region (zd rfl (op_add' rfl rfl (by omega)) ?_))))
              refine zm rfl (wl_nil ?_)
              refine st_roundQ (x := (r, a_r, c_r, i, D)) ((r, _, _, i + 1, setK KL D p.1 (cut p.2 x))) [602, 601, 23, 24] rfl (rfl) (.cons rfl (.cons rfl (.nil _))) (.cons rfl (.cons rfl (.cons rfl (.nil _)))) (by
                  try dsimp only
                  refine ⟨by omega, hsr, ?_⟩
                  have := hI.cut_ hg.inc hx (by simpa using hc38) (by omega) hhd
                  rwa [hrn] at this ⊢) (by
                  try dsimp only
                  omega)
            · -- c65.f
              have hkk : ((keep x (p.2.data.length - p.2.syn) : Nat) : Int) = x.tmod (((p.2.data.length - p.2.syn : Nat) : Int) + 1) := by rw [hks.1, if_neg hc65]
              have hkl2 := hks.2
              refine w_skip (st_tn (w_seq (w_region (zd rfl (op_fieldAddr (off := 1) rfl tF93_1e) (zd rfl (op_load1 rfl tO3e (Ent.lab (l := 6) rfl (says_cel 1))) (zm rfl (zd rfl (op_val (v' := .int .i64 ((p.2.syn + keep x (p.2.data.length - p.2.syn) : Nat) : Int)) (by congr 1; omega) (op_add' rfl rfl (by omega))) ?_)))))))
              refine zd rfl (op_fieldAddr (off := 1) rfl tF93_1e) (wl_op0 [6] rfl rfl rfl (op_store rfl rfl tZ3e (by rfl) (by rfl) (by exact Nat.le_of_ble_eq_true rfl)) ?_)
              rintro _ _ ⟨rfl, rfl⟩
              refine wl_nil (st_tn (w_seq (w_region (zd rfl (op_fieldAddr (off := 0) rfl tF93_0e) (zd rfl (op_load1 rfl tO9e (Ent.lab (l := 6) rfl (says_cel 0))) (zd rfl (op_fieldAddr (off := 1) rfl tF93_1e) (zd rfl (op_load1 rfl tO3e (Ent.lab (l := 6) rfl (says_cel 1))) (zd rfl (op_sliceRBs rfl rfl Try.underlying9 (by omega)) ?_))))))))
              refine zd rfl (op_fieldAddr (off := 0) rfl tF93_0e) (wl_op0 [6] rfl rfl rfl (op_store rfl rfl tZ9e (by rfl) (by rfl) (by exact Nat.le_of_ble_eq_true rfl)) ?_)
              rintro _ _ ⟨rfl, rfl⟩
              refine wl_nil (st_tn ?_)
              refine w_drawW (fun β => [⟨81, [], [], [], noW (_), false, [], []⟩, ⟨82, [0], [], [], noW (_), false, [], []⟩, ⟨83, [1], [], [], noW (_), false, [], []⟩, ⟨84, [2], [], [], noW (_), false, [], []⟩, ⟨85, [], [], [], noW (_), false, [], []⟩, ⟨86, [], [], [], noW (_), false, [], []⟩]) [] [0, 5, 6] [⟨81, [], [], false, [], []⟩, ⟨82, [0], [], false, [], []⟩, ⟨83, [1], [], false, [], []⟩, ⟨84, [2], [], false, [], []⟩, ⟨85, [], [], false, [], []⟩, ⟨86, [], [], false, [], []⟩] [[], [], [], [], [], []] [[], [], [], [], [], []] tMixe (fun _ => by rfl) (fun _ => by rfl) (by kernel_rfl) (by kernel_rfl) (by rfl) (by rfl)
                  (fun β => ⟨.p rfl (by intro X; exact op_move rfl),
                  ⟨.p rfl (by intro X; rintro _ _ ⟨rfl, rfl⟩; exact op_nilCheck rfl),
                  ⟨.p rfl (by intro X; rintro _ _ ⟨rfl, rfl⟩; exact op_fieldAddr (off := 1) rfl tF90_1e),
                  ⟨.p rfl (by intro X; rintro _ _ ⟨rfl, rfl⟩; exact op_load1 rfl tO88e (Ent.lab (l := 601) rfl (says_cel 1))),
                  ⟨.p rfl (by intro X; exact op_move rfl),
                  ⟨.p rfl (by intro X; exact op_loadA rfl tA93e (Ent.lab (l := 6) rfl (says_cel 0)) (Nat.le_of_ble_eq_true rfl)),
                  trivial⟩⟩⟩⟩⟩⟩)
                  (fun β β' => ⟨fun _ => by rfl, ⟨fun _ => by rfl, ⟨fun _ => by rfl, ⟨fun _ => by rfl, ⟨fun _ => by rfl, ⟨fun _ => by rfl, trivial⟩⟩⟩⟩⟩⟩) ?_
              intro β
              rintro _ _ ⟨rfl, rfl⟩ _ _ ⟨rfl, rfl⟩ _ _ ⟨rfl, rfl⟩ _ _ ⟨rfl, rfl⟩ _ _ ⟨rfl, rfl⟩ _ _ ⟨rfl, rfl⟩
              refine wl_norm (e' := [(0, _), (1, _), (24, _), (25, _), (26, _), (84, _), (85, _), (86, _)]) (.cons rfl (.cons rfl (.cons rfl (.cons rfl (.cons rfl (.cons rfl (.cons rfl (.cons rfl (.nil _))))))))) (by dsimp only [cond_false, cond_true, List.nil_append, List.cons_append]) ?_
              refine wl_op0 [602] rfl rfl rfl (op_mapUpdate (kt := KL) (encV := encF) (lab := 602) (v := cut p.2 x) rfl rfl rfl tQ88e) ?_
              rintro _ _ ⟨rfl, rfl⟩
              refine wl_nil (st_bn (st_tn (w_region (zd rfl (op_add' rfl rfl (by omega)) ?_))))
              refine zm rfl (wl_nil ?_)
              refine st_roundQ (x := (r, a_r, c_r, i, D)) ((r, _, _, i + 1, setK KL D p.1 (cut p.2 x))) [602, 601, 23, 24] rfl (rfl) (.cons rfl (.cons rfl (.nil _))) (.cons rfl (.cons rfl (.cons rfl (.nil _)))) (by
                  try dsimp only
                  refine ⟨by omega, hsr, ?_⟩
                  have := hI.cut_ hg.inc hx (by simpa using hc38) (by omega) hhd
                  rwa [hrn] at this ⊢) (by
                  try dsimp only
                  omega)
    · -- c27.f
      refine w_exit (st_te ?_)
      refine st_te ?_
      refine st_be (st_tn (w_region (zm rfl (zm rfl (zm rfl (zd rfl (op_nilCheck rfl) (zd rfl (op_fieldAddr (off := 2) rfl tF90_2e) (wl_op0 [601] rfl rfl rfl (op_store rfl rfl tZ4e (by rfl) (by rfl) (by exact Nat.le_of_ble_eq_true rfl)) ?_))))))))
      rintro _ _ ⟨rfl, rfl⟩
      refine zd rfl (op_nilCheck rfl) (zd rfl (op_fieldAddr (off := 3) rfl tF90_3e) (wl_op0 [601] rfl rfl rfl (op_store rfl rfl tZ4e (by rfl) (by rfl) (by exact Nat.le_of_ble_eq_true rfl)) ?_))
      rintro _ _ ⟨rfl, rfl⟩
      refine zd rfl (op_nilCheck rfl) (zd rfl (op_fieldAddr (off := 4) rfl tF90_4e) (wl_op0 [601] rfl rfl rfl (op_store rfl rfl tZ3e (by rfl) (by rfl) (by exact Nat.le_of_ble_eq_true rfl)) ?_))
      rintro _ _ ⟨rfl, rfl⟩
      refine wl_nil (st_end (vs := []) [601, 602] Try.results38 trivial rfl ?_)
      refine ⟨[(601, _), (602, _)], rfl, ?_⟩
      rw [sta_down hdn]; exact ⟨_, hI.fin (by omega), rfl, rfl⟩
end Go.Proofs.Ytcbigmgakdanjaa
namespace Go.Proofs.Ytcbigmgakdanjaa
open Go Go.SL Go.RowKit Go.DskM
set_option linter.unusedVariables false
set_option linter.unusedSimpArgs false
theorem tB90f : placesB Try.prog 90 = some ([(0, 1), (1, 1), (2, 1), (3, 1), (4, 1)], [Value.int .i64 0, Value.map none, Value.bool false, Value.bool false, Value.int .i64 0]) := by kernel_rfl
def newS (n : Int) : St := ⟨n, [], false, false, 0⟩
theorem good_new {n : Int} (h : 0 ≤ n ∧ n ≤ 67108864) : DskM.Good (newS n) := ⟨List.Pairwise.nil, by simp [newS], by simp [newS], by simp [newS], by simp [newS, used]; omega, h.2, Int.le_refl _, by show (0 : Int) ≤ _; omega⟩
set_option maxHeartbeats 400000 in
set_option maxRecDepth 100000 in
theorem new_ok {σ : World} {F : List Res} (n : Int) (lab1 lab2 : Nat) (hn : 0 ≤ n ∧ n ≤ 67108864) :
    FnT Try.prog σ F 32 [.int .i64 n] [] (fun u ρ => ∃ b m, u = .tuple #[.pointer (some ⟨b, 0, none⟩), .int .i64 0] ∧ ρ = [(lab1, cel b (cellD (newS n) m) 90), (lab2, mp KL encF m [])]) := by
  refine fn_of 14 Try.func32 rfl Try.ntmps32 rfl ?_
  refine w_seq (w_region (za rfl (za rfl (wl_nil (st_tn (w_seq (w_seq (w_region (zm rfl (zd rfl (op_val (v' := .bool false) (by simp; omega) (op_lss rfl rfl)) ?_))))))))))
  refine zm rfl (wl_wanted_det rfl rfl rfl rfl rfl rfl rfl (op_move rfl) (wl_wanted_det rfl rfl rfl rfl rfl rfl rfl (op_val (v' := .bool false) (by simp; omega) (op_gtr rfl rfl)) ?_))
  refine zd rfl (op_pick_f rfl rfl) (wl_nil (st_tn (w_cond_f (rfl) ?_)))
  refine w_skip (st_tn (w_seq (w_region (zm rfl (wl_op [] rfl rfl rfl rfl (op_makeMap (kt := KL) (encV := encF) (lab := 11)) ?_)))))
  rintro _ _ ⟨b11, rfl, rfl⟩
  refine zd rfl (op_build tB90f rfl rfl) (wl_op [] rfl rfl rfl rfl (op_box (T := 90) (l := 13) rfl) ?_)
  rintro _ _ ⟨b13, rfl, rfl⟩
  refine za rfl (za rfl (wl_nil (st_tn (w_ret (st_ret (vs := [_, _]) [13, 11] Try.results32 ⟨rfl, ⟨rfl, trivial⟩⟩ rfl ?_)))))
  refine ⟨[(lab1, _), (lab2, _)], rfl, ?_⟩
  exact ⟨_, _, rfl, rfl⟩
section
variable {σ : World} {F : List Res} {b m : Nat} {s s' : St} {l : Files}
theorem read_to {n v : Bs} {e : Int} (h : readO s n false = (v, e)) (hg : DskM.Good s) (hp : l.Perm s.fs) (hn : n.length ≤ maxLen) (hd : Ent σ F (At ⟨b, 0, none⟩ (cellD s m))) (hm' : Mr σ F KL encF (.map (some m)) l) :
    FnT Try.prog σ F 71 [.pointer (some ⟨b, 0, none⟩), .string (str n)] [] (fun u ρ => u = .tuple #[.string (str v), .int .i64 e] ∧ ρ = []) := by
  have := read_any (σ := σ) (F := F) (b := b) (m := m) n hg hp hn hd hm'
  rw [h] at this; exact this
theorem list_to {k : List Bs} (h : listO s = k) (lab : Nat) (hg : DskM.Good s) (hp : l.Perm s.fs) (hd : Ent σ F (At ⟨b, 0, none⟩ (cellD s m))) (hm' : Mr σ F KL encF (.map (some m)) l) :
    FnT Try.prog σ F 51 [.pointer (some ⟨b, 0, none⟩)] [] (fun u ρ => ∃ a c, u = .slice a k.length c ∧ ρ = [(lab, slW 9 encT 1 (.slice a k.length c) k)]) := by
  have := list_any (σ := σ) (F := F) (b := b) (m := m) lab hg hp hd hm'
  rw [h] at this; exact this
end
end Go.Proofs.Ytcbigmgakdanjaa
namespace Go.Proofs.Ytcbigmgakdanjaa
open Go Go.SL Go.RowKit Go.RdM
set_option linter.unusedVariables false
set_option linter.unusedSimpArgs false
theorem tF130_0rd : fieldB Try.prog 130 0 0 = true := by kernel_rfl
theorem tO9rd : oneB Try.prog 9 = true := by kernel_rfl
theorem raw_head {s : RdM.Bs} {at_ k : Nat} {neg : Bool} {b : UInt8} (h : s[at_ + 1]? = some b) (hk : 0 < k) : (raw s at_ k neg).head? = some (flp neg b) := by
  obtain ⟨j, rfl⟩ : ∃ j, k = j + 1 := ⟨k - 1, by omega⟩
  unfold raw
  obtain ⟨h1, h2⟩ := List.getElem?_eq_some_iff.1 h
  rw [List.drop_eq_getElem_cons h1, List.take_succ_cons, List.map_cons, h2]
  rfl
theorem val_raw_lt {s : RdM.Bs} {at_ k : Nat} {neg : Bool} (hk : k ≤ s.length - (at_ + 1)) {j : Nat} (hj : k ≤ j) : val (raw s at_ k neg) < 256 ^ j := by
  have h := val_lt (raw_lt s at_ k neg)
  rw [len_raw hk] at h
  exact Nat.lt_of_lt_of_le h (Nat.pow_le_pow_right (by omega) hj)
theorem head_ne {s : RdM.Bs} {at_ k i : Nat} {neg : Bool} {c : UInt8} (h : s[at_ + 1 + i]? = some c) (hz : 0 < i → (raw s at_ k neg).head? ≠ some 0) (h2 : i = 0 → flp neg c ≠ 0) (hk : i < k) : (raw s at_ k neg).head? ≠ some 0 := by
  rcases Nat.eq_zero_or_pos i with h0 | h0
  · subst h0
    rw [raw_head h hk]
    exact fun hh => h2 rfl (by simpa using hh)
  · exact hz h0
theorem head_zero {s : RdM.Bs} {at_ k i : Nat} {neg : Bool} {c : UInt8} (h : s[at_ + 1 + i]? = some c) (hi : i = 0) (h2 : flp neg c = 0) (hk : i < k) : (raw s at_ k neg).head? = some 0 := by
  subst hi; rw [raw_head h hk, h2]
theorem raw_ne {s : RdM.Bs} {at_ k : Nat} {neg : Bool} (hk : k ≤ s.length - (at_ + 1)) (h0 : 0 < k) : raw s at_ k neg ≠ [] := fun hh => by
  have := len_raw (neg := neg) hk; rw [hh] at this; simp at this; omega
def cellR (s : RdM.Bs) (r : Rd) : List Value := [.string (str s), .int .i64 r.at_, .int .i64 r.e]
set_option maxHeartbeats 4000000 in
set_option maxRecDepth 100000 in
theorem num_any {σ : World} {F : List Res} {b : Nat} {s : RdM.Bs} {r : Rd} (at_ : Nat) (hb : Ent σ F (At ⟨b, 0, none⟩ (cellR s r))) (hs : s.length ≤ 1099511627776) :
    FnT Try.prog σ F 95 [.pointer (some ⟨b, 0, none⟩), .int .i64 at_] [] (fun u ρ => u = .tuple #[.int .i64 (num s at_).1, .int .i64 (num s at_).2.1, .int .i64 (num s at_).2.2] ∧ ρ = []) := by
  refine fn_of 94 Try.func95 rfl Try.ntmps95 rfl ?_
  refine w_seq (w_region (za rfl (za rfl (za rfl (wl_nil (st_tn (w_seq (w_seq (w_region (zm rfl (zm rfl (zd rfl (op_nilCheck rfl) (zd rfl (op_fieldAddr (off := 0) rfl tF130_0rd) ?_)))))))))))))
  refine zd rfl (op_load1 rfl tO9rd (Ent.app (Ent.fld hb 0) _)) (zd rfl (op_lenBs rfl Try.underlying9) (zd rfl (op_geq rfl rfl) (wl_nil (st_tn (w_cond_d rfl (fun hc19 => ?_) (fun hc19 => ?_))))))
  · -- c19.t
    refine w_seq (w_region (za rfl (za rfl (za rfl (wl_nil (st_tn (w_ret (st_tr (st_ret (vs := [_, _, _]) [] Try.results95 ⟨rfl, ⟨rfl, ⟨rfl, trivial⟩⟩⟩ rfl ?_)))))))))
    refine ⟨_, rfl, ?_⟩
    rw [num_none (by omega)]; exact ⟨rfl, rfl⟩
  · -- c19.f
    obtain ⟨b0, hb0⟩ := getE (l := s) (i := at_) (by omega)
    have hb8 := b0.toNat_lt
    have hnum := num_some hb0
    refine w_skip (st_tn (w_seq (w_region (zm rfl (zd rfl (op_nilCheck rfl) (zd rfl (op_fieldAddr (off := 0) rfl tF130_0rd) (zd rfl (op_load1 rfl tO9rd (Ent.app (Ent.fld hb 0) _)) (zm rfl (zd rfl (op_idxBs rfl rfl Try.underlying9 (by assumption)) ?_)))))))))
    refine zd rfl (op_convI64 rfl (by rw [Try.underlying5]; rfl) Try.underlying3 (by omega)) ?_
    refine zd rfl (op_sub' rfl rfl (by omega)) ?_
    refine za rfl (za rfl (wl_nil (st_tn (w_seq (w_seq (w_region (zm rfl (zd rfl (op_lss rfl rfl) (wl_nil (st_tn (w_cond_d rfl (fun hc29 => ?_) (fun hc29 => ?_))))))))))))
    · -- c29.t
      have hneg : decide (b0.toNat < 128) = true := by simp; omega
      have hflip : (if decide (b0.toNat < 128) = true then 255 else 0 : Int) = 255 := by rw [if_pos hneg]
      have hov : (if decide (b0.toNat < 128) = true then 1 else 0 : Nat) = 1 := by rw [if_pos hneg]
      have hk : szB b0.toNat = 128 - b0.toNat := by unfold szB; rw [if_pos (by omega)]
      refine w_region (zm rfl (zd rfl (op_neg rfl (by omega)) ?_))
      refine za rfl (za rfl (wl_nil (st_tn (w_seq (w_seq (w_region (zm rfl (zd rfl (op_gtr rfl rfl) (wl_nil (st_tn (w_cond_d rfl (fun hc33 => ?_) (fun hc33 => ?_))))))))))))
      · -- c33.t
        refine w_seq (w_region (za rfl (za rfl (za rfl (wl_nil (st_tn (w_ret (st_tr (st_ret (vs := [_, _, _]) [] Try.results95 ⟨rfl, ⟨rfl, ⟨rfl, trivial⟩⟩⟩ rfl ?_)))))))))
        refine ⟨_, rfl, ?_⟩
        rw [hnum, if_pos (by omega)]; exact ⟨rfl, rfl⟩
      · -- c33.f
        refine w_skip (st_tn (w_seq (w_region (zm rfl (zd rfl (op_add' rfl rfl (by omega)) ?_)))))
        refine za rfl (wl_nil (st_tn (w_seq (w_seq (w_region (zm rfl (zd rfl (op_nilCheck rfl) (zd rfl (op_fieldAddr (off := 0) rfl tF130_0rd) (zd rfl (op_load1 rfl tO9rd (Ent.app (Ent.fld hb 0) _)) (zd rfl (op_lenBs rfl Try.underlying9) (zm rfl (zd rfl (op_sub' rfl rfl (by omega)) ?_))))))))))))
        refine zm rfl (zd rfl (op_lss rfl rfl) (wl_nil (st_tn (w_cond_d rfl (fun hc44 => ?_) (fun hc44 => ?_)))))
        · -- c44.t
          refine w_seq (w_region (za rfl (za rfl (za rfl (wl_nil (st_tn (w_ret (st_tr (st_ret (vs := [_, _, _]) [] Try.results95 ⟨rfl, ⟨rfl, ⟨rfl, trivial⟩⟩⟩ rfl ?_)))))))))
          refine ⟨_, rfl, ?_⟩
          rw [hnum, if_neg (by omega), if_pos (by omega)]; exact ⟨rfl, rfl⟩
        · -- c44.f
          refine w_skip (st_tn (w_seq (w_region (za rfl (wl_nil (st_tn (w_seq (w_seq (w_region (zm rfl (wl_nil (st_tn (w_cond_t (rfl) ?_)))))))))))))
          refine w_region (za rfl (wl_nil (st_tn (w_seq (w_region (za rfl (wl_nil (st_tn (w_seq (w_seq (w_region (zm rfl (zm rfl ?_)))))))))))))
          refine wl_nil (st_tn (w_block (w_loopK (X := Nat) (fun i => i ≤ szB b0.toNat ∧ (0 < i → (raw s at_ (szB b0.toNat) (decide (b0.toNat < 128))).head? ≠ some 0)) (fun i => [(10, .int .u64 (val (raw s at_ i (decide (b0.toNat < 128))) : Nat)), (47, .int .i64 i)]) (fun _ => []) (fun i => szB b0.toNat - i) (0) [(0, _), (1, _), (7, _), (8, _), (9, _), (46, _)] [] (⟨Nat.zero_le _, fun h => absurd h (Nat.lt_irrefl _)⟩) (.cons rfl (.cons rfl (.nil _))) (.cons rfl (.cons rfl (.cons rfl (.cons rfl (.cons rfl (.cons rfl (.nil _))))))) [] rfl (rfl) ?_)))
          rintro i ⟨hi, hz⟩
          refine w_norm2 (by dsimp only [List.cons_append, List.nil_append]) (by dsimp only [List.cons_append, List.nil_append]) ?_
          refine w_seq (w_region (zd rfl (op_lss rfl rfl) (wl_nil (st_tn (w_seq (w_cond_d rfl (fun hc48 => ?_) (fun hc48 => ?_)))))))
          · -- c48.t
            obtain ⟨c0, hc0⟩ := getE (l := s) (i := at_ + 1 + i) (by omega)
            have hc8 := c0.toNat_lt
            have hsucc := raw_succ (neg := decide (b0.toNat < 128)) hc0
            have hlt : val (raw s at_ i (decide (b0.toNat < 128))) < 72057594037927936 := val_raw_lt (s := s) (at_ := at_) (k := i) (neg := decide (b0.toNat < 128)) (by omega) (j := 7) (by omega)
            have hfl := flp_lt (decide (b0.toNat < 128)) c0
            refine w_skip (st_tn (w_seq (w_block (w_seq (w_region (zm rfl (za rfl (wl_nil (st_tn (w_seq (w_region (zm rfl (zd rfl (op_nilCheck rfl) ?_)))))))))))))
            refine zd rfl (op_fieldAddr (off := 0) rfl tF130_0rd) (zd rfl (op_load1 rfl tO9rd (Ent.app (Ent.fld hb 0) _)) (zm rfl (zm rfl (zd rfl (op_add' rfl rfl (by omega)) ?_))))
            refine zd rfl (op_idxBs rfl rfl Try.underlying9 (by assumption)) ?_
            refine zm rfl (zd rfl (op_val (v' := .int .u8 ((flp (decide (b0.toNat < 128)) c0 : Nat) : Int)) (by rfl) (op_xorF (decide (b0.toNat < 128)) rfl (by rw [hflip]; rfl))) ?_)
            refine za rfl (wl_nil (st_tn (w_seq (w_seq (w_region (zm rfl (zd rfl (op_eql rfl rfl) (zm rfl (wl_gsplit (t := 62) rfl (fun hg62 => ?_) (fun hg62 => ?_))))))))))
            · -- 62 is True
              refine wl_wanted_det rfl rfl rfl rfl rfl rfl rfl (op_move rfl) (wl_wanted_det rfl rfl rfl rfl rfl rfl rfl (op_eql rfl rfl) (zd rfl (op_pick_t rfl rfl) (wl_nil (st_tn (w_cond_d rfl (fun hc65 => ?_) (fun hc65 => ?_))))))
              · -- c65.t
                refine w_seq (w_region (za rfl (za rfl (za rfl (wl_nil (st_tn (w_ret (st_tr (st_br (st_tr (st_tr (st_br (st_tr ?_)))))))))))))
                refine st_ret (vs := [_, _, _]) [] Try.results95 ⟨rfl, ⟨rfl, ⟨rfl, trivial⟩⟩⟩ rfl ?_
                refine ⟨_, rfl, ?_⟩
                have hi0 : i = 0 := by simpa using hg62
                rw [hnum, if_neg (by omega), if_neg (by omega), if_pos (head_zero hc0 hi0 (by omega) (by omega))]; exact ⟨rfl, rfl⟩
              · -- c65.f
                refine w_skip (st_tn (w_region (zm rfl (zd rfl (op_shlU8 rfl rfl hlt) (zm rfl (zd rfl (op_convU64 rfl (by rw [Try.underlying5]; rfl) Try.underlying125 (by omega)) ?_))))))
                refine zd rfl (op_val (v' := .int .u64 ((val (raw s at_ (i + 1) (decide (b0.toNat < 128))) : Nat) : Int)) (by rw [hsucc, val_snoc]) (op_orU8 rfl rfl hlt hfl)) ?_
                refine za rfl (wl_nil (st_bn (st_tn (w_region (zd rfl (op_add' rfl rfl (by omega)) ?_)))))
                refine zm rfl (wl_nil ?_)
                refine st_roundK (x := i) (i + 1) [] (⟨by omega, fun _ => head_ne hc0 hz (by intro hi0; simp at hg62; omega) (by omega)⟩) (by show szB b0.toNat - (i + 1) < szB b0.toNat - i; omega) (.cons rfl (.cons rfl (.nil _))) (.cons rfl (.cons rfl (.cons rfl (.cons rfl (.cons rfl (.cons rfl (.nil _))))))) rfl (rfl)
            · -- 62 is False
              refine wl_unwanted rfl rfl rfl rfl rfl rfl rfl rfl (wl_unwanted rfl rfl rfl rfl rfl rfl rfl rfl (zd rfl (op_pick_f rfl rfl) (wl_nil (st_tn (w_cond_f (rfl) ?_)))))
              refine w_skip (st_tn (w_region (zm rfl (zd rfl (op_shlU8 rfl rfl hlt) (zm rfl (zd rfl (op_convU64 rfl (by rw [Try.underlying5]; rfl) Try.underlying125 (by omega)) ?_))))))
              refine zd rfl (op_val (v' := .int .u64 ((val (raw s at_ (i + 1) (decide (b0.toNat < 128))) : Nat) : Int)) (by rw [hsucc, val_snoc]) (op_orU8 rfl rfl hlt hfl)) ?_
              refine za rfl (wl_nil (st_bn (st_tn (w_region (zd rfl (op_add' rfl rfl (by omega)) ?_)))))
              refine zm rfl (wl_nil ?_)
              refine st_roundK (x := i) (i + 1) [] (⟨by omega, fun _ => head_ne hc0 hz (by intro hi0; simp at hg62; omega) (by omega)⟩) (by show szB b0.toNat - (i + 1) < szB b0.toNat - i; omega) (.cons rfl (.cons rfl (.nil _))) (.cons rfl (.cons rfl (.cons rfl (.cons rfl (.cons rfl (.cons rfl (.nil _))))))) rfl (rfl)
          · -- c48.f
            obtain rfl : i = szB b0.toNat := by omega
            have hhd : (raw s at_ (szB b0.toNat) (decide (b0.toNat < 128))).head? ≠ some 0 := by
              rcases Nat.eq_zero_or_pos (szB b0.toNat) with h0 | h0
              · rw [h0, raw_zero]; simp
              · exact hz h0
            have hpos : 0 < szB b0.toNat → 0 < val (raw s at_ (szB b0.toNat) (decide (b0.toNat < 128))) := fun h => val_pos hhd (raw_ne (by omega) h)
            refine w_exit (st_te ?_)
            refine st_te ?_
            refine st_be (st_tn (w_seq (w_block (w_seq (w_seq (w_region (zm rfl (zd rfl (op_not_t rfl) (zm rfl (wl_unwanted rfl rfl rfl rfl rfl rfl rfl rfl (wl_unwanted rfl rfl rfl rfl rfl rfl rfl rfl (zd rfl (op_pick_f rfl rfl) (za rfl ?_)))))))))))))
            refine wl_nil (st_tn (w_cond_f (rfl) ?_))
            refine w_region (zm rfl (zd rfl (op_gtr rfl rfl) (za rfl (wl_nil (st_tn (w_cond_d rfl (fun hc72 => ?_) (fun hc72 => ?_)))))))
            · -- c72.t
              refine w_seq (w_region (za rfl (za rfl (za rfl (wl_nil (st_tn (w_ret (st_br (st_tr (st_ret (vs := [_, _, _]) [] Try.results95 ⟨rfl, ⟨rfl, ⟨rfl, trivial⟩⟩⟩ rfl ?_))))))))))
              refine ⟨_, rfl, ?_⟩
              rw [hnum, if_neg (by omega), if_neg (by omega), if_neg hhd, if_pos (by rw [hov]; omega)]; exact ⟨rfl, rfl⟩
            · -- c72.f
              refine w_seq (w_region (zm rfl (za rfl (wl_nil (st_tn (w_cond_t (rfl) ?_))))))
              refine w_seq (w_region (zm rfl (zd rfl (op_negU64 rfl (hpos (by omega)) (by omega)) ?_)))
              refine zd rfl (op_convI64n rfl (by rw [Try.underlying125]; rfl) Try.underlying3 (hpos (by omega)) (by omega)) ?_
              refine zm rfl (zm rfl (zd rfl (op_val (v' := .int .i64 ((at_ + 1 + szB b0.toNat : Nat) : Int)) (by congr 1; omega) (op_add' rfl rfl (by omega))) ?_))
              refine za rfl (za rfl (za rfl (wl_nil (st_tn (w_ret (st_br (st_tr (st_ret (vs := [_, _, _]) [] Try.results95 ⟨rfl, ⟨rfl, ⟨rfl, trivial⟩⟩⟩ rfl ?_))))))))
              refine ⟨_, rfl, ?_⟩
              rw [hnum, if_neg (by omega), if_neg (by omega), if_neg hhd, if_neg (by rw [hov]; omega)]; simp only [hneg, if_true]; exact ⟨rfl, trivial⟩
    · -- c29.f
      have hneg : decide (b0.toNat < 128) = false := by simp; omega
      have hflip : (if decide (b0.toNat < 128) = true then 255 else 0 : Int) = 0 := by rw [hneg]; rfl
      have hov : (if decide (b0.toNat < 128) = true then 1 else 0 : Nat) = 0 := by rw [hneg]; rfl
      have hk : szB b0.toNat = b0.toNat - 128 := by unfold szB; rw [if_neg (by omega)]
      refine w_skip (st_tn (w_seq (w_seq (w_region (zm rfl (zd rfl (op_gtr rfl rfl) (wl_nil (st_tn (w_cond_d rfl (fun hc33 => ?_) (fun hc33 => ?_))))))))))
      · -- c33.t
        refine w_seq (w_region (za rfl (za rfl (za rfl (wl_nil (st_tn (w_ret (st_tr (st_ret (vs := [_, _, _]) [] Try.results95 ⟨rfl, ⟨rfl, ⟨rfl, trivial⟩⟩⟩ rfl ?_)))))))))
        refine ⟨_, rfl, ?_⟩
        rw [hnum, if_pos (by omega)]; exact ⟨rfl, rfl⟩
      · -- c33.f
        refine w_skip (st_tn (w_seq (w_region (zm rfl (zd rfl (op_add' rfl rfl (by omega)) ?_)))))
        refine za rfl (wl_nil (st_tn (w_seq (w_seq (w_region (zm rfl (zd rfl (op_nilCheck rfl) (zd rfl (op_fieldAddr (off := 0) rfl tF130_0rd) (zd rfl (op_load1 rfl tO9rd (Ent.app (Ent.fld hb 0) _)) (zd rfl (op_lenBs rfl Try.underlying9) (zm rfl (zd rfl (op_sub' rfl rfl (by omega)) ?_))))))))))))
        refine zm rfl (zd rfl (op_lss rfl rfl) (wl_nil (st_tn (w_cond_d rfl (fun hc44 => ?_) (fun hc44 => ?_)))))
        · -- c44.t
          refine w_seq (w_region (za rfl (za rfl (za rfl (wl_nil (st_tn (w_ret (st_tr (st_ret (vs := [_, _, _]) [] Try.results95 ⟨rfl, ⟨rfl, ⟨rfl, trivial⟩⟩⟩ rfl ?_)))))))))
          refine ⟨_, rfl, ?_⟩
          rw [hnum, if_neg (by omega), if_pos (by omega)]; exact ⟨rfl, rfl⟩
        · -- c44.f
          refine w_skip (st_tn (w_seq (w_region (za rfl (wl_nil (st_tn (w_seq (w_seq (w_region (zm rfl (wl_nil (st_tn (w_cond_f (rfl) ?_)))))))))))))
          refine w_skip (st_tn (w_seq (w_region (za rfl (wl_nil (st_tn (w_seq (w_seq (w_region (zm rfl (zm rfl (wl_nil (st_tn ?_)))))))))))))
          refine w_block (w_loopK (X := Nat) (fun i => i ≤ szB b0.toNat ∧ (0 < i → (raw s at_ (szB b0.toNat) (decide (b0.toNat < 128))).head? ≠ some 0)) (fun i => [(10, .int .u64 (val (raw s at_ i (decide (b0.toNat < 128))) : Nat)), (47, .int .i64 i)]) (fun _ => []) (fun i => szB b0.toNat - i) (0) [(0, _), (1, _), (7, _), (8, _), (9, _), (46, _)] [] (⟨Nat.zero_le _, fun h => absurd h (Nat.lt_irrefl _)⟩) (.cons rfl (.cons rfl (.nil _))) (.cons rfl (.cons rfl (.cons rfl (.cons rfl (.cons rfl (.cons rfl (.nil _))))))) [] rfl (rfl) ?_)
          rintro i ⟨hi, hz⟩
          refine w_norm2 (by dsimp only [List.cons_append, List.nil_append]) (by dsimp only [List.cons_append, List.nil_append]) ?_
          refine w_seq (w_region (zd rfl (op_lss rfl rfl) (wl_nil (st_tn (w_seq (w_cond_d rfl (fun hc48 => ?_) (fun hc48 => ?_)))))))
          · -- c48.t
            obtain ⟨c0, hc0⟩ := getE (l := s) (i := at_ + 1 + i) (by omega)
            have hc8 := c0.toNat_lt
            have hsucc := raw_succ (neg := decide (b0.toNat < 128)) hc0
            have hlt : val (raw s at_ i (decide (b0.toNat < 128))) < 72057594037927936 := val_raw_lt (s := s) (at_ := at_) (k := i) (neg := decide (b0.toNat < 128)) (by omega) (j := 7) (by omega)
            have hfl := flp_lt (decide (b0.toNat < 128)) c0
            refine w_skip (st_tn (w_seq (w_block (w_seq (w_region (zm rfl (za rfl (wl_nil (st_tn (w_seq (w_region (zm rfl (zd rfl (op_nilCheck rfl) ?_)))))))))))))
            refine zd rfl (op_fieldAddr (off := 0) rfl tF130_0rd) (zd rfl (op_load1 rfl tO9rd (Ent.app (Ent.fld hb 0) _)) (zm rfl (zm rfl (zd rfl (op_add' rfl rfl (by omega)) ?_))))
            refine zd rfl (op_idxBs rfl rfl Try.underlying9 (by assumption)) ?_
            refine zm rfl (zd rfl (op_val (v' := .int .u8 ((flp (decide (b0.toNat < 128)) c0 : Nat) : Int)) (by rfl) (op_xorF (decide (b0.toNat < 128)) rfl (by rw [hflip]; rfl))) ?_)
            refine za rfl (wl_nil (st_tn (w_seq (w_seq (w_region (zm rfl (zd rfl (op_eql rfl rfl) (zm rfl (wl_gsplit (t := 62) rfl (fun hg62 => ?_) (fun hg62 => ?_))))))))))
            · -- 62 is True
              refine wl_wanted_det rfl rfl rfl rfl rfl rfl rfl (op_move rfl) (wl_wanted_det rfl rfl rfl rfl rfl rfl rfl (op_eql rfl rfl) (zd rfl (op_pick_t rfl rfl) (wl_nil (st_tn (w_cond_d rfl (fun hc65 => ?_) (fun hc65 => ?_))))))
              · -- c65.t
                refine w_seq (w_region (za rfl (za rfl (za rfl (wl_nil (st_tn (w_ret (st_tr (st_br (st_tr (st_tr (st_br (st_tr ?_)))))))))))))
                refine st_ret (vs := [_, _, _]) [] Try.results95 ⟨rfl, ⟨rfl, ⟨rfl, trivial⟩⟩⟩ rfl ?_
                refine ⟨_, rfl, ?_⟩
                have hi0 : i = 0 := by simpa using hg62
                rw [hnum, if_neg (by omega), if_neg (by omega), if_pos (head_zero hc0 hi0 (by omega) (by omega))]; exact ⟨rfl, rfl⟩
              · -- c65.f
                refine w_skip (st_tn (w_region (zm rfl (zd rfl (op_shlU8 rfl rfl hlt) (zm rfl (zd rfl (op_convU64 rfl (by rw [Try.underlying5]; rfl) Try.underlying125 (by omega)) ?_))))))
                refine zd rfl (op_val (v' := .int .u64 ((val (raw s at_ (i + 1) (decide (b0.toNat < 128))) : Nat) : Int)) (by rw [hsucc, val_snoc]) (op_orU8 rfl rfl hlt hfl)) ?_
                refine za rfl (wl_nil (st_bn (st_tn (w_region (zd rfl (op_add' rfl rfl (by omega)) ?_)))))
                refine zm rfl (wl_nil ?_)
                refine st_roundK (x := i) (i + 1) [] (⟨by omega, fun _ => head_ne hc0 hz (by intro hi0; simp at hg62; omega) (by omega)⟩) (by show szB b0.toNat - (i + 1) < szB b0.toNat - i; omega) (.cons rfl (.cons rfl (.nil _))) (.cons rfl (.cons rfl (.cons rfl (.cons rfl (.cons rfl (.cons rfl (.nil _))))))) rfl (rfl)
            · -- 62 is False
              refine wl_unwanted rfl rfl rfl rfl rfl rfl rfl rfl (wl_unwanted rfl rfl rfl rfl rfl rfl rfl rfl (zd rfl (op_pick_f rfl rfl) (wl_nil (st_tn (w_cond_f (rfl) ?_)))))
              refine w_skip (st_tn (w_region (zm rfl (zd rfl (op_shlU8 rfl rfl hlt) (zm rfl (zd rfl (op_convU64 rfl (by rw [Try.underlying5]; rfl) Try.underlying125 (by omega)) ?_))))))
              refine zd rfl (op_val (v' := .int .u64 ((val (raw s at_ (i + 1) (decide (b0.toNat < 128))) : Nat) : Int)) (by rw [hsucc, val_snoc]) (op_orU8 rfl rfl hlt hfl)) ?_
              refine za rfl (wl_nil (st_bn (st_tn (w_region (zd rfl (op_add' rfl rfl (by omega)) ?_)))))
              refine zm rfl (wl_nil ?_)
              refine st_roundK (x := i) (i + 1) [] (⟨by omega, fun _ => head_ne hc0 hz (by intro hi0; simp at hg62; omega) (by omega)⟩) (by show szB b0.toNat - (i + 1) < szB b0.toNat - i; omega) (.cons rfl (.cons rfl (.nil _))) (.cons rfl (.cons rfl (.cons rfl (.cons rfl (.cons rfl (.cons rfl (.nil _))))))) rfl (rfl)
          · -- c48.f
            obtain rfl : i = szB b0.toNat := by omega
            have hhd : (raw s at_ (szB b0.toNat) (decide (b0.toNat < 128))).head? ≠ some 0 := by
              rcases Nat.eq_zero_or_pos (szB b0.toNat) with h0 | h0
              · rw [h0, raw_zero]; simp
              · exact hz h0
            have hpos : 0 < szB b0.toNat → 0 < val (raw s at_ (szB b0.toNat) (decide (b0.toNat < 128))) := fun h => val_pos hhd (raw_ne (by omega) h)
            refine w_exit (st_te ?_)
            refine st_te ?_
            refine st_be (st_tn (w_seq (w_block (w_seq (w_seq (w_region (zm rfl (zd rfl (op_not_f rfl) (zm rfl (wl_wanted_det rfl rfl rfl rfl rfl rfl rfl (op_move rfl) (wl_wanted_det rfl rfl rfl rfl rfl rfl rfl (op_gtr rfl rfl) (zd rfl (op_pick_t rfl rfl) (za rfl ?_)))))))))))))
            refine wl_nil (st_tn (w_cond_d rfl (fun hc72 => ?_) (fun hc72 => ?_)))
            · -- c72.t
              refine w_skip (st_tn (w_cond_d rfl (fun hc72 => ?_) (fun hc72 => ?_)))
              · -- c72.t
                refine w_seq (w_region (za rfl (za rfl (za rfl (wl_nil (st_tn (w_ret (st_br (st_tr (st_ret (vs := [_, _, _]) [] Try.results95 ⟨rfl, ⟨rfl, ⟨rfl, trivial⟩⟩⟩ rfl ?_))))))))))
                refine ⟨_, rfl, ?_⟩
                rw [hnum, if_neg (by omega), if_neg (by omega), if_neg hhd, if_pos (by rw [hov]; omega)]; exact ⟨rfl, rfl⟩
              · -- c72.f
                refine w_seq (w_region (zm rfl (za rfl (wl_nil (st_tn (w_cond_f (rfl) ?_))))))
                refine w_skip (st_bn (st_tn (w_seq (w_region (zm rfl (zd rfl (op_convI64 rfl (by rw [Try.underlying125]; rfl) Try.underlying3 (by omega)) ?_))))))
                refine zm rfl (zm rfl (zd rfl (op_val (v' := .int .i64 ((at_ + 1 + szB b0.toNat : Nat) : Int)) (by congr 1; omega) (op_add' rfl rfl (by omega))) ?_))
                refine za rfl (za rfl (za rfl (wl_nil (st_tn (w_ret (st_ret (vs := [_, _, _]) [] Try.results95 ⟨rfl, ⟨rfl, ⟨rfl, trivial⟩⟩⟩ rfl ?_))))))
                refine ⟨_, rfl, ?_⟩
                rw [hnum, if_neg (by omega), if_neg (by omega), if_neg hhd, if_neg (by rw [hov]; omega)]; simp only [hneg, Bool.false_eq_true, if_false]; exact ⟨rfl, trivial⟩
            · -- c72.f
              refine w_region (zm rfl (zd rfl (op_gtr rfl rfl) (za rfl (wl_nil (st_tn (w_cond_d rfl (fun hc72 => ?_) (fun hc72 => ?_)))))))
              · -- c72.t
                refine w_seq (w_region (za rfl (za rfl (za rfl (wl_nil (st_tn (w_ret (st_br (st_tr (st_ret (vs := [_, _, _]) [] Try.results95 ⟨rfl, ⟨rfl, ⟨rfl, trivial⟩⟩⟩ rfl ?_))))))))))
                refine ⟨_, rfl, ?_⟩
                rw [hnum, if_neg (by omega), if_neg (by omega), if_neg hhd, if_pos (by rw [hov]; omega)]; exact ⟨rfl, rfl⟩
              · -- c72.f
                refine w_seq (w_region (zm rfl (za rfl (wl_nil (st_tn (w_cond_f (rfl) ?_))))))
                refine w_skip (st_bn (st_tn (w_seq (w_region (zm rfl (zd rfl (op_convI64 rfl (by rw [Try.underlying125]; rfl) Try.underlying3 (by omega)) ?_))))))
                refine zm rfl (zm rfl (zd rfl (op_val (v' := .int .i64 ((at_ + 1 + szB b0.toNat : Nat) : Int)) (by congr 1; omega) (op_add' rfl rfl (by omega))) ?_))
                refine za rfl (za rfl (za rfl (wl_nil (st_tn (w_ret (st_ret (vs := [_, _, _]) [] Try.results95 ⟨rfl, ⟨rfl, ⟨rfl, trivial⟩⟩⟩ rfl ?_))))))
                refine ⟨_, rfl, ?_⟩
                rw [hnum, if_neg (by omega), if_neg (by omega), if_neg hhd, if_neg (by rw [hov]; omega)]; simp only [hneg, Bool.false_eq_true, if_false]; exact ⟨rfl, trivial⟩
end Go.Proofs.Ytcbigmgakdanjaa
namespace Go.Proofs.Ytcbigmgakdanjaa
open Go Go.SL Go.RowKit Go.RdM
set_option linter.unusedVariables false
set_option linter.unusedSimpArgs false
theorem tB130re : placesB Try.prog 130 = some ([(0, 1), (1, 1), (2, 1)], [Value.string .empty, Value.int .i64 0, Value.int .i64 0]) := by kernel_rfl
theorem tF130_0re : fieldB Try.prog 130 0 0 = true := by kernel_rfl
theorem tF130_1re : fieldB Try.prog 130 1 1 = true := by kernel_rfl
theorem tF130_2re : fieldB Try.prog 130 2 2 = true := by kernel_rfl
theorem tMixre : Try.prog.follows .mixedOrders = true := by kernel_rfl
theorem tO28re : oneB Try.prog 28 = true := by kernel_rfl
theorem tO3re : oneB Try.prog 3 = true := by kernel_rfl
theorem tO9re : oneB Try.prog 9 = true := by kernel_rfl
theorem tZ28re : (Try.prog.info? 28).map (·.size) = some 1 := by kernel_rfl
theorem tZ3re : (Try.prog.info? 3).map (·.size) = some 1 := by kernel_rfl
theorem celR {σ : World} {F : List Res} {R : RL} {b T : Nat} {s : RdM.Bs} {r : Rd} (lab : Nat) (h : getL R lab = some (cel b (cellR s r) T)) : Ent σ (rs R ++ F) (At ⟨b, 0, none⟩ (cellR s r)) := Ent.lab h (says_cel 0)
set_option maxHeartbeats 400000 in
set_option maxRecDepth 100000 in
theorem rok_any {σ : World} {F : List Res} {b : Nat} {s : RdM.Bs} {r : Rd} (hb : Ent σ F (At ⟨b, 0, none⟩ (cellR s r))) :
    FnT Try.prog σ F 93 [.pointer (some ⟨b, 0, none⟩)] [] (fun u ρ => u = .bool (decide (r.e = 0)) ∧ ρ = []) := by
  refine fn_of 12 Try.func93 rfl Try.ntmps93 rfl ?_
  refine w_seq (w_region (za rfl (wl_nil (st_tn (w_seq (w_region (zm rfl (zd rfl (op_val (v' := .bool true) (by simp) (op_nePtr rfl Try.underlying116)) ?_))))))))
  refine zm rfl (wl_wanted_det rfl rfl rfl rfl rfl rfl rfl (op_move rfl) (wl_wanted_det rfl rfl rfl rfl rfl rfl rfl (op_nilCheck rfl) (wl_wanted_det rfl rfl rfl rfl rfl rfl rfl (op_fieldAddr (off := 2) rfl tF130_2re) (wl_wanted_det rfl rfl rfl rfl rfl rfl rfl (op_load1 rfl tO28re (Ent.app (Ent.fld hb 2) _)) (wl_wanted_det rfl rfl rfl rfl rfl rfl rfl (op_eql rfl rfl) (zd rfl (op_pick_t rfl rfl) (za rfl (wl_nil (st_tn (w_ret (st_ret (vs := [_]) [] Try.results93 ⟨rfl, trivial⟩ rfl ?_)))))))))))
  refine ⟨_, rfl, ?_⟩
  exact ⟨rfl, rfl⟩
set_option maxHeartbeats 400000 in
set_option maxRecDepth 100000 in
theorem rfail_any {σ : World} {F : List Res} {b : Nat} {s : RdM.Bs} {r : Rd} (e : Int) (he : r.e = 0) :
    FnT Try.prog σ F 96 [.pointer (some ⟨b, 0, none⟩), .int .i64 e] [(600, cel b (cellR s r) 130)] (fun u ρ => u = .tuple #[] ∧ ρ = [(600, cel b (cellR s ⟨r.at_, e⟩) 130)]) := by
  refine fn_of 13 Try.func96 rfl Try.ntmps96 rfl ?_
  refine w_seq (w_region (zm rfl (zd rfl (op_nilCheck rfl) (zd rfl (op_fieldAddr (off := 2) rfl tF130_2re) (zd rfl (op_load1 rfl tO28re (Ent.lab (l := 600) rfl (says_cel 2))) (zd rfl (op_eql rfl rfl) (wl_nil (st_tn (w_cond_d rfl (fun hc8 => ?_) (fun hc8 => ?_))))))))))
  · -- c8.t
    refine w_region (zm rfl (zm rfl (zd rfl (op_nilCheck rfl) (zd rfl (op_fieldAddr (off := 2) rfl tF130_2re) (wl_op0 [600] rfl rfl rfl (op_store rfl rfl tZ28re (by rfl) (by rfl) (by exact Nat.le_of_ble_eq_true rfl)) ?_)))))
    rintro _ _ ⟨rfl, rfl⟩
    refine wl_nil (st_end (vs := []) [600] Try.results96 trivial rfl ?_)
    refine ⟨[(600, _)], rfl, ?_⟩
    exact ⟨rfl, rfl⟩
  · -- c8.f
    exfalso; exact hc8 he
set_option maxHeartbeats 400000 in
set_option maxRecDepth 100000 in
theorem rsize_any {σ : World} {F : List Res} {b : Nat} {s : RdM.Bs} {r : Rd} (most more : Int) (he : r.e = 0) (hs : s.length ≤ 1099511627776) (hm : more ≠ 0) :
    FnT Try.prog σ F 94 [.pointer (some ⟨b, 0, none⟩), .int .i64 most, .int .i64 more] [(600, cel b (cellR s r) 130)] (fun u ρ => u = .tuple #[.int .i64 (if szE s r.at_ most more = 0 then (num s r.at_).1 else 0), .int .i64 ((if szE s r.at_ most more = 0 then (num s r.at_).2.1 else 0 : Nat) : Int), .bool (decide (szE s r.at_ most more = 0))] ∧ ρ = [(600, cel b (cellR s ⟨r.at_, szE s r.at_ most more⟩) 130)]) := by
  refine fn_of 48 Try.func94 rfl Try.ntmps94 rfl ?_
  have hbd := num_bd s r.at_
  refine w_seq (w_region (za rfl (za rfl (za rfl (wl_nil (st_tn (w_seq (w_region (zm rfl (zm rfl (zd rfl (op_nilCheck rfl) (zd rfl (op_fieldAddr (off := 1) rfl tF130_1re) (zd rfl (op_load1 rfl tO3re (Ent.lab (l := 600) rfl (says_cel 1))) ?_)))))))))))))
  refine zd rfl (op_fn Try.func95 rfl rfl rfl (num_any (r := r) r.at_ (celR 600 rfl) hs)) (zm rfl (zd rfl (op_extract rfl rfl) (zd rfl (op_extract rfl rfl) (zd rfl (op_extract rfl rfl) (za rfl (za rfl (za rfl (wl_nil (st_tn (w_seq (w_block (w_seq (w_region ?_)))))))))))))
  refine zm rfl (zd rfl (op_neq rfl rfl) (za rfl (wl_nil (st_tn (w_cond_d rfl (fun hc20 => ?_) (fun hc20 => ?_))))))
  · -- c20.t
    have hz : szE s r.at_ most more = (num s r.at_).2.2 := by unfold szE; rw [if_pos hc20]
    have hz0 : szE s r.at_ most more ≠ 0 := by rw [hz]; exact hc20
    refine w_skip (st_bn (st_tn (w_seq (w_seq (w_region (zm rfl (zd rfl (op_val (v' := .bool true) (by simp; exact hc20) (op_neq rfl rfl)) ?_)))))))
    refine wl_nil (st_tn (w_cond_t (rfl) ?_))
    refine w_seq (w_region (zm rfl (zm rfl (wl_op [600] rfl rfl rfl rfl (op_fn Try.func96 rfl rfl rfl (rfail_any _ he)) ?_))))
    rintro _ _ ⟨rfl, rfl⟩
    refine wl_nil (st_tn (w_seq (w_region (za rfl (za rfl (za rfl (wl_nil (st_tn (w_ret (st_tr (st_ret (vs := [_, _, _]) [600] Try.results94 ⟨rfl, ⟨rfl, ⟨rfl, trivial⟩⟩⟩ rfl ?_)))))))))))
    refine ⟨[(600, _)], rfl, ?_⟩
    exact ⟨by rw [if_neg hz0, if_neg hz0, decide_eq_false hz0]; rfl, by rw [hz]⟩
  · -- c20.f
    refine w_seq (w_region (zm rfl (zd rfl (op_lss rfl rfl) (za rfl (wl_nil (st_tn (w_cond_d rfl (fun hc23 => ?_) (fun hc23 => ?_))))))))
    · -- c23.t
      have hz : szE s r.at_ most more = 3 := by unfold szE; rw [if_neg hc20, if_pos hc23]
      have hz0 : szE s r.at_ most more ≠ 0 := by rw [hz]; simp
      refine w_region (za rfl (wl_nil (st_bn (st_tn (w_seq (w_seq (w_region (zm rfl (zd rfl (op_val (v' := .bool true) (by simp) (op_neq rfl rfl)) ?_)))))))))
      refine wl_nil (st_tn (w_cond_t (rfl) ?_))
      refine w_seq (w_region (zm rfl (zm rfl (wl_op [600] rfl rfl rfl rfl (op_fn Try.func96 rfl rfl rfl (rfail_any _ he)) ?_))))
      rintro _ _ ⟨rfl, rfl⟩
      refine wl_nil (st_tn (w_seq (w_region (za rfl (za rfl (za rfl (wl_nil (st_tn (w_ret (st_tr (st_ret (vs := [_, _, _]) [600] Try.results94 ⟨rfl, ⟨rfl, ⟨rfl, trivial⟩⟩⟩ rfl ?_)))))))))))
      refine ⟨[(600, _)], rfl, ?_⟩
      exact ⟨by rw [if_neg hz0, if_neg hz0, decide_eq_false hz0]; rfl, by rw [hz]⟩
    · -- c23.f
      refine w_seq (w_region (zm rfl (zm rfl (zd rfl (op_gtr rfl rfl) (za rfl (wl_nil (st_tn (w_cond_d rfl (fun hc26 => ?_) (fun hc26 => ?_)))))))))
      · -- c26.t
        have hz : szE s r.at_ most more = more := by unfold szE; rw [if_neg hc20, if_neg hc23, if_pos hc26]
        have hz0 : szE s r.at_ most more ≠ 0 := by rw [hz]; exact hm
        refine w_region (zm rfl (za rfl (wl_nil (st_bn (st_tn (w_seq (w_seq (w_region (zm rfl (zd rfl (op_val (v' := .bool true) (by simp; exact hm) (op_neq rfl rfl)) ?_))))))))))
        refine wl_nil (st_tn (w_cond_t (rfl) ?_))
        refine w_seq (w_region (zm rfl (zm rfl (wl_op [600] rfl rfl rfl rfl (op_fn Try.func96 rfl rfl rfl (rfail_any _ he)) ?_))))
        rintro _ _ ⟨rfl, rfl⟩
        refine wl_nil (st_tn (w_seq (w_region (za rfl (za rfl (za rfl (wl_nil (st_tn (w_ret (st_tr (st_ret (vs := [_, _, _]) [600] Try.results94 ⟨rfl, ⟨rfl, ⟨rfl, trivial⟩⟩⟩ rfl ?_)))))))))))
        refine ⟨[(600, _)], rfl, ?_⟩
        exact ⟨by rw [if_neg hz0, if_neg hz0, decide_eq_false hz0]; rfl, by rw [hz]⟩
      · -- c26.f
        refine w_seq (w_region (zm rfl (zd rfl (op_nilCheck rfl) (zd rfl (op_fieldAddr (off := 0) rfl tF130_0re) (zd rfl (op_load1 rfl tO9re (Ent.lab (l := 600) rfl (says_cel 0))) (zd rfl (op_lenBs rfl Try.underlying9) (zm rfl (zd rfl (op_sub' rfl rfl (by omega)) ?_))))))))
        refine zm rfl (zd rfl (op_lss rfl rfl) (za rfl (wl_nil (st_tn (w_cond_d rfl (fun hc31 => ?_) (fun hc31 => ?_))))))
        · -- c31.t
          have hz : szE s r.at_ most more = 4 := by unfold szE; rw [if_neg hc20, if_neg hc23, if_neg hc26, if_pos hc31]
          have hz0 : szE s r.at_ most more ≠ 0 := by rw [hz]; simp
          refine w_region (za rfl (wl_nil (st_bn (st_tn (w_seq (w_seq (w_region (zm rfl (zd rfl (op_val (v' := .bool true) (by simp) (op_neq rfl rfl)) ?_)))))))))
          refine wl_nil (st_tn (w_cond_t (rfl) ?_))
          refine w_seq (w_region (zm rfl (zm rfl (wl_op [600] rfl rfl rfl rfl (op_fn Try.func96 rfl rfl rfl (rfail_any _ he)) ?_))))
          rintro _ _ ⟨rfl, rfl⟩
          refine wl_nil (st_tn (w_seq (w_region (za rfl (za rfl (za rfl (wl_nil (st_tn (w_ret (st_tr (st_ret (vs := [_, _, _]) [600] Try.results94 ⟨rfl, ⟨rfl, ⟨rfl, trivial⟩⟩⟩ rfl ?_)))))))))))
          refine ⟨[(600, _)], rfl, ?_⟩
          exact ⟨by rw [if_neg hz0, if_neg hz0, decide_eq_false hz0]; rfl, by rw [hz]⟩
        · -- c31.f
          have hz : szE s r.at_ most more = 0 := by unfold szE; rw [if_neg hc20, if_neg hc23, if_neg hc26, if_neg hc31]
          refine w_skip (st_bn (st_tn (w_seq (w_seq (w_region (zm rfl (zd rfl (op_val (v' := .bool false) (by simp; omega) (op_neq rfl rfl)) ?_)))))))
          refine wl_nil (st_tn (w_cond_f (rfl) ?_))
          refine w_skip (st_tn (w_seq (w_region (zm rfl (zm rfl (za rfl (za rfl (za rfl (wl_nil (st_tn (w_ret (st_ret (vs := [_, _, _]) [600] Try.results94 ⟨rfl, ⟨rfl, ⟨rfl, trivial⟩⟩⟩ rfl ?_))))))))))))
          refine ⟨[(600, _)], rfl, ?_⟩
          exact ⟨by rw [if_pos hz, if_pos hz, decide_eq_true hz]; rfl, by rw [hz, ← he]⟩
set_option maxHeartbeats 400000 in
set_option maxRecDepth 100000 in
theorem rnum_any {σ : World} {F : List Res} {b : Nat} {s : RdM.Bs} (r : Rd) (hs : s.length ≤ 1099511627776) :
    FnT Try.prog σ F 84 [.pointer (some ⟨b, 0, none⟩)] [(600, cel b (cellR s r) 130)] (fun u ρ => u = .int .i64 (rdN s r).1 ∧ ρ = [(600, cel b (cellR s (rdN s r).2) 130)]) := by
  refine fn_of 29 Try.func84 rfl Try.ntmps84 rfl ?_
  refine w_seq (w_region (za rfl (wl_nil (st_tn (w_seq (w_seq (w_region (zm rfl (zd rfl (op_fn Try.func93 rfl rfl rfl (rok_any (celR 600 rfl))) (zd rfl (op_not_d rfl) (wl_nil (st_tn (w_cond_d rfl (fun hc8 => ?_) (fun hc8 => ?_))))))))))))))
  · -- c8.t
    refine w_seq (w_region (za rfl (wl_nil (st_tn (w_ret (st_tr (st_ret (vs := [_]) [600] Try.results84 ⟨rfl, trivial⟩ rfl ?_)))))))
    refine ⟨[(600, _)], rfl, ?_⟩
    have hr : rdN s r = (0, r) := rdN_err hc8
    rw [hr]; exact ⟨rfl, rfl⟩
  · -- c8.f
    have he : r.e = 0 := Classical.not_not.1 hc8
    refine w_skip (st_tn (w_seq (w_region (zm rfl (zm rfl (zd rfl (op_nilCheck rfl) (zd rfl (op_fieldAddr (off := 1) rfl tF130_1re) (zd rfl (op_load1 rfl tO3re (Ent.lab (l := 600) rfl (says_cel 1))) (zd rfl (op_fn Try.func95 rfl rfl rfl (num_any (r := r) r.at_ (celR 600 rfl) hs)) (zm rfl (zd rfl (op_extract rfl rfl) (zd rfl (op_extract rfl rfl) (zd rfl (op_extract rfl rfl) ?_)))))))))))))
    refine za rfl (za rfl (za rfl (wl_nil (st_tn (w_seq (w_seq (w_region (zm rfl (zd rfl (op_neq rfl rfl) (wl_nil (st_tn (w_cond_d rfl (fun hc20 => ?_) (fun hc20 => ?_)))))))))))))
    · -- c20.t
      refine w_seq (w_region (zm rfl (zm rfl (wl_op [600] rfl rfl rfl rfl (op_fn Try.func96 rfl rfl rfl (rfail_any _ he)) ?_))))
      rintro _ _ ⟨rfl, rfl⟩
      refine wl_nil (st_tn (w_seq (w_region (za rfl (wl_nil (st_tn (w_ret (st_tr (st_ret (vs := [_]) [600] Try.results84 ⟨rfl, trivial⟩ rfl ?_)))))))))
      refine ⟨[(600, _)], rfl, ?_⟩
      have hr : rdN s r = (0, ⟨r.at_, (num s r.at_).2.2⟩) := by unfold rdN; rw [if_neg hc8, if_pos hc20]
      rw [hr]; exact ⟨rfl, rfl⟩
    · -- c20.f
      refine w_skip (st_tn (w_seq (w_region (zm rfl (zm rfl (zd rfl (op_nilCheck rfl) (zd rfl (op_fieldAddr (off := 1) rfl tF130_1re) (wl_op0 [600] rfl rfl rfl (op_store rfl rfl tZ3re (by rfl) (by rfl) (by exact Nat.le_of_ble_eq_true rfl)) ?_))))))))
      rintro _ _ ⟨rfl, rfl⟩
      refine wl_nil (st_tn (w_seq (w_region (zm rfl (za rfl (wl_nil (st_tn (w_ret (st_ret (vs := [_]) [600] Try.results84 ⟨rfl, trivial⟩ rfl ?_)))))))))
      refine ⟨[(600, _)], rfl, ?_⟩
      have hr : rdN s r = ((num s r.at_).1, ⟨(num s r.at_).2.1, 0⟩) := by unfold rdN; rw [if_neg hc8, if_neg hc20]
      rw [hr, ← he]; exact ⟨rfl, rfl⟩
set_option maxHeartbeats 400000 in
set_option maxRecDepth 100000 in
theorem rcnt_any {σ : World} {F : List Res} {b : Nat} {s : RdM.Bs} (most : Int) (r : Rd) (hs : s.length ≤ 1099511627776) :
    FnT Try.prog σ F 86 [.pointer (some ⟨b, 0, none⟩), .int .i64 most] [(600, cel b (cellR s r) 130)] (fun u ρ => u = .int .i64 (rdC s most r).1 ∧ ρ = [(600, cel b (cellR s (rdC s most r).2) 130)]) := by
  refine fn_of 24 Try.func86 rfl Try.ntmps86 rfl ?_
  refine w_seq (w_region (za rfl (wl_nil (st_tn (w_seq (w_seq (w_region (zm rfl (zd rfl (op_fn Try.func93 rfl rfl rfl (rok_any (celR 600 rfl))) (zd rfl (op_not_d rfl) (wl_nil (st_tn (w_cond_d rfl (fun hc10 => ?_) (fun hc10 => ?_))))))))))))))
  · -- c10.t
    refine w_seq (w_region (za rfl (wl_nil (st_tn (w_ret (st_tr (st_ret (vs := [_]) [600] Try.results86 ⟨rfl, trivial⟩ rfl ?_)))))))
    refine ⟨[(600, _)], rfl, ?_⟩
    have hr : rdC s most r = (0, r) := by unfold rdC; rw [if_pos hc10]
    rw [hr]; exact ⟨rfl, rfl⟩
  · -- c10.f
    have he : r.e = 0 := Classical.not_not.1 hc10
    refine w_skip (st_tn (w_seq (w_region (zm rfl (zm rfl (wl_op [600] rfl rfl rfl rfl (op_fn Try.func94 rfl rfl rfl (rsize_any most 6 he hs (by simp))) ?_))))))
    rintro _ _ ⟨rfl, rfl⟩
    refine zm rfl (zd rfl (op_extract rfl rfl) (zd rfl (op_extract rfl rfl) (zd rfl (op_extract rfl rfl) (za rfl (za rfl (za rfl (wl_nil (st_tn (w_seq (w_seq (w_region (zm rfl (wl_nil ?_)))))))))))))
    refine st_tn (w_cond_d rfl (fun hc18 => ?_) (fun hc18 => ?_))
    · -- c18.t
      have hr : rdC s most r = ((num s r.at_).1, ⟨(num s r.at_).2.1, 0⟩) := by unfold rdC; rw [if_neg hc10, if_neg (fun h => h hc18)]
      rw [hr, hc18]
      simp only [if_true]
      refine w_region (zm rfl (zm rfl (zd rfl (op_nilCheck rfl) (zd rfl (op_fieldAddr (off := 1) rfl tF130_1re) (wl_op0 [600] rfl rfl rfl (op_store rfl rfl tZ3re (by rfl) (by rfl) (by exact Nat.le_of_ble_eq_true rfl)) ?_)))))
      rintro _ _ ⟨rfl, rfl⟩
      refine wl_nil (st_tn (w_seq (w_region (zm rfl (za rfl (wl_nil (st_tn (w_ret (st_ret (vs := [_]) [600] Try.results86 ⟨rfl, trivial⟩ rfl ?_)))))))))
      refine ⟨[(600, _)], rfl, ?_⟩
      exact ⟨rfl, rfl⟩
    · -- c18.f
      have hr : rdC s most r = (0, ⟨r.at_, szE s r.at_ most 6⟩) := by unfold rdC; rw [if_neg hc10, if_pos hc18]
      rw [hr]
      simp only [if_neg hc18]
      refine w_skip (st_tn (w_seq (w_region (zm rfl (za rfl (wl_nil (st_tn (w_ret (st_ret (vs := [_]) [600] Try.results86 ⟨rfl, trivial⟩ rfl ?_)))))))))
      refine ⟨[(600, _)], rfl, ?_⟩
      exact ⟨rfl, rfl⟩
set_option maxHeartbeats 400000 in
set_option maxRecDepth 100000 in
theorem rerr_any {σ : World} {F : List Res} {b : Nat} {s : RdM.Bs} {r : Rd} (hb : Ent σ F (At ⟨b, 0, none⟩ (cellR s r))) :
    FnT Try.prog σ F 85 [.pointer (some ⟨b, 0, none⟩)] [] (fun u ρ => u = .int .i64 r.e ∧ ρ = []) := by
  refine fn_of 9 Try.func85 rfl Try.ntmps85 rfl ?_
  refine w_seq (w_region (za rfl (wl_nil (st_tn (w_seq (w_seq (w_region (zm rfl (zd rfl (op_val (v' := .bool false) (by simp) (op_eqPtr rfl Try.underlying116)) ?_)))))))))
  refine wl_nil (st_tn (w_cond_f (rfl) ?_))
  refine w_skip (st_tn (w_seq (w_region (zm rfl (zd rfl (op_nilCheck rfl) (zd rfl (op_fieldAddr (off := 2) rfl tF130_2re) (zd rfl (op_load1 rfl tO28re (Ent.app (Ent.fld hb 2) _)) (za rfl (wl_nil (st_tn (w_ret (st_ret (vs := [_]) [] Try.results85 ⟨rfl, trivial⟩ rfl ?_))))))))))))
  refine ⟨_, rfl, ?_⟩
  exact ⟨rfl, rfl⟩
set_option maxHeartbeats 400000 in
set_option maxRecDepth 100000 in
theorem rend_any {σ : World} {F : List Res} {b : Nat} {s : RdM.Bs} {r : Rd} (hb : Ent σ F (At ⟨b, 0, none⟩ (cellR s r))) :
    FnT Try.prog σ F 87 [.pointer (some ⟨b, 0, none⟩)] [] (fun u ρ => u = .int .i64 (endE s r) ∧ ρ = []) := by
  refine fn_of 27 Try.func87 rfl Try.ntmps87 rfl ?_
  refine w_seq (w_region (za rfl (wl_nil (st_tn (w_seq (w_block (w_seq (w_region (zm rfl (zd rfl (op_val (v' := .bool false) (by simp) (op_eqPtr rfl Try.underlying116)) ?_))))))))))
  refine za rfl (wl_nil (st_tn (w_cond_f (rfl) ?_)))
  refine w_seq (w_region (zm rfl (zd rfl (op_nilCheck rfl) (zd rfl (op_fieldAddr (off := 2) rfl tF130_2re) (zd rfl (op_load1 rfl tO28re (Ent.app (Ent.fld hb 2) _)) (zd rfl (op_neq rfl rfl) (za rfl (wl_nil (st_tn (w_cond_d rfl (fun hc6 => ?_) (fun hc6 => ?_)))))))))))
  · -- c6.t
    refine w_seq (w_region (zm rfl (zd rfl (op_nilCheck rfl) (zd rfl (op_fieldAddr (off := 2) rfl tF130_2re) (zd rfl (op_load1 rfl tO28re (Ent.app (Ent.fld hb 2) _)) (za rfl (wl_nil (st_tn (w_ret (st_br (st_tr (st_ret (vs := [_]) [] Try.results87 ⟨rfl, trivial⟩ rfl ?_))))))))))))
    refine ⟨_, rfl, ?_⟩
    unfold endE; rw [if_pos (by assumption)]; exact ⟨rfl, rfl⟩
  · -- c6.f
    refine w_seq ?_
    refine w_drawW (fun β => [⟨17, [], [], [], noW (_), false, [], []⟩, ⟨18, [0], [], [], noW (_), false, [], []⟩, ⟨19, [1], [], [], noW (_), false, [], []⟩, ⟨20, [2], [], [], noW (_), false, [], []⟩, ⟨21, [], [], [], noW (_), false, [], []⟩, ⟨22, [4], [], [], noW (_), false, [], []⟩, ⟨23, [5], [], [], noW (_), false, [], []⟩, ⟨24, [6], [], [], noW (_), false, [], []⟩, ⟨25, [7], [], [], noW (_), false, [], []⟩]) [] [0] [⟨17, [], [], false, [], []⟩, ⟨18, [0], [], false, [], []⟩, ⟨19, [1], [], false, [], []⟩, ⟨20, [2], [], false, [], []⟩, ⟨21, [], [], false, [], []⟩, ⟨22, [4], [], false, [], []⟩, ⟨23, [5], [], false, [], []⟩, ⟨24, [6], [], false, [], []⟩, ⟨25, [7], [], false, [], []⟩] [[], [], [], [], [], [], [], [], []] [[], [], [], [], [], [], [], [], []] tMixre (fun _ => by rfl) (fun _ => by rfl) (by kernel_rfl) (by kernel_rfl) (by rfl) (by rfl)
        (fun β => ⟨.p rfl (by intro X; exact op_move rfl),
        ⟨.p rfl (by intro X; rintro _ _ ⟨rfl, rfl⟩; exact op_nilCheck rfl),
        ⟨.p rfl (by intro X; rintro _ _ ⟨rfl, rfl⟩; exact op_fieldAddr (off := 1) rfl tF130_1re),
        ⟨.p rfl (by intro X; rintro _ _ ⟨rfl, rfl⟩; exact op_load1 rfl tO3re (Ent.app (Ent.app (Ent.fld hb 1) X) _)),
        ⟨.p rfl (by intro X; exact op_move rfl),
        ⟨.p rfl (by intro X; rintro _ _ ⟨rfl, rfl⟩; exact op_nilCheck rfl),
        ⟨.p rfl (by intro X; rintro _ _ ⟨rfl, rfl⟩; exact op_fieldAddr (off := 0) rfl tF130_0re),
        ⟨.p rfl (by intro X; rintro _ _ ⟨rfl, rfl⟩; exact op_load1 rfl tO9re (Ent.app (Ent.app (Ent.fld hb 0) X) _)),
        ⟨.p rfl (by intro X; rintro _ _ ⟨rfl, rfl⟩; exact op_lenBs rfl Try.underlying9),
        trivial⟩⟩⟩⟩⟩⟩⟩⟩⟩)
        (fun β β' => ⟨fun _ => by rfl, ⟨fun _ => by rfl, ⟨fun _ => by rfl, ⟨fun _ => by rfl, ⟨fun _ => by rfl, ⟨fun _ => by rfl, ⟨fun _ => by rfl, ⟨fun _ => by rfl, ⟨fun _ => by rfl, trivial⟩⟩⟩⟩⟩⟩⟩⟩⟩) ?_
    intro β
    rintro _ _ ⟨rfl, rfl⟩ _ _ ⟨rfl, rfl⟩ _ _ ⟨rfl, rfl⟩ _ _ ⟨rfl, rfl⟩ _ _ ⟨rfl, rfl⟩ _ _ ⟨rfl, rfl⟩ _ _ ⟨rfl, rfl⟩ _ _ ⟨rfl, rfl⟩ _ _ ⟨rfl, rfl⟩
    refine wl_norm (e' := [(20, _), (25, _)]) (.cons rfl (.cons rfl (.nil _))) (by dsimp only [cond_false, cond_true, List.nil_append, List.cons_append]) ?_
    refine zd rfl (op_lss rfl rfl) (za rfl (wl_nil (st_tn (w_cond_d rfl (fun hc16 => ?_) (fun hc16 => ?_)))))
    · -- c16.t
      refine w_seq (w_region (za rfl (wl_nil (st_tn (w_ret (st_br (st_tr (st_ret (vs := [_]) [] Try.results87 ⟨rfl, trivial⟩ rfl ?_))))))))
      refine ⟨_, rfl, ?_⟩
      unfold endE; rw [if_neg (by assumption), if_pos (by omega)]; exact ⟨rfl, rfl⟩
    · -- c16.f
      refine w_skip (st_bn (st_tn (w_seq (w_region (za rfl (wl_nil (st_tn (w_ret (st_ret (vs := [_]) [] Try.results87 ⟨rfl, trivial⟩ rfl ?_)))))))))
      refine ⟨_, rfl, ?_⟩
      unfold endE; rw [if_neg (by assumption), if_neg (by omega)]; exact ⟨rfl, rfl⟩
set_option maxHeartbeats 400000 in
set_option maxRecDepth 100000 in
theorem rnew_any {σ : World} {F : List Res} (lab : Nat) (s : RdM.Bs) :
    FnT Try.prog σ F 72 [.string (str s)] [] (fun u ρ => ∃ b, u = .pointer (some ⟨b, 0, none⟩) ∧ ρ = [(lab, cel b (cellR s ⟨0, 0⟩) 130)]) := by
  refine fn_of 6 Try.func72 rfl Try.ntmps72 rfl ?_
  refine w_seq (w_region (za rfl (wl_nil (st_tn (w_seq (w_region (zm rfl (zd rfl (op_build tB130re rfl rfl) (wl_op [] rfl rfl rfl rfl (op_box (T := 130) (l := 5) rfl) ?_)))))))))
  rintro _ _ ⟨b5, rfl, rfl⟩
  refine za rfl (wl_nil (st_tn (w_ret (st_ret (vs := [_]) [5] Try.results72 ⟨rfl, trivial⟩ rfl ?_))))
  refine ⟨[(lab, _)], rfl, ?_⟩
  exact ⟨_, rfl, rfl⟩
end Go.Proofs.Ytcbigmgakdanjaa
namespace Go.Proofs.Ytcbigmgakdanjaa
open Go Go.SL Go.RowKit Go.RdM
set_option linter.unusedVariables false
set_option linter.unusedSimpArgs false
theorem tF107_0wa : fieldB Try.prog 107 0 0 = true := by kernel_rfl
theorem tL27_1wa : zerosB Try.prog 27 5 1 1 = some [Value.int .u8 0] := by kernel_rfl
theorem tMixwa : Try.prog.follows .mixedOrders = true := by kernel_rfl
theorem tO27wa : oneB Try.prog 27 = true := by kernel_rfl
theorem tP27wa : appB Try.prog 27 5 1 1 = true := by kernel_rfl
theorem tZ27wa : (Try.prog.info? 27).map (·.size) = some 1 := by kernel_rfl
def nb (x : Nat) : Nat := if h : x = 0 then 0 else nb (x / 256) + 1
termination_by x
decreasing_by omega
theorem nb_pos {x : Nat} (h : 0 < x) : nb x = nb (x / 256) + 1 := by rw [nb, dif_neg (by omega)]
theorem nb_zero : nb 0 = 0 := by rw [nb, dif_pos rfl]
theorem nb_le : ∀ (k x : Nat), x < 256 ^ k → nb x ≤ k
  | 0, x, h => by
    have : x = 0 := by simpa using h
    subst this; rw [nb_zero]; omega
  | k + 1, x, h => by
    rcases Nat.eq_zero_or_pos x with h0 | h0
    · subst h0; rw [nb_zero]; omega
    · rw [nb_pos h0]
      have := nb_le k (x / 256) (by rw [Nat.pow_succ] at h; omega)
      omega
def byteAt (x j : Int) : UInt8 := UInt8.ofNat (x / 2 ^ (8 * j).toNat).toNat
def tops (x : Int) (k j : Nat) : List UInt8 := (List.range j).map fun i : Nat => byteAt x ((k : Int) - 1 - (i : Int))
theorem tops_succ (x : Int) (k j : Nat) : tops x k (j + 1) = tops x k j ++ [byteAt x ((k : Int) - 1 - (j : Int))] := by unfold tops; rw [List.range_succ, List.map_append]; rfl
theorem length_tops (x : Int) (k j : Nat) : (tops x k j).length = j := by unfold tops; simp
theorem u8_lt (b : UInt8) : (b.toNat : Int) < 256 := by have := b.toNat_lt; omega
def encW (x : Int) : List UInt8 := UInt8.ofNat (128 + (nb x.toNat : Int)).toNat :: tops x (nb x.toNat) (nb x.toNat)
set_option maxHeartbeats 400000 in
set_option maxRecDepth 100000 in
theorem magn_any {σ : World} {F : List Res} (x : Int) (h : 0 ≤ x ∧ x ≤ 9223372036854775807) : FnT Try.prog σ F 80 [.int .i64 x] [] (fun u ρ => u = .int .u64 x ∧ ρ = []) := by
  refine fn_of 10 Try.func80 rfl Try.ntmps80 rfl ?_
  refine w_seq (w_region (za rfl (wl_nil (st_tn (w_seq (w_seq (w_region (zm rfl (zd rfl (op_lss rfl rfl) (wl_nil (st_tn (w_cond_d rfl (fun hc4 => ?_) (fun hc4 => ?_)))))))))))))
  · -- c4.t
    exfalso; omega
  · -- c4.f
    refine w_skip (st_tn (w_seq (w_region (zm rfl (zd rfl (op_convU64 rfl (by rw [Try.underlying3]; rfl) Try.underlying125 (by omega)) ?_)))))
    refine za rfl (wl_nil (st_tn (w_ret (st_ret (vs := [_]) [] Try.results80 ⟨rfl, trivial⟩ rfl ?_))))
    refine ⟨_, rfl, ?_⟩
    exact ⟨rfl, rfl⟩
set_option maxHeartbeats 1000000 in
set_option maxRecDepth 100000 in
theorem wnum_any {σ : World} {F : List Res} {b : Nat} {a : Option Addr} {c : Nat} {l : List UInt8} (x : Int) (hx : 0 ≤ x ∧ x ≤ 9223372036854775807) (hl : l.length ≤ 1099511627776) :
    FnT Try.prog σ F 65 [.pointer (some ⟨b, 0, none⟩), .int .i64 x] [(100, cel b [.slice a l.length c] 107), (101, slW 5 encU 1 (.slice a l.length c) l)]
      (fun u ρ => ∃ a' c', u = .tuple #[] ∧ ρ = [(100, cel b [.slice a' (l ++ encW x).length c'] 107), (101, slW 5 encU 1 (.slice a' (l ++ encW x).length c') (l ++ encW x))]) := by
  refine fn_of 68 Try.func65 rfl Try.ntmps65 rfl ?_
  obtain ⟨m, rfl⟩ := Int.eq_ofNat_of_zero_le hx.1
  have hk : nb m ≤ 8 := nb_le 8 m (by have := hx.2; omega)
  refine w_seq (w_seq (w_region (zm rfl (zd rfl (op_eqPtr rfl Try.underlying124) (wl_nil (st_tn (w_cond_f (rfl) ?_)))))))
  refine w_skip (st_tn (w_seq (w_region (zm rfl (zd rfl (op_fn Try.func80 rfl rfl rfl (magn_any _ (by omega))) ?_)))))
  refine za rfl (za rfl (wl_nil (st_tn (w_seq (w_seq (w_region (zm rfl (za rfl (wl_nil (st_tn (w_block (w_loopK (X := Nat × Nat) (fun z => z.1 + nb z.2 = nb m ∧ z.2 ≤ m) (fun z => [(5, .int .i64 z.1), (6, .int .u64 z.2)]) (fun _ => []) (fun z => z.2) ((0, m)) [(0, _), (1, _), (4, _)] [(100, _), (101, _)] (⟨Nat.zero_add _, Nat.le_refl _⟩) (.cons rfl (.cons rfl (.nil _))) (.cons rfl (.cons rfl (.cons rfl (.nil _)))) [100, 101] rfl (rfl) ?_))))))))))))
  rintro ⟨i, y⟩ ⟨hi, hy⟩
  refine w_norm2 (by dsimp only [List.cons_append, List.nil_append]) (by dsimp only [List.cons_append, List.nil_append]) ?_
  dsimp only at hi hy
  refine w_seq (w_seq (w_region (zm rfl (zd rfl (op_gtr rfl rfl) (wl_nil (st_tn (w_cond_d rfl (fun hc15 => ?_) (fun hc15 => ?_))))))))
  · -- c15.t
    refine w_skip (st_tn (w_seq (w_block (w_region (zm rfl (zd rfl (op_add' rfl rfl (by omega)) ?_))))))
    refine za rfl (wl_nil (st_bn (st_tn (w_region (zm rfl (zd rfl (op_shrN rfl rfl (by omega) (by omega)) ?_))))))
    refine za rfl (wl_nil ?_)
    refine st_roundK (x := (i, y)) ((i + 1, y / 256)) [100, 101] (by have := nb_pos (x := y) (by omega); exact ⟨by show i + 1 + nb (y / 256) = nb m; omega, by show y / 256 ≤ m; omega⟩) (by show y / 256 < y; omega) (.cons rfl (.cons (by show some (Value.int .u64 ((y : Int) / 2 ^ (8 : Int).toNat)) = some (Value.int .u64 ((y / 256 : Nat) : Int)); congr 2) (.nil _))) (.cons rfl (.cons rfl (.cons rfl (.nil _)))) rfl (rfl)
  · -- c15.f
    refine w_exit (st_te ?_)
    refine st_te ?_
    refine st_be (st_tn (w_seq ?_))
    have hyz : y = 0 := by omega
    have hin : i = nb m := by rw [hyz, nb_zero] at hi; omega
    refine w_region (za rfl (wl_nil (st_tn (w_seq (w_seq (w_region (zm rfl (zd rfl (op_lss rfl rfl) (wl_nil (st_tn (w_cond_d rfl (fun hc21 => ?_) (fun hc21 => ?_))))))))))))
    · -- c21.t
      exfalso; omega
    · -- c21.f
      refine w_region (zm rfl (zm rfl (zd rfl (op_nilCheck rfl) (zd rfl (op_fieldAddr (off := 0) rfl tF107_0wa) (zd rfl (op_load1 rfl tO27wa (Ent.lab (l := 100) rfl (says_cel 0))) (zm rfl (zd rfl (op_add' rfl rfl (by omega)) ?_)))))))
      refine zd rfl (op_convU rfl (by rw [Try.underlying3]; rfl) Try.underlying5 (by omega)) ?_
      refine wl_op [] rfl rfl rfl rfl (op_buildSlice (enc := encU) (l := [_]) (lab := 42) tL27_1wa rfl rfl (fun _ => rfl) rfl) ?_
      rintro _ _ ⟨a42, c42, rfl, rfl⟩
      refine wl_op [101] rfl rfl rfl rfl (op_append (lab := 101) (lab' := 43) rfl rfl tP27wa enc1U (Sl.lab 42 rfl (by simp [maxLen])) (by first | omega | (simp; omega) | (simp [length_tops]; omega)) (by first | omega | (simp; omega) | (simp [length_tops]; omega))) ?_
      rintro _ _ ⟨a43, c43, rfl, rfl⟩
      refine zd rfl (op_nilCheck rfl) (zd rfl (op_fieldAddr (off := 0) rfl tF107_0wa) (wl_op0 [100] rfl rfl rfl (op_store rfl rfl tZ27wa (by rfl) (by rfl) (by exact Nat.le_of_ble_eq_true rfl)) ?_))
      rintro _ _ ⟨rfl, rfl⟩
      refine wl_nil (st_tn (w_seq (w_region (zm rfl (zd rfl (op_sub' rfl rfl (by omega)) ?_)))))
      refine za rfl (wl_nil (st_tn (w_block (w_loopK (X := Nat × Option Addr × Nat) (fun z => z.1 ≤ nb m) (fun z => [(8, .int .i64 ((nb m : Int) - 1 - z.1))]) (fun z => [(100, cel b [.slice z.2.1 (l ++ [UInt8.ofNat (128 + (nb m : Int)).toNat] ++ tops m (nb m) z.1).length z.2.2] 107), (101, slW 5 encU 1 (.slice z.2.1 (l ++ [UInt8.ofNat (128 + (nb m : Int)).toNat] ++ tops m (nb m) z.1).length z.2.2) (l ++ [UInt8.ofNat (128 + (nb m : Int)).toNat] ++ tops m (nb m) z.1))]) (fun z => nb m - z.1) ((0, a43, c43)) [(0, _), (4, _), (7, _)] [] (Nat.zero_le _) (.cons (by rw [← hin]; show some (Value.int .i64 ((i : Int) - 1)) = _; rw [show ((i : Int) - 1 - (0 : Nat)) = (i : Int) - 1 by omega]) (.nil _)) (.cons rfl (.cons rfl (.cons rfl (.nil _)))) [100, 43] rfl (by rw [← hin, show tops m i 0 = [] from rfl]; simp only [List.append_nil]; rfl) ?_))))
      rintro ⟨j, a2, c2⟩ hj
      refine w_norm2 (by dsimp only [List.cons_append, List.nil_append]) (by dsimp only [List.cons_append, List.nil_append]) ?_
      dsimp only at hj
      refine w_seq (w_seq (w_region (zm rfl (zd rfl (op_geq rfl rfl) (wl_nil (st_tn (w_cond_d rfl (fun hc49 => ?_) (fun hc49 => ?_))))))))
      · -- c49.t
        refine w_skip (st_tn (w_seq (w_block ?_)))
        refine w_draw (D := [⟨52, [], [], [], _, false, [], []⟩, ⟨53, [], [], [], _, false, [], []⟩, ⟨54, [1], [], [], _, false, [], []⟩, ⟨55, [2], [], [], _, false, [], []⟩, ⟨56, [3], [], [], _, false, [], []⟩, ⟨57, [], [], [], _, false, [], []⟩, ⟨58, [], [], [], _, false, [], []⟩, ⟨59, [6], [], [], _, false, [], []⟩, ⟨60, [5, 7], [], [], _, false, [], []⟩, ⟨61, [8], [], [], _, false, [], []⟩, ⟨62, [], [], [], _, false, [], []⟩, ⟨63, [9, 10], [], [], _, false, [], []⟩, ⟨64, [11], [], [], _, false, [], []⟩, ⟨65, [4, 12], [], [(101, _)], _, false, [], []⟩]) [101] [0, 4, 8, 7] [⟨52, [], [], false, [], []⟩, ⟨53, [], [], false, [], []⟩, ⟨54, [1], [], false, [], []⟩, ⟨55, [2], [], false, [], []⟩, ⟨56, [3], [], false, [], []⟩, ⟨57, [], [], false, [], []⟩, ⟨58, [], [], false, [], []⟩, ⟨59, [6], [], false, [], []⟩, ⟨60, [5, 7], [], false, [], []⟩, ⟨61, [8], [], false, [], []⟩, ⟨62, [], [], false, [], []⟩, ⟨63, [9, 10], [], false, [], []⟩, ⟨64, [11], [], false, [], []⟩, ⟨65, [4, 12], [], false, [], []⟩] tMixwa (by rfl) (by kernel_rfl) (by rfl) (by rfl)
            ⟨.plain rfl (by intro X; exact op_move rfl),
            ⟨.plain rfl (by intro X; exact op_move rfl),
            ⟨.plain rfl (by intro X; rintro _ _ ⟨rfl, rfl⟩; exact op_nilCheck rfl),
            ⟨.plain rfl (by intro X; rintro _ _ ⟨rfl, rfl⟩; exact op_fieldAddr (off := 0) rfl tF107_0wa),
            ⟨.plain rfl (by intro X; rintro _ _ ⟨rfl, rfl⟩; exact op_load1 rfl tO27wa (Ent.lab (l := 100) rfl (says_cel 0))),
            ⟨.plain rfl (by intro X; exact op_move rfl),
            ⟨.plain rfl (by intro X; exact op_move rfl),
            ⟨.plain rfl (by intro X; rintro _ _ ⟨rfl, rfl⟩; exact op_mul' rfl rfl (by omega)),
            ⟨.plain rfl (by intro X; rintro _ _ ⟨rfl, rfl⟩ _ _ ⟨rfl, rfl⟩; exact op_shrN rfl rfl (by omega) (by omega)),
            ⟨.plain rfl (by intro X; rintro _ _ ⟨rfl, rfl⟩; exact op_convU rfl (by rw [Try.underlying125]; rfl) Try.underlying5 (Int.ediv_nonneg (by omega) (by exact Int.pow_nonneg (by omega)))),
            ⟨.plain rfl (by intro X; exact op_move rfl),
            ⟨.plain rfl (by intro X; rintro _ _ ⟨rfl, rfl⟩ _ _ ⟨rfl, rfl⟩; exact op_xor8 rfl rfl ⟨Int.natCast_nonneg _, u8_lt _⟩),
            ⟨.plain rfl (by intro X; rintro _ _ ⟨rfl, rfl⟩; exact op_buildSlice (enc := encU) (l := [_]) (lab := 64) tL27_1wa rfl rfl (fun _ => rfl) rfl),
            ⟨.plain rfl (by intro X; rintro _ _ ⟨rfl, rfl⟩ _ _ ⟨a64, c64, rfl, rfl⟩; exact op_append (lab := 101) (lab' := 65) rfl rfl tP27wa enc1U (Sl.lab 64 rfl (by simp [maxLen])) (by first | omega | (simp; omega) | (simp [length_tops]; omega)) (by first | omega | (simp; omega) | (simp [length_tops]; omega))),
            trivial⟩⟩⟩⟩⟩⟩⟩⟩⟩⟩⟩⟩⟩⟩ ?_
        rintro _ _ ⟨rfl, rfl⟩ _ _ ⟨rfl, rfl⟩ _ _ ⟨rfl, rfl⟩ _ _ ⟨rfl, rfl⟩ _ _ ⟨rfl, rfl⟩ _ _ ⟨rfl, rfl⟩ _ _ ⟨rfl, rfl⟩ _ _ ⟨rfl, rfl⟩ _ _ ⟨rfl, rfl⟩ _ _ ⟨rfl, rfl⟩ _ _ ⟨rfl, rfl⟩ _ _ ⟨rfl, rfl⟩ _ _ ⟨a64, c64, rfl, rfl⟩ _ _ ⟨a65, c65, rfl, rfl⟩
        refine wl_norm (e' := [(0, _), (4, _), (7, _), (8, _), (52, _), (65, _)]) (.cons rfl (.cons rfl (.cons rfl (.cons rfl (.cons rfl (.cons rfl (.nil _))))))) (by dsimp only [cond_false, cond_true, List.nil_append, List.cons_append]) ?_
        refine zd rfl (op_nilCheck rfl) (zd rfl (op_fieldAddr (off := 0) rfl tF107_0wa) (wl_op0 [100] rfl rfl rfl (op_store rfl rfl tZ27wa (by rfl) (by rfl) (by exact Nat.le_of_ble_eq_true rfl)) ?_))
        rintro _ _ ⟨rfl, rfl⟩
        refine wl_nil (st_bn (st_tn (w_region (zm rfl (zd rfl (op_sub' rfl rfl (by omega)) ?_)))))
        refine za rfl (wl_nil ?_)
        refine st_roundK (x := (j, a2, c2)) ((j + 1, a65, c65)) [100, 65] (by show j + 1 ≤ nb m; omega) (by show nb m - (j + 1) < nb m - j; omega) (.cons (by show some (Value.int .i64 ((nb m : Int) - 1 - (j : Int) - 1)) = some (Value.int .i64 ((nb m : Int) - 1 - ((j + 1 : Nat) : Int))); congr 2; omega) (.nil _)) (.cons rfl (.cons rfl (.cons rfl (.nil _)))) rfl (by show rs [_, _] = rs [_, _]; rw [tops_succ, ← List.append_assoc]; rfl)
      · -- c49.f
        refine w_exit (st_te ?_)
        refine st_te ?_
        refine st_be (st_end (vs := []) [100, 101] Try.results65 trivial rfl ?_)
        refine ⟨[(100, _), (101, _)], rfl, ?_⟩
        have hjk : j = nb m := by omega
        have hfin : l ++ encW m = l ++ [UInt8.ofNat (128 + (nb m : Int)).toNat] ++ tops m (nb m) j := by rw [hjk]; unfold encW; simp
        refine ⟨a2, c2, rfl, ?_⟩; rw [hfin]
theorem nb_be (x : Nat) : nb x = (RdM.be x).length := by
  induction x using Nat.strongRecOn with
  | _ x ih =>
    rcases Nat.eq_zero_or_pos x with h | h
    · subst h; rw [nb_zero, RdM.be_zero]; rfl
    · rw [nb_pos h, RdM.be_pos h, ih (x / 256) (by omega)]; simp
theorem byteAt_zero (x : Nat) : byteAt x 0 = UInt8.ofNat x := by
  unfold byteAt
  simp
theorem byteAt_div {x : Nat} {j : Nat} : byteAt ((x / 256 : Nat) : Int) j = byteAt x ((j : Int) + 1) := by
  unfold byteAt
  congr 2
  have h1 : (8 * (j : Int)).toNat = 8 * j := by omega
  have h2 : (8 * ((j : Int) + 1)).toNat = 8 + 8 * j := by omega
  rw [h1, h2, Int.pow_add]
  have : ((x / 256 : Nat) : Int) = (x : Int) / 2 ^ 8 := by omega
  rw [this, Int.ediv_ediv, if_neg (fun h => absurd h.1 (by decide)), Int.sub_zero]
theorem tops_be (x : Nat) : tops x (nb x) (nb x) = RdM.be x := by
  induction x using Nat.strongRecOn with
  | _ x ih =>
    rcases Nat.eq_zero_or_pos x with h | h
    · subst h; rw [nb_zero, RdM.be_zero]; rfl
    · have hi := ih (x / 256) (by omega)
      rw [RdM.be_pos h, ← hi, nb_pos h, tops_succ]
      congr 1
      · unfold tops
        apply List.map_congr_left
        intro i hi
        have hi := List.mem_range.1 hi
        obtain ⟨j, hj⟩ : ∃ j : Nat, ((nb (x / 256) : Nat) : Int) - 1 - i = j := ⟨nb (x / 256) - 1 - i, by omega⟩
        have hj2 : ((nb (x / 256) + 1 : Nat) : Int) - 1 - i = (j : Int) + 1 := by omega
        rw [hj, hj2, byteAt_div]
      · rw [show ((nb (x / 256) + 1 : Nat) : Int) - 1 - ((nb (x / 256) : Nat) : Int) = 0 by omega, byteAt_zero]
theorem encW_eq (x : Int) : encW x = RdM.encN x := by
  unfold encW RdM.encN
  rcases Int.le_total 0 x with h | h
  · obtain ⟨m, rfl⟩ := Int.eq_ofNat_of_zero_le h
    rw [Int.toNat_natCast, tops_be, nb_be]
    congr 1
  · have : x.toNat = 0 := by omega
    rw [this, nb_zero, RdM.be_zero]; rfl
theorem wnum {σ : World} {F : List Res} {b : Nat} {a : Option Addr} {c : Nat} {l : List UInt8} (l1 l2 : Nat) (x : Int) (hx : 0 ≤ x ∧ x ≤ 9223372036854775807) (hl : l.length ≤ 1099511627776) :
    FnT Try.prog σ F 65 [.pointer (some ⟨b, 0, none⟩), .int .i64 x] [(l1, cel b [.slice a l.length c] 107), (l2, slW 5 encU 1 (.slice a l.length c) l)]
      (fun u ρ => ∃ a' c', u = .tuple #[] ∧ ρ = [(l1, cel b [.slice a' (l ++ RdM.encN x).length c'] 107), (l2, slW 5 encU 1 (.slice a' (l ++ RdM.encN x).length c') (l ++ RdM.encN x))]) :=
  fn_lab (wnum_any x hx hl) rfl fun u ρ ⟨a', c', h1, h2⟩ => ⟨_, ⟨a', c', h1, rfl⟩, by rw [h2, ← encW_eq]; rfl⟩
set_option maxHeartbeats 400000 in
set_option maxRecDepth 100000 in
theorem wbytes {σ : World} {F : List Res} {b : Nat} {a : Option Addr} {c : Nat} {l : List UInt8} (hb : Ent σ F (At ⟨b, 0, none⟩ [.slice a l.length c])) (h : Sl σ F encU 1 (.slice a l.length c) l) :
    FnT Try.prog σ F 67 [.pointer (some ⟨b, 0, none⟩)] [] (fun u ρ => u = .string (str l) ∧ ρ = []) := by
  refine fn_of 10 Try.func67 rfl Try.ntmps67 rfl ?_
  refine w_seq (w_region (za rfl (wl_nil (st_tn (w_seq (w_seq (w_region (zm rfl (zd rfl (op_eqPtr rfl Try.underlying124) (wl_nil (st_tn (w_cond_f (rfl) ?_))))))))))))
  refine w_skip (st_tn (w_seq (w_region (zm rfl (zd rfl (op_nilCheck rfl) (zd rfl (op_fieldAddr (off := 0) rfl tF107_0wa) (zd rfl (op_load1 rfl tO27wa (Ent.app (Ent.fld hb 0) _)) (zd rfl (op_bytesStr rfl Try.underlying27 Try.underlying5 Try.underlying9 (by first | exact Sl.app (by assumption) _ | exact Sl.app (Sl.app (by assumption) _) _)) ?_))))))))
  refine za rfl (wl_nil (st_tn (w_ret (st_ret (vs := [_]) [] Try.results67 ⟨rfl, trivial⟩ rfl ?_))))
  refine ⟨_, rfl, ?_⟩
  exact ⟨rfl, rfl⟩
end Go.Proofs.Ytcbigmgakdanjaa
namespace Go.Proofs.Ytcbigmgakdanjaa
open Go Go.SL Go.RowKit Go.RdM Go.WalM
set_option linter.unusedVariables false
set_option linter.unusedSimpArgs false
set_option maxHeartbeats 400000 in
set_option maxRecDepth 100000 in
theorem zbit_any {σ : World} {F : List Res} (r : Nat) (h : r < 4294967296) : FnT Try.prog σ F 91 [.int .u32 r] [] (fun u ρ => u = .int .u32 (sumB r) ∧ ρ = []) := by
  refine fn_of 11 Try.func91 rfl Try.ntmps91 rfl ?_
  refine w_seq (w_region (za rfl (wl_nil (st_tn (w_seq (w_seq (w_region (zm rfl (zd rfl (op_and1U32 rfl rfl h) (zd rfl (op_eql rfl rfl) (wl_nil (st_tn (w_cond_d rfl (fun hc5 => ?_) (fun hc5 => ?_))))))))))))))
  · -- c5.t
    refine w_seq (w_region (zm rfl (zd rfl (op_shr1U32 rfl rfl) (zd rfl (op_xorU32 (b := 2197175160) rfl rfl (by omega) (by decide)) ?_))))
    refine za rfl (wl_nil (st_tn (w_ret (st_tr (st_ret (vs := [_]) [] Try.results91 ⟨rfl, trivial⟩ rfl ?_)))))
    refine ⟨_, rfl, ?_⟩
    have hr : sumB r = (r / 2) ^^^ 2197175160 := by unfold sumB; rw [if_pos (by omega)]
    rw [hr]; exact ⟨rfl, rfl⟩
  · -- c5.f
    refine w_skip (st_tn (w_seq (w_region (zm rfl (zd rfl (op_shr1U32 rfl rfl) (za rfl (wl_nil (st_tn (w_ret (st_ret (vs := [_]) [] Try.results91 ⟨rfl, trivial⟩ rfl ?_))))))))))
    refine ⟨_, rfl, ?_⟩
    have hr : sumB r = r / 2 := by unfold sumB; rw [if_neg (by omega)]
    rw [hr]; exact ⟨rfl, rfl⟩
def sumI (r : Nat) : Nat → Nat
  | 0 => r
  | k + 1 => sumB (sumI r k)
theorem sumI_lt {r : Nat} (h : r < 4294967296) : ∀ k, sumI r k < 4294967296
  | 0 => h
  | k + 1 => sumB_lt (sumI_lt h k)
theorem sumR_snoc (r : Nat) (s : RdM.Bs) (b : UInt8) : sumR r (s ++ [b]) = sumI (sumR r s ^^^ b.toNat) 8 := by unfold sumR; rw [List.foldl_append]; rfl
theorem xorb_lt {r : Nat} {b : UInt8} (h : r < 4294967296) : r ^^^ b.toNat < 4294967296 := by
  have := b.toNat_lt
  exact Nat.xor_lt_two_pow (n := 32) (by omega) (by omega)
set_option maxHeartbeats 1000000 in
set_option maxRecDepth 100000 in
theorem ext_any {σ : World} {F : List Res} (s : RdM.Bs) (hs : s.length ≤ 1099511627776) : FnT Try.prog σ F 81 [.int .u32 0, .string (str s)] [] (fun u ρ => u = .int .u32 (crc s) ∧ ρ = []) := by
  refine fn_of 28 Try.func81 rfl Try.ntmps81 rfl ?_
  refine w_seq (w_region (za rfl (wl_nil (st_tn (w_seq (w_region (zm rfl (zd rfl (op_val (v' := .int .u32 ((4294967295 : Nat) : Int)) (by rfl) (op_notU32 (a := 0) rfl (by decide))) ?_))))))))
  refine za rfl (wl_nil (st_tn (w_seq (w_seq (w_region (zm rfl (zd rfl (op_lenBs rfl Try.underlying9) (zm rfl (wl_nil (st_tn (w_block ?_)))))))))))
  refine w_loopQ (X := Nat × Nat) (fun z => z.2 ≤ s.length ∧ z.1 = sumR 4294967295 (s.take z.2)) (fun z => [(5, .int .u32 (z.1)), (11, .int .i64 (z.2))]) (fun _ => []) (fun z => s.length - z.2) ((4294967295, 0)) [(1, _), (10, _)] [] [] rfl (rfl) (.cons rfl (.cons rfl (.nil _))) (.cons rfl (.cons rfl (.nil _))) (by
      try dsimp only
      exact ⟨Nat.zero_le _, rfl⟩) ?_
  rintro ⟨r, i⟩ ⟨hi, hr⟩
  refine w_norm2 (by dsimp only [List.cons_append, List.nil_append]) (by dsimp only [List.cons_append, List.nil_append]) ?_
  try dsimp only at hi hr ⊢
  refine w_seq (w_region (zd rfl (op_lss rfl rfl) (wl_nil (st_tn (w_seq (w_cond_d rfl (fun hc12 => ?_) (fun hc12 => ?_)))))))
  · -- c12.t
    obtain ⟨b, hb⟩ := getE (l := s) (i := i) (by omega)
    have hrl : r < 4294967296 := by rw [hr]; exact sumR_lt (by omega)
    have hsn : sumR 4294967295 (s.take (i + 1)) = sumI (r ^^^ b.toNat) 8 := by rw [take_snoc hb, sumR_snoc, hr]
    refine w_skip (st_tn (w_seq (w_block (w_seq (w_region (zm rfl (za rfl (wl_nil (st_tn (w_seq (w_region (zm rfl (zm rfl ?_)))))))))))))
    refine zm rfl (zd rfl (op_idxBs rfl rfl Try.underlying9 (by assumption)) ?_)
    refine zd rfl (op_conv8U32 rfl (by rw [Try.underlying5]; rfl) Try.underlying110) ?_
    refine zd rfl (op_xorU32 rfl rfl hrl (by have := b.toNat_lt; omega)) ?_
    refine za rfl (wl_nil (st_tn (w_seq (w_region (zm rfl (wl_nil (st_tn (w_block ?_))))))))
    refine w_loopQ (X := Nat × Nat) (fun z => z.2 ≤ 8 ∧ z.1 = sumI (r ^^^ b.toNat) z.2) (fun z => [(5, .int .u32 (z.1)), (20, .int .i64 (z.2))]) (fun _ => []) (fun z => 8 - z.2) ((r ^^^ b.toNat, 0)) [(1, _), (10, _), (11, _)] [] [] rfl (rfl) (.cons rfl (.cons rfl (.nil _))) (.cons rfl (.cons rfl (.cons rfl (.nil _)))) (by
        try dsimp only
        exact ⟨Nat.zero_le _, rfl⟩) ?_
    rintro ⟨q, j⟩ ⟨hj, hq⟩
    refine w_norm2 (by dsimp only [List.cons_append, List.nil_append]) (by dsimp only [List.cons_append, List.nil_append]) ?_
    try dsimp only at hj hq ⊢
    refine w_seq (w_region (zd rfl (op_lss rfl rfl) (wl_nil (st_tn (w_seq (w_cond_d rfl (fun hc21 => ?_) (fun hc21 => ?_)))))))
    · -- c21.t
      refine w_skip (st_tn (w_seq (w_block (w_region (zm rfl (zd rfl (op_fn Try.func91 rfl rfl rfl (zbit_any q (by rw [hq]; exact sumI_lt (xorb_lt hrl) j))) ?_))))))
      refine za rfl (wl_nil (st_bn (st_tn (w_region (zd rfl (op_add' rfl rfl (by omega)) ?_)))))
      refine zm rfl (wl_nil ?_)
      refine st_roundQ (x := (q, j)) ((sumB q, j + 1)) [] rfl (rfl) (.cons rfl (.cons rfl (.nil _))) (.cons rfl (.cons rfl (.cons rfl (.nil _)))) (by
          try dsimp only
          exact ⟨by omega, by rw [hq]; rfl⟩) (by
          try dsimp only
          omega)
    · -- c21.f
      have hq8 : q = sumR 4294967295 (s.take (i + 1)) := by rw [hsn, hq, show j = 8 by omega]
      subst hq8
      refine w_exit (st_te ?_)
      refine st_te ?_
      refine st_be (st_bn (st_tn (w_region (zd rfl (op_add' rfl rfl (by omega)) ?_))))
      refine zm rfl (wl_nil ?_)
      refine st_roundQ (x := (r, i)) ((sumR 4294967295 (s.take (i + 1)), i + 1)) [] rfl (rfl) (.cons rfl (.cons rfl (.nil _))) (.cons rfl (.cons rfl (.nil _))) (by
          try dsimp only
          exact ⟨by omega, rfl⟩) (by
          try dsimp only
          omega)
  · -- c12.f
    refine w_exit (st_te ?_)
    refine st_te ?_
    refine st_be (st_tn (w_seq (w_region (zm rfl (zd rfl (op_notU32 rfl (by rw [hr]; exact sumR_lt (by omega))) ?_)))))
    refine za rfl (wl_nil (st_tn (w_ret (st_ret (vs := [_]) [] Try.results81 ⟨rfl, trivial⟩ rfl ?_))))
    refine ⟨_, rfl, ?_⟩
    have hfin : r ^^^ 4294967295 = crc s := by rw [hr, List.take_of_length_le (by omega)]; rfl
    rw [hfin]; exact ⟨rfl, rfl⟩
set_option maxHeartbeats 400000 in
set_option maxRecDepth 100000 in
theorem sum_any {σ : World} {F : List Res} (s : RdM.Bs) (hs : s.length ≤ 1099511627776) : FnT Try.prog σ F 68 [.string (str s)] [] (fun u ρ => u = .int .u32 (crc s) ∧ ρ = []) := by
  refine fn_of 5 Try.func68 rfl Try.ntmps68 rfl ?_
  refine w_seq (w_region (za rfl (wl_nil (st_tn (w_seq (w_region (zm rfl (zd rfl (op_fn Try.func81 rfl rfl rfl (ext_any s hs)) (za rfl (wl_nil (st_tn (w_ret (st_ret (vs := [_]) [] Try.results68 ⟨rfl, trivial⟩ rfl ?_)))))))))))))
  refine ⟨_, rfl, ?_⟩
  exact ⟨rfl, rfl⟩
end Go.Proofs.Ytcbigmgakdanjaa
namespace Go.Proofs.Ytcbigmgakdanjaa
open Go Go.SL Go.RowKit Go.RdM Go.WalM
set_option linter.unusedVariables false
set_option linter.unusedSimpArgs false
theorem tF107_0wc : fieldB Try.prog 107 0 0 = true := by kernel_rfl
theorem tN107wc : (Try.prog.info? 107).bind (·.zero) = some (Value.agg #[Value.slice none 0 0]) := by kernel_rfl
theorem tO27wc : oneB Try.prog 27 = true := by kernel_rfl
theorem tO9wc : oneB Try.prog 9 = true := by kernel_rfl
theorem tP27wc : appB Try.prog 27 5 1 1 = true := by kernel_rfl
theorem tS35wc : sliceB Try.prog 35 9 1 = true := by kernel_rfl
theorem tZ27wc : (Try.prog.info? 27).map (·.size) = some 1 := by kernel_rfl
set_option maxHeartbeats 400000 in
set_option maxRecDepth 100000 in
theorem wtext_any {σ : World} {F : List Res} {b : Nat} {a : Option Addr} {c : Nat} {l : List UInt8} (x : RdM.Bs) (hx : x.length ≤ 1099511627776) (hl : l.length ≤ 1099511627776) :
    FnT Try.prog σ F 66 [.pointer (some ⟨b, 0, none⟩), .string (str x)] [(100, cel b [.slice a l.length c] 107), (101, slW 5 encU 1 (.slice a l.length c) l)]
      (fun u ρ => ∃ a' c', u = .tuple #[] ∧ ρ = [(100, cel b [.slice a' (l ++ txt x).length c'] 107), (101, slW 5 encU 1 (.slice a' (l ++ txt x).length c') (l ++ txt x))]) := by
  refine fn_of 19 Try.func66 rfl Try.ntmps66 rfl ?_
  have hn := RdM.encN_le (x := (x.length : Int)) (by omega)
  refine w_seq (w_seq (w_region (zm rfl (zd rfl (op_eqPtr rfl Try.underlying124) (wl_nil (st_tn (w_cond_f (rfl) ?_)))))))
  refine w_skip (st_tn (w_seq (w_region (zm rfl (zm rfl (zd rfl (op_lenBs rfl Try.underlying9) (wl_op [100, 101] rfl rfl rfl rfl (op_fn Try.func65 rfl rfl rfl (wnum 100 101 (x.length : Int) (by omega) hl)) ?_)))))))
  rintro _ _ ⟨a9, c9, rfl, rfl⟩
  refine wl_nil (st_tn (w_region (zm rfl (zm rfl (zd rfl (op_nilCheck rfl) (zd rfl (op_fieldAddr (off := 0) rfl tF107_0wc) (zd rfl (op_load1 rfl tO27wc (Ent.lab (l := 100) rfl (says_cel 0))) (zm rfl (wl_op [101] rfl rfl rfl rfl (op_appendS (lab := 101) (lab' := 16) rfl rfl tP27wc Try.underlying9 (by simp only [List.length_append]; omega)) ?_)))))))))
  rintro _ _ ⟨a16, c16, rfl, rfl⟩
  refine zd rfl (op_nilCheck rfl) (zd rfl (op_fieldAddr (off := 0) rfl tF107_0wc) (wl_op0 [100] rfl rfl rfl (op_store rfl rfl tZ27wc (by rfl) (by rfl) (by exact Nat.le_of_ble_eq_true rfl)) ?_))
  rintro _ _ ⟨rfl, rfl⟩
  refine wl_nil (st_end (vs := []) [100, 16] Try.results66 trivial rfl ?_)
  refine ⟨[(100, _), (101, _)], rfl, ?_⟩
  unfold txt; rw [← List.append_assoc]; exact ⟨_, _, rfl, rfl⟩
theorem wtext {σ : World} {F : List Res} {b : Nat} {a : Option Addr} {c : Nat} {l : List UInt8} (l1 l2 : Nat) (x : RdM.Bs) (hx : x.length ≤ 1099511627776) (hl : l.length ≤ 1099511627776) :
    FnT Try.prog σ F 66 [.pointer (some ⟨b, 0, none⟩), .string (str x)] [(l1, cel b [.slice a l.length c] 107), (l2, slW 5 encU 1 (.slice a l.length c) l)]
      (fun u ρ => ∃ a' c', u = .tuple #[] ∧ ρ = [(l1, cel b [.slice a' (l ++ txt x).length c'] 107), (l2, slW 5 encU 1 (.slice a' (l ++ txt x).length c') (l ++ txt x))]) :=
  fn_lab (wtext_any x hx hl) rfl fun u ρ ⟨a', c', h1, h2⟩ => ⟨_, ⟨a', c', h1, rfl⟩, by rw [h2]; rfl⟩
theorem celW {σ : World} {F : List Res} {R : RL} {b T : Nat} {v : Value} (lab : Nat) (h : getL R lab = some (cel b [v] T)) : Ent σ (rs R ++ F) (At ⟨b, 0, none⟩ [v]) := Ent.lab h (says_cel 0)
theorem flat_snoc (g : List RdM.Bs) {i : Nat} {x : RdM.Bs} (h : g[i]? = some x) : ((g.take (i + 1)).map txt).flatten = ((g.take i).map txt).flatten ++ txt x := by
  rw [take_snoc h]; simp
theorem flat_le {g : List RdM.Bs} (hg : OkG g) (i : Nat) : (((g.take i).map txt).flatten).length ≤ 16777216 + 2560 := by
  have h1 := sum_txt (g := g.take i) fun r hr => hg.rc r (List.mem_of_mem_take hr)
  have h2 := List.length_take_le' i g
  have h3 := hg.len
  have : (g.take i).length * 65545 ≤ 256 * 65545 := Nat.mul_le_mul_right _ (by omega)
  omega
set_option maxHeartbeats 1000000 in
set_option maxRecDepth 100000 in
theorem encode_any {σ : World} {F : List Res} {a : Option Addr} {c : Nat} (f : Nat) (g : List RdM.Bs) (h : Sl σ F encT 1 (.slice a g.length c) g) (hg : OkG g) (hf : f ≤ 1099511627776) :
    FnT Try.prog σ F 46 [.int .i64 f, .slice a g.length c] [] (fun u ρ => u = .string (str (encG f g)) ∧ ρ = []) := by
  refine fn_of 30 Try.func46 rfl Try.ntmps46 rfl ?_
  have hgl := hg.len
  have hN1 := RdM.encN_le (x := (f : Int)) (by omega)
  have hN2 := RdM.encN_le (x := (g.length : Int)) (by omega)
  have hbl := body_le hg hf
  have hcr := crc_lt (body f g)
  refine w_seq (w_region (za rfl (wl_nil (st_tn (w_seq (w_region (wl_op [] rfl rfl rfl rfl (op_alloc (l := 5) tN107wc) ?_)))))))
  rintro _ _ ⟨b5, rfl, rfl⟩
  refine wl_op [] rfl rfl rfl rfl (op_alloc (l := 6) tN107wc) ?_
  rintro _ _ ⟨b6, rfl, rfl⟩
  refine wl_nil (st_tn (w_seq (w_emp 105 (slO_nil 5 1) ?_)))
  refine w_emp 106 (slO_nil 5 1) ?_
  refine w_region (zm rfl (wl_op [5, 105] rfl rfl rfl rfl (op_fn Try.func65 rfl rfl rfl (wnum (l := []) 5 105 (f : Int) (by omega) (by simp))) ?_))
  rintro _ _ ⟨a10, c10, rfl, rfl⟩
  refine wl_nil (st_tn (w_seq (w_region (zm rfl (zd rfl (op_lenT rfl tS35wc (Sl.ent (by first | exact Sl.app (by assumption) _ | exact Sl.app (Sl.app (by assumption) _) _))) ?_)))))
  refine wl_op [5, 105] rfl rfl rfl rfl (op_fn Try.func65 rfl rfl rfl (wnum 5 105 (g.length : Int) (by omega) (by simp; omega))) ?_
  rintro _ _ ⟨a13, c13, rfl, rfl⟩
  refine wl_nil (st_tn (w_seq (w_seq (w_region (zm rfl (zd rfl (op_lenT rfl tS35wc (Sl.ent (by first | exact Sl.app (by assumption) _ | exact Sl.app (Sl.app (by assumption) _) _))) ?_))))))
  refine zm rfl (wl_nil (st_tn (w_block ?_)))
  refine w_loopQ (X := Nat × List UInt8 × Option Addr × Nat) (fun z => z.1 ≤ g.length ∧ z.2.1 = encN f ++ encN g.length ++ ((g.take z.1).map txt).flatten) (fun z => [(16, .int .i64 (z.1))]) (fun z => [(105, slW 5 encU 1 (.slice (z.2.2.1) (z.2.1).length (z.2.2.2)) (z.2.1)), (5, cel b5 [.slice (z.2.2.1) (z.2.1).length (z.2.2.2)] 107)]) (fun z => g.length - z.1) ((0, [] ++ encN f ++ encN g.length, _, _)) [(5, _), (6, _), (14, _), (15, _)] [(6, _), (106, _)] [105, 5, 6, 106] rfl (rfl) (.cons rfl (.nil _)) (.cons rfl (.cons rfl (.cons rfl (.cons rfl (.nil _))))) (by
      try dsimp only
      exact ⟨Nat.zero_le _, by simp⟩) ?_
  rintro ⟨i, out, a_out, c_out⟩ ⟨hi, hout⟩
  refine w_norm2 (by dsimp only [List.cons_append, List.nil_append]) (by dsimp only [List.cons_append, List.nil_append]) ?_
  try dsimp only at hi hout ⊢
  refine w_seq (w_region (zd rfl (op_lss rfl rfl) (wl_nil (st_tn (w_seq (w_cond_d rfl (fun hc17 => ?_) (fun hc17 => ?_)))))))
  · -- c17.t
    obtain ⟨x, hx⟩ := getE (l := g) (i := i) (by omega)
    have hxl := hg.rc x (List.mem_of_getElem? hx)
    have hfl := flat_le hg i
    have hol : out.length ≤ 1099511627776 := by rw [hout, List.length_append, List.length_append]; omega
    refine w_skip (st_tn (w_seq (w_block (w_seq (w_region (zd rfl (op_idx rfl rfl tS35wc (Sl.ent (by first | exact Sl.app (by assumption) _ | exact Sl.app (Sl.app (by assumption) _) _)) (by omega)) ?_))))))
    refine zd rfl (op_ldx rfl tO9wc (by first | exact Sl.app (by assumption) _ | exact Sl.app (Sl.app (by assumption) _) _) (by assumption) (by rfl)) ?_
    refine za rfl (wl_nil (st_tn (w_region (zm rfl (wl_op [5, 105] rfl rfl rfl rfl (op_fn Try.func66 rfl rfl rfl (wtext 5 105 x (by omega) hol)) ?_)))))
    rintro _ _ ⟨a21, c21, rfl, rfl⟩
    refine wl_nil (st_bn (st_tn (w_region (zd rfl (op_add' rfl rfl (by omega)) ?_))))
    refine zm rfl (wl_nil ?_)
    refine st_roundQ (x := (i, out, a_out, c_out)) ((i + 1, out ++ txt x, _, _)) [105, 5, 6, 106] rfl (rfl) (.cons rfl (.nil _)) (.cons rfl (.cons rfl (.cons rfl (.cons rfl (.nil _))))) (by
        try dsimp only
        exact ⟨by omega, by rw [hout, flat_snoc g hx, ← List.append_assoc]⟩) (by
        try dsimp only
        omega)
  · -- c17.f
    have hob : out = body f g := by rw [hout, take_all (by omega)]; rfl
    subst hob
    refine w_exit (st_te ?_)
    refine st_te ?_
    refine st_be (st_tn (w_seq (w_region (zd rfl (op_fn Try.func67 rfl rfl rfl (wbytes (celW 5 rfl) (Sl.lab 105 rfl (by unfold maxLen; omega)))) ?_))))
    refine wl_op [6, 106] rfl rfl rfl rfl (op_fn Try.func66 rfl rfl rfl (wtext (l := []) 6 106 (body f g) (by omega) (by simp))) ?_
    rintro _ _ ⟨a24, c24, rfl, rfl⟩
    refine wl_nil (st_tn (w_seq (w_region (zd rfl (op_fn Try.func67 rfl rfl rfl (wbytes (celW 5 rfl) (Sl.lab 105 rfl (by unfold maxLen; omega)))) ?_))))
    refine zd rfl (op_fn Try.func68 rfl rfl rfl (sum_any (body f g) (by omega))) ?_
    refine zd rfl (op_convI64 rfl (by rw [Try.underlying110]; rfl) Try.underlying3 (by omega)) ?_
    refine wl_op [6, 106] rfl rfl rfl rfl (op_fn Try.func65 rfl rfl rfl (wnum 6 106 (crc (body f g) : Int) (by omega) (by have := txt_le (x := body f g) (by omega); simp; omega))) ?_
    rintro _ _ ⟨a28, c28, rfl, rfl⟩
    refine wl_nil (st_tn (w_seq (w_region (zd rfl (op_fn Try.func67 rfl rfl rfl (wbytes (celW 6 rfl) (Sl.lab 106 rfl (by have := txt_le (x := body f g) (by omega); have := RdM.encN_le (x := (crc (body f g) : Int)) (by omega); unfold maxLen; simp; omega)))) ?_))))
    refine za rfl (wl_nil (st_tn (w_ret (st_ret (vs := [_]) [] Try.results46 ⟨rfl, trivial⟩ rfl ?_))))
    refine ⟨_, rfl, ?_⟩
    exact ⟨rfl, rfl⟩
end Go.Proofs.Ytcbigmgakdanjaa
namespace Go.Proofs.Ytcbigmgakdanjaa
open Go Go.SL Go.RowKit Go.RdM Go.WalM
set_option linter.unusedVariables false
set_option linter.unusedSimpArgs false
theorem tF130_0wd : fieldB Try.prog 130 0 0 = true := by kernel_rfl
theorem tF130_1wd : fieldB Try.prog 130 1 1 = true := by kernel_rfl
theorem tMixwd : Try.prog.follows .mixedOrders = true := by kernel_rfl
theorem tO3wd : oneB Try.prog 3 = true := by kernel_rfl
theorem tO9wd : oneB Try.prog 9 = true := by kernel_rfl
theorem tZ3wd : (Try.prog.info? 3).map (·.size) = some 1 := by kernel_rfl
theorem szE_ok {s : RdM.Bs} {at_ : Nat} {most more : Int} (h : szE s at_ most more = 0) (hm : more ≠ 0) : (num s at_).2.2 = 0 ∧ 0 ≤ (num s at_).1 ∧ (num s at_).1 ≤ most ∧ (num s at_).1 + (num s at_).2.1 ≤ s.length := by
  unfold szE at h
  split at h
  · rename_i h1; exact absurd h h1
  · rename_i h1
    have h1 := Classical.not_not.1 h1
    split at h
    · simp at h
    · split at h
      · exact absurd h hm
      · split at h
        · simp at h
        · omega
set_option maxHeartbeats 400000 in
set_option maxRecDepth 100000 in
theorem rtxt_any {σ : World} {F : List Res} {b : Nat} {s : RdM.Bs} (most : Int) (r : Rd) (hs : s.length ≤ 1099511627776) :
    FnT Try.prog σ F 83 [.pointer (some ⟨b, 0, none⟩), .int .i64 most] [(600, cel b (cellR s r) 130)] (fun u ρ => u = .string (str (rdT s most r).1) ∧ ρ = [(600, cel b (cellR s (rdT s most r).2) 130)]) := by
  refine fn_of 36 Try.func83 rfl Try.ntmps83 rfl ?_
  refine w_seq (w_region (za rfl (wl_nil (st_tn (w_seq (w_seq (w_region (zm rfl (zd rfl (op_fn Try.func93 rfl rfl rfl (rok_any (celR 600 rfl))) (zd rfl (op_not_d rfl) (wl_nil (st_tn (w_cond_d rfl (fun hc10 => ?_) (fun hc10 => ?_))))))))))))))
  · -- c10.t
    refine w_seq (w_region (za rfl (wl_nil (st_tn (w_ret (st_tr (st_ret (vs := [_]) [600] Try.results83 ⟨rfl, trivial⟩ rfl ?_)))))))
    refine ⟨[(600, _)], rfl, ?_⟩
    have hr : rdT s most r = ([], r) := by unfold rdT; rw [if_pos hc10]
    rw [hr]; exact ⟨rfl, rfl⟩
  · -- c10.f
    have he : r.e = 0 := Classical.not_not.1 hc10
    refine w_skip (st_tn (w_seq (w_region (zm rfl (zm rfl (wl_op [600] rfl rfl rfl rfl (op_fn Try.func94 rfl rfl rfl (rsize_any most 5 he hs (by simp))) ?_))))))
    rintro _ _ ⟨rfl, rfl⟩
    refine zm rfl (zd rfl (op_extract rfl rfl) (zd rfl (op_extract rfl rfl) (zd rfl (op_extract rfl rfl) (za rfl (za rfl (za rfl (wl_nil (st_tn (w_seq (w_seq (w_region (zm rfl (zd rfl (op_not_d rfl) ?_)))))))))))))
    refine wl_nil (st_tn (w_cond_d rfl (fun hc19 => ?_) (fun hc19 => ?_)))
    · -- c19.t
      have hr : rdT s most r = ([], ⟨r.at_, szE s r.at_ most 5⟩) := by unfold rdT; rw [if_neg hc10, if_pos hc19]
      rw [hr]
      simp only [if_neg hc19]
      refine w_seq (w_region (za rfl (wl_nil (st_tn (w_ret (st_tr (st_ret (vs := [_]) [600] Try.results83 ⟨rfl, trivial⟩ rfl ?_)))))))
      refine ⟨[(600, _)], rfl, ?_⟩
      exact ⟨rfl, rfl⟩
    · -- c19.f
      have hc0 : szE s r.at_ most 5 = 0 := Classical.not_not.1 hc19
      have hr : rdT s most r = ((s.take ((num s r.at_).2.1 + (num s r.at_).1.toNat)).drop (num s r.at_).2.1, ⟨(num s r.at_).2.1 + (num s r.at_).1.toNat, 0⟩) := by unfold rdT; rw [if_neg hc10, if_neg hc19]
      rw [hr, hc0]
      simp only [if_true]
      obtain ⟨hz1, hz2, hz3, hz4⟩ := szE_ok hc0 (by simp)
      have hto : (num s r.at_).2.1 + (num s r.at_).1 = (((num s r.at_).2.1 + (num s r.at_).1.toNat : Nat) : Int) := by omega
      refine w_skip (st_tn (w_seq (w_region (zm rfl (zm rfl (zm rfl (zd rfl (op_val (v' := .int .i64 (((num s r.at_).2.1 + (num s r.at_).1.toNat : Nat) : Int)) (by rw [hto]) (op_add' rfl rfl (by omega))) ?_)))))))
      refine zd rfl (op_nilCheck rfl) (zd rfl (op_fieldAddr (off := 1) rfl tF130_1wd) (wl_op0 [600] rfl rfl rfl (op_store rfl rfl tZ3wd (by rfl) (by rfl) (by exact Nat.le_of_ble_eq_true rfl)) ?_))
      rintro _ _ ⟨rfl, rfl⟩
      refine wl_nil (st_tn (w_seq ?_))
      refine w_draw (D := [⟨26, [], [], [], _, false, [], []⟩, ⟨27, [0], [], [], _, false, [], []⟩, ⟨28, [1], [], [], _, false, [], []⟩, ⟨29, [2], [], [], _, false, [], []⟩, ⟨30, [], [], [], _, false, [], []⟩, ⟨31, [], [], [], _, false, [], []⟩, ⟨32, [5], [], [], _, false, [], []⟩, ⟨33, [6], [], [], _, false, [], []⟩, ⟨34, [7], [], [], _, false, [], []⟩]) [] [0, 6] [⟨26, [], [], false, [], []⟩, ⟨27, [0], [], false, [], []⟩, ⟨28, [1], [], false, [], []⟩, ⟨29, [2], [], false, [], []⟩, ⟨30, [], [], false, [], []⟩, ⟨31, [], [], false, [], []⟩, ⟨32, [5], [], false, [], []⟩, ⟨33, [6], [], false, [], []⟩, ⟨34, [7], [], false, [], []⟩] tMixwd (by rfl) (by kernel_rfl) (by rfl) (by rfl)
          ⟨.plain rfl (by intro X; exact op_move rfl),
          ⟨.plain rfl (by intro X; rintro _ _ ⟨rfl, rfl⟩; exact op_nilCheck rfl),
          ⟨.plain rfl (by intro X; rintro _ _ ⟨rfl, rfl⟩; exact op_fieldAddr (off := 0) rfl tF130_0wd),
          ⟨.plain rfl (by intro X; rintro _ _ ⟨rfl, rfl⟩; exact op_load1 rfl tO9wd (Ent.lab (l := 600) rfl (says_cel 0))),
          ⟨.plain rfl (by intro X; exact op_move rfl),
          ⟨.plain rfl (by intro X; exact op_move rfl),
          ⟨.plain rfl (by intro X; rintro _ _ ⟨rfl, rfl⟩; exact op_nilCheck rfl),
          ⟨.plain rfl (by intro X; rintro _ _ ⟨rfl, rfl⟩; exact op_fieldAddr (off := 1) rfl tF130_1wd),
          ⟨.plain rfl (by intro X; rintro _ _ ⟨rfl, rfl⟩; exact op_load1 rfl tO3wd (Ent.lab (l := 600) rfl (says_cel 1))),
          trivial⟩⟩⟩⟩⟩⟩⟩⟩⟩ ?_
      rintro _ _ ⟨rfl, rfl⟩ _ _ ⟨rfl, rfl⟩ _ _ ⟨rfl, rfl⟩ _ _ ⟨rfl, rfl⟩ _ _ ⟨rfl, rfl⟩ _ _ ⟨rfl, rfl⟩ _ _ ⟨rfl, rfl⟩ _ _ ⟨rfl, rfl⟩ _ _ ⟨rfl, rfl⟩
      refine wl_norm (e' := [(29, _), (30, _), (34, _)]) (.cons rfl (.cons rfl (.cons rfl (.nil _)))) (by dsimp only [cond_false, cond_true, List.nil_append, List.cons_append]) ?_
      refine zd rfl (op_sliceBs rfl rfl rfl Try.underlying9 (by omega) (by omega)) ?_
      refine za rfl (wl_nil (st_tn (w_ret (st_ret (vs := [_]) [600] Try.results83 ⟨rfl, trivial⟩ rfl ?_))))
      refine ⟨[(600, _)], rfl, ?_⟩
      exact ⟨rfl, rfl⟩
end Go.Proofs.Ytcbigmgakdanjaa
namespace Go.Proofs.Ytcbigmgakdanjaa
open Go Go.SL Go.RowKit Go.RdM Go.WalM
set_option linter.unusedVariables false
set_option linter.unusedSimpArgs false
theorem tF130_0we : fieldB Try.prog 130 0 0 = true := by kernel_rfl
theorem tF130_1we : fieldB Try.prog 130 1 1 = true := by kernel_rfl
theorem tL35_1we : zerosB Try.prog 35 9 1 1 = some [Value.string .empty] := by kernel_rfl
theorem tMixwe : Try.prog.follows .mixedOrders = true := by kernel_rfl
theorem tO3we : oneB Try.prog 3 = true := by kernel_rfl
theorem tO9we : oneB Try.prog 9 = true := by kernel_rfl
theorem tP35we : appB Try.prog 35 9 1 16 = true := by kernel_rfl
theorem tS35we : sliceB Try.prog 35 9 1 = true := by kernel_rfl
section
variable {σ : World} {F : List Res} {b : Nat} {s : RdM.Bs} {r r' : Rd}
theorem rtxt_to (lab : Nat) {most : Int} {x : RdM.Bs} (h : rdT s most r = (x, r')) (hs : s.length ≤ 1099511627776) :
    FnT Try.prog σ F 83 [.pointer (some ⟨b, 0, none⟩), .int .i64 most] [(lab, cel b (cellR s r) 130)] (fun u ρ => u = .string (str x) ∧ ρ = [(lab, cel b (cellR s r') 130)]) :=
  fn_lab (rtxt_any most r hs) rfl fun u ρ ⟨h1, h2⟩ => ⟨_, ⟨by rw [h1, h], rfl⟩, by rw [h2, h]; rfl⟩
theorem rnum_to (lab : Nat) {x : Int} (h : rdN s r = (x, r')) (hs : s.length ≤ 1099511627776) :
    FnT Try.prog σ F 84 [.pointer (some ⟨b, 0, none⟩)] [(lab, cel b (cellR s r) 130)] (fun u ρ => u = .int .i64 x ∧ ρ = [(lab, cel b (cellR s r') 130)]) :=
  fn_lab (rnum_any r hs) rfl fun u ρ ⟨h1, h2⟩ => ⟨_, ⟨by rw [h1, h], rfl⟩, by rw [h2, h]; rfl⟩
theorem rcnt_to (lab : Nat) {most : Int} {x : Int} (h : rdC s most r = (x, r')) (hs : s.length ≤ 1099511627776) :
    FnT Try.prog σ F 86 [.pointer (some ⟨b, 0, none⟩), .int .i64 most] [(lab, cel b (cellR s r) 130)] (fun u ρ => u = .int .i64 x ∧ ρ = [(lab, cel b (cellR s r') 130)]) :=
  fn_lab (rcnt_any most r hs) rfl fun u ρ ⟨h1, h2⟩ => ⟨_, ⟨by rw [h1, h], rfl⟩, by rw [h2, h]; rfl⟩
end
set_option maxHeartbeats 400000 in
set_option maxRecDepth 100000 in
theorem rleft_any {σ : World} {F : List Res} {b : Nat} {s : RdM.Bs} {r : Rd} (hr : r.at_ ≤ s.length) (hs : s.length ≤ 1099511627776) (hb : Ent σ F (At ⟨b, 0, none⟩ (cellR s r))) :
    FnT Try.prog σ F 73 [.pointer (some ⟨b, 0, none⟩)] [] (fun u ρ => u = .int .i64 ((s.length : Int) - r.at_) ∧ ρ = []) := by
  refine fn_of 15 Try.func73 rfl Try.ntmps73 rfl ?_
  refine w_seq (w_region (za rfl (wl_nil (st_tn (w_seq (w_seq (w_region (zm rfl (zd rfl (op_val (v' := .bool false) (by simp) (op_eqPtr rfl Try.underlying116)) ?_)))))))))
  refine wl_nil (st_tn (w_cond_f (rfl) ?_))
  refine w_skip (st_tn (w_seq ?_))
  refine w_drawW (fun β => [⟨5, [], [], [], noW (_), false, [], []⟩, ⟨6, [0], [], [], noW (_), false, [], []⟩, ⟨7, [1], [], [], noW (_), false, [], []⟩, ⟨8, [2], [], [], noW (_), false, [], []⟩, ⟨9, [3], [], [], noW (_), false, [], []⟩, ⟨10, [], [], [], noW (_), false, [], []⟩, ⟨11, [5], [], [], noW (_), false, [], []⟩, ⟨12, [6], [], [], noW (_), false, [], []⟩, ⟨13, [7], [], [], noW (_), false, [], []⟩]) [] [0] [⟨5, [], [], false, [], []⟩, ⟨6, [0], [], false, [], []⟩, ⟨7, [1], [], false, [], []⟩, ⟨8, [2], [], false, [], []⟩, ⟨9, [3], [], false, [], []⟩, ⟨10, [], [], false, [], []⟩, ⟨11, [5], [], false, [], []⟩, ⟨12, [6], [], false, [], []⟩, ⟨13, [7], [], false, [], []⟩] [[], [], [], [], [], [], [], [], []] [[], [], [], [], [], [], [], [], []] tMixwe (fun _ => by rfl) (fun _ => by rfl) (by kernel_rfl) (by kernel_rfl) (by rfl) (by rfl)
      (fun β => ⟨.p rfl (by intro X; exact op_move rfl),
      ⟨.p rfl (by intro X; rintro _ _ ⟨rfl, rfl⟩; exact op_nilCheck rfl),
      ⟨.p rfl (by intro X; rintro _ _ ⟨rfl, rfl⟩; exact op_fieldAddr (off := 0) rfl tF130_0we),
      ⟨.p rfl (by intro X; rintro _ _ ⟨rfl, rfl⟩; exact op_load1 rfl tO9we (Ent.app (Ent.app (Ent.fld hb 0) X) _)),
      ⟨.p rfl (by intro X; rintro _ _ ⟨rfl, rfl⟩; exact op_lenBs rfl Try.underlying9),
      ⟨.p rfl (by intro X; exact op_move rfl),
      ⟨.p rfl (by intro X; rintro _ _ ⟨rfl, rfl⟩; exact op_nilCheck rfl),
      ⟨.p rfl (by intro X; rintro _ _ ⟨rfl, rfl⟩; exact op_fieldAddr (off := 1) rfl tF130_1we),
      ⟨.p rfl (by intro X; rintro _ _ ⟨rfl, rfl⟩; exact op_load1 rfl tO3we (Ent.app (Ent.app (Ent.fld hb 1) X) _)),
      trivial⟩⟩⟩⟩⟩⟩⟩⟩⟩)
      (fun β β' => ⟨fun _ => by rfl, ⟨fun _ => by rfl, ⟨fun _ => by rfl, ⟨fun _ => by rfl, ⟨fun _ => by rfl, ⟨fun _ => by rfl, ⟨fun _ => by rfl, ⟨fun _ => by rfl, ⟨fun _ => by rfl, trivial⟩⟩⟩⟩⟩⟩⟩⟩⟩) ?_
  intro β
  rintro _ _ ⟨rfl, rfl⟩ _ _ ⟨rfl, rfl⟩ _ _ ⟨rfl, rfl⟩ _ _ ⟨rfl, rfl⟩ _ _ ⟨rfl, rfl⟩ _ _ ⟨rfl, rfl⟩ _ _ ⟨rfl, rfl⟩ _ _ ⟨rfl, rfl⟩ _ _ ⟨rfl, rfl⟩
  refine wl_norm (e' := [(9, _), (13, _)]) (.cons rfl (.cons rfl (.nil _))) (by dsimp only [cond_false, cond_true, List.nil_append, List.cons_append]) ?_
  refine zd rfl (op_sub' rfl rfl (by omega)) ?_
  refine za rfl (wl_nil (st_tn (w_ret (st_ret (vs := [_]) [] Try.results73 ⟨rfl, trivial⟩ rfl ?_))))
  refine ⟨_, rfl, ?_⟩
  exact ⟨rfl, rfl⟩
def pre (f : Nat) (g : List RdM.Bs) (i : Nat) : RdM.Bs := RdM.encN f ++ RdM.encN g.length ++ ((g.take i).map txt).flatten
theorem body_at {f : Nat} {g : List RdM.Bs} {i : Nat} {x : RdM.Bs} (h : g[i]? = some x) : body f g = pre f g i ++ txt x ++ ((g.drop (i + 1)).map txt).flatten := by
  have hlt := (List.getElem?_eq_some_iff.1 h).1
  have hre := (List.getElem?_eq_some_iff.1 h).2
  have hspl : g = g.take i ++ x :: g.drop (i + 1) := by rw [← hre, ← List.drop_eq_getElem_cons hlt, List.take_append_drop]
  unfold body pre
  conv => lhs; rw [show (g.map txt).flatten = ((g.take i ++ x :: g.drop (i + 1)).map txt).flatten by rw [← hspl]]
  rw [List.map_append, List.flatten_append, List.map_cons, List.flatten_cons]
  simp only [List.append_assoc]
theorem body_txt {f : Nat} {g : List RdM.Bs} (hg : OkG g) {i : Nat} {x : RdM.Bs} (h : g[i]? = some x) : rdT (body f g) 65536 ⟨(pre f g i).length, 0⟩ = (x, ⟨(pre f g (i + 1)).length, 0⟩) := by
  have hx := hg.rc x (List.mem_of_getElem? h)
  rw [rdT_enc (by omega) (by omega) (body_at h)]
  unfold pre
  rw [flat_snoc g h, ← List.append_assoc, List.length_append (bs := txt x)]
theorem body_num {f : Nat} {g : List RdM.Bs} (hf : f ≤ 1099511627776) : rdN (body f g) ⟨0, 0⟩ = ((f : Int), ⟨(RdM.encN f).length, 0⟩) := by
  have := rdN_enc (p := []) (q := RdM.encN g.length ++ (g.map txt).flatten) (x := (f : Int)) (s := body f g) (by omega) (by unfold body; simp)
  simpa using this
theorem txt_ge : ∀ g : List RdM.Bs, g.length ≤ ((g.map txt).flatten).length
  | [] => by simp
  | x :: g => by
    have := txt_ge g
    have h1 : 0 < (txt x).length := by unfold txt RdM.encN; simp
    rw [List.map_cons, List.flatten_cons, List.length_append, List.length_cons]; omega
theorem body_cnt {f : Nat} {g : List RdM.Bs} (hg : OkG g) : rdC (body f g) 256 ⟨(RdM.encN f).length, 0⟩ = ((g.length : Int), ⟨(pre f g 0).length, 0⟩) := by
  have hl := hg.len
  have := txt_ge g
  rw [rdC_enc (p := RdM.encN f) (q := (g.map txt).flatten) (x := (g.length : Int)) (by omega) (by omega) (by omega) (by unfold body; rfl)]
  unfold pre; simp
section
variable {p q : RdM.Bs} {f : Nat} {g : List RdM.Bs} {S : RdM.Bs}
theorem group_txt (hg : OkG g) (hf : f ≤ 1099511627776) (hS : S = p ++ encG f g ++ q) : rdT S 1073741824 ⟨p.length, 0⟩ = (body f g, ⟨(p ++ txt (body f g)).length, 0⟩) := by
  have hb := body_le hg hf
  rw [rdT_enc (x := body f g) (q := RdM.encN (crc (body f g)) ++ q) (by omega) (by omega) (by rw [hS]; unfold encG; simp only [List.append_assoc]), List.length_append]
theorem group_num (hS : S = p ++ encG f g ++ q) : rdN S ⟨(p ++ txt (body f g)).length, 0⟩ = ((crc (body f g) : Int), ⟨(p ++ encG f g).length, 0⟩) := by
  have hc := crc_lt (body f g)
  rw [rdN_enc (p := p ++ txt (body f g)) (q := q) (x := (crc (body f g) : Int)) (by omega) (by rw [hS]; unfold encG; simp only [List.append_assoc])]
  unfold encG
  rw [← List.append_assoc, List.length_append (bs := RdM.encN _)]
end
set_option maxHeartbeats 1000000 in
set_option maxRecDepth 100000 in
theorem dec_ok {σ : World} {F : List Res} {b : Nat} {p q S : RdM.Bs} {f : Nat} {g : List RdM.Bs} (lab : Nat) (hg : OkG g) (hf : f ≤ 1099511627776) (hS : S = p ++ encG f g ++ q) (hs : S.length ≤ 1099511627776) :
    FnT Try.prog σ F 74 [.pointer (some ⟨b, 0, none⟩)] [(600, cel b (cellR S ⟨p.length, 0⟩) 130)] (fun u ρ => ∃ a c, u = .tuple #[.int .i64 f, .slice a g.length c, .bool true] ∧ ρ = [(600, cel b (cellR S ⟨(p ++ encG f g).length, 0⟩) 130), (lab, slW 9 encT 1 (.slice a g.length c) g)]) := by
  refine fn_of 46 Try.func74 rfl Try.ntmps74 rfl ?_
  have hgl := hg.len
  have hgp := List.length_pos_iff.2 hg.ne
  have hbl := body_le hg hf
  have hcr := crc_lt (body f g)
  refine w_seq (w_region (za rfl (za rfl (za rfl (wl_nil (st_tn (w_seq (w_region (zm rfl (wl_op [600] rfl rfl rfl rfl (op_fn Try.func83 rfl rfl rfl (rtxt_to 600 (group_txt hg hf hS) hs)) ?_))))))))))
  rintro _ _ ⟨rfl, rfl⟩
  refine za rfl (wl_nil (st_tn (w_seq (w_region (zm rfl (wl_op [600] rfl rfl rfl rfl (op_fn Try.func84 rfl rfl rfl (rnum_to 600 (group_num hS) hs)) ?_))))))
  rintro _ _ ⟨rfl, rfl⟩
  refine za rfl (wl_nil (st_tn (w_seq (w_seq (w_region (zm rfl (zd rfl (op_fn Try.func85 rfl rfl rfl (rerr_any (celR 600 rfl))) (zd rfl (op_val (v' := .bool false) (by simp) (op_neq rfl rfl)) ?_))))))))
  refine zm rfl (wl_wanted_det rfl rfl rfl rfl rfl rfl rfl (op_move rfl) (wl_wanted_det rfl rfl rfl rfl rfl rfl rfl (op_move rfl) (wl_wanted_det rfl rfl rfl rfl rfl rfl rfl (op_fn Try.func68 rfl rfl rfl (sum_any (body f g) (by omega))) ?_)))
  refine wl_wanted_det rfl rfl rfl rfl rfl rfl rfl (op_convI64 rfl (by rw [Try.underlying110]; rfl) Try.underlying3 (by omega)) ?_
  refine wl_wanted_det rfl rfl rfl rfl rfl rfl rfl (op_val (v' := .bool false) (by simp) (op_neq rfl rfl)) ?_
  refine zd rfl (op_pick_f rfl rfl) (wl_nil (st_tn (w_cond_f (rfl) ?_)))
  refine w_skip (st_tn (w_seq (w_region (zm rfl (wl_op [] rfl rfl rfl rfl (op_fn Try.func72 rfl rfl rfl (rnew_any 23 (body f g))) ?_)))))
  rintro _ _ ⟨b23, rfl, rfl⟩
  refine za rfl (wl_nil (st_tn (w_seq (w_region (zm rfl (wl_op [23] rfl rfl rfl rfl (op_fn Try.func84 rfl rfl rfl (rnum_to 23 (body_num hf) (by omega))) ?_))))))
  rintro _ _ ⟨rfl, rfl⟩
  refine za rfl (wl_nil (st_tn (w_seq (w_seq (w_region (zm rfl (wl_op [23] rfl rfl rfl rfl (op_fn Try.func86 rfl rfl rfl (rcnt_to 23 (body_cnt hg) (by omega))) ?_)))))))
  rintro _ _ ⟨rfl, rfl⟩
  refine zm rfl (wl_nil (st_tn (w_block (w_emp 3 (slO_nil 9 1) ?_))))
  refine w_loopQ (X := Nat × List (List UInt8) × Option Addr × Nat × RdM.Rd) (fun z => z.1 ≤ g.length ∧ z.2.1 = g.take z.1 ∧ z.2.2.2.2 = ⟨(pre f g z.1).length, 0⟩) (fun z => [(28, .int .i64 (z.1)), (3, .slice (z.2.2.1) (z.2.1).length (z.2.2.2.1))]) (fun z => [(3, slW 9 encT 1 (.slice (z.2.2.1) (z.2.1).length (z.2.2.2.1)) (z.2.1)), (23, cel b23 (cellR (body f g) (z.2.2.2.2)) 130)]) (fun z => g.length - z.1) ((0, [], none, 0, ⟨(pre f g 0).length, 0⟩)) [(2, _), (7, _), (27, _)] [(600, _)] [3, 23, 600] rfl (rfl) (.cons rfl (.cons rfl (.nil _))) (.cons rfl (.cons rfl (.cons rfl (.nil _)))) (by
      try dsimp only
      exact ⟨Nat.zero_le _, rfl, rfl⟩) ?_
  rintro ⟨i, recs, a_recs, c_recs, r⟩ ⟨hi, hrecs, hr⟩
  refine w_norm2 (by dsimp only [List.cons_append, List.nil_append]) (by dsimp only [List.cons_append, List.nil_append]) ?_
  try dsimp only at hi hrecs hr ⊢
  refine w_seq (w_region (zd rfl (op_lss rfl rfl) (wl_nil (st_tn (w_seq (w_cond_d rfl (fun hc29 => ?_) (fun hc29 => ?_)))))))
  · -- c29.t
    obtain ⟨x, hx⟩ := getE (l := g) (i := i) (by omega)
    have htx : rdT (body f g) 65536 r = (x, ⟨(pre f g (i + 1)).length, 0⟩) := by rw [hr]; exact body_txt hg hx
    have hrl : recs.length ≤ 256 := by rw [hrecs, List.length_take]; omega
    refine w_skip (st_tn (w_seq (w_block (w_region (zm rfl (zm rfl (wl_op [23] rfl rfl rfl rfl (op_fn Try.func83 rfl rfl rfl (rtxt_to 23 htx (by omega))) ?_)))))))
    rintro _ _ ⟨rfl, rfl⟩
    refine wl_op [] rfl rfl rfl rfl (op_buildSlice (enc := encT) (l := [x]) (lab := 33) tL35_1we rfl rfl (fun _ => rfl) rfl) ?_
    rintro _ _ ⟨a33, c33, rfl, rfl⟩
    refine wl_op [3] rfl rfl rfl rfl (op_append (lab := 3) (lab' := 34) rfl rfl tP35we enc1T (Sl.lab 33 rfl (by simp [maxLen])) (by simp; omega) (by simp; omega)) ?_
    rintro _ _ ⟨a34, c34, rfl, rfl⟩
    refine za rfl (wl_nil (st_bn (st_tn (w_region (zd rfl (op_add' rfl rfl (by omega)) ?_)))))
    refine zm rfl (wl_nil ?_)
    refine st_roundQ (x := (i, recs, a_recs, c_recs, r)) ((i + 1, recs ++ [x], _, _, ⟨(pre f g (i + 1)).length, 0⟩)) [34, 23, 600] rfl (rfl) (.cons rfl (.cons rfl (.nil _))) (.cons rfl (.cons rfl (.cons rfl (.nil _)))) (by
        try dsimp only
        exact ⟨by omega, by rw [hrecs, take_snoc hx], rfl⟩) (by
        try dsimp only
        omega)
  · -- c29.f
    have hrg : recs = g := by rw [hrecs, take_all (by omega)]
    subst hrg
    have hen : endE (body f recs) r = 0 := by
      rw [hr]
      unfold endE
      rw [if_neg (by simp), if_neg]
      show ¬ (pre f recs i).length < (body f recs).length
      have : pre f recs i = body f recs := by unfold pre body; rw [take_all (by omega)]
      rw [this]; exact Nat.lt_irrefl _
    refine w_exit (st_te ?_)
    refine st_te ?_
    refine st_be (st_tn (w_seq (w_region (zm rfl (zm rfl (zm rfl (zd rfl (op_val (v' := .int .i64 0) (by rw [hen]) (op_fn Try.func87 rfl rfl rfl (rend_any (celR 23 rfl)))) ?_)))))))
    refine zd rfl (op_val (v' := .bool true) (by simp) (op_eql rfl rfl)) ?_
    refine zm rfl (wl_wanted_det rfl rfl rfl rfl rfl rfl rfl (op_move rfl) (wl_wanted_det rfl rfl rfl rfl rfl rfl rfl (op_lenT rfl tS35we (Sl.ent (Sl.lab 3 rfl (by unfold maxLen; omega)))) ?_))
    refine wl_wanted_det rfl rfl rfl rfl rfl rfl rfl (op_val (v' := .bool true) (by simp; omega) (op_gtr rfl rfl)) ?_
    refine zd rfl (op_pick_t rfl rfl) (za rfl (za rfl (za rfl (wl_nil (st_tn (w_ret (st_ret (vs := [_, _, _]) [600, 3] Try.results74 ⟨rfl, ⟨rfl, ⟨rfl, trivial⟩⟩⟩ rfl ?_)))))))
    refine ⟨[(600, _), (lab, _)], rfl, ?_⟩
    exact ⟨_, _, rfl, rfl⟩
set_option maxHeartbeats 400000 in
set_option maxRecDepth 100000 in
theorem dec_no {σ : World} {F : List Res} {b : Nat} {S : RdM.Bs} {r : Rd} (h : (rdN S (rdT S 1073741824 r).2).2.e ≠ 0) (hs : S.length ≤ 1099511627776) :
    FnT Try.prog σ F 74 [.pointer (some ⟨b, 0, none⟩)] [(600, cel b (cellR S r) 130)] (fun u ρ => u = .tuple #[.int .i64 0, .slice none 0 0, .bool false] ∧ ρ = [(600, cel b (cellR S (rdN S (rdT S 1073741824 r).2).2) 130)]) := by
  refine fn_of 46 Try.func74 rfl Try.ntmps74 rfl ?_
  refine w_seq (w_region (za rfl (za rfl (za rfl (wl_nil (st_tn (w_seq (w_region (zm rfl (wl_op [600] rfl rfl rfl rfl (op_fn Try.func83 rfl rfl rfl (rtxt_any 1073741824 r hs)) ?_))))))))))
  rintro _ _ ⟨rfl, rfl⟩
  refine za rfl (wl_nil (st_tn (w_seq (w_region (zm rfl (wl_op [600] rfl rfl rfl rfl (op_fn Try.func84 rfl rfl rfl (rnum_any (rdT S 1073741824 r).2 hs)) ?_))))))
  rintro _ _ ⟨rfl, rfl⟩
  refine za rfl (wl_nil (st_tn (w_seq (w_seq (w_region (zm rfl (zd rfl (op_fn Try.func85 rfl rfl rfl (rerr_any (celR 600 rfl))) (zd rfl (op_val (v' := .bool true) (by simp; exact h) (op_neq rfl rfl)) ?_))))))))
  refine zm rfl (wl_unwanted rfl rfl rfl rfl rfl rfl rfl rfl (wl_unwanted rfl rfl rfl rfl rfl rfl rfl rfl (wl_unwanted rfl rfl rfl rfl rfl rfl rfl rfl (wl_unwanted rfl rfl rfl rfl rfl rfl rfl rfl (wl_unwanted rfl rfl rfl rfl rfl rfl rfl rfl (zd rfl (op_pick_t rfl rfl) (wl_nil (st_tn (w_cond_t (rfl) ?_)))))))))
  refine w_seq (w_region (za rfl (za rfl (za rfl (wl_nil (st_tn (w_ret (st_tr (st_ret (vs := [_, _, _]) [600] Try.results74 ⟨rfl, ⟨rfl, ⟨rfl, trivial⟩⟩⟩ rfl ?_)))))))))
  refine ⟨[(600, _)], rfl, ?_⟩
  exact ⟨rfl, rfl⟩
end Go.Proofs.Ytcbigmgakdanjaa
namespace Go.Proofs.Ytcbigmgakdanjaa
open Go Go.SL Go.RowKit Go.RdM Go.WalM
set_option linter.unusedVariables false
set_option linter.unusedSimpArgs false
theorem tF76_1wf : fieldB Try.prog 76 1 1 = true := by kernel_rfl
theorem tMixwf : Try.prog.follows .mixedOrders = true := by kernel_rfl
theorem tN105wf : (Try.prog.info? 105).bind (·.zero) = some (Value.agg #[Value.int .u8 0, Value.int .u8 0, Value.int .u8 0, Value.int .u8 0, Value.int .u8 0, Value.int .u8 0]) := by kernel_rfl
theorem tO9wf : oneB Try.prog 9 = true := by kernel_rfl
def encRow (x : Nat × Nat × Nat × Nat) : List Value := [.int .i64 x.1, .int .i64 x.2.1, .int .i64 x.2.2.1, .int .i64 x.2.2.2]
theorem enc1Row : Enc1 encRow 4 := ⟨fun _ => rfl, fun a u h => by simp [encRow] at h; rcases h with rfl | rfl | rfl | rfl <;> rfl⟩
structure Lr where
  rows : List (Nat × Nat × Nat × Nat)
  pend : List RdM.Bs
  fresh : Bool
  broken : Bool
def cellL (d : Nat) (nm : RdM.Bs) (v : Lr) (m : Nat) (a : Option Addr) (c : Nat) (p : Option Addr) (cp : Nat) : List Value :=
  [.pointer (some ⟨d, 0, none⟩), .string (str nm), .slice a v.rows.length c, .map (some m), .slice p v.pend.length cp, .bool v.fresh, .bool v.broken]
theorem tR105wf : arrB Try.prog 105 6 1 = true := by kernel_rfl
theorem tZ5wf : (Try.prog.info? 5).map (·.size) = some 1 := by kernel_rfl
theorem dig_high : ∀ k n, dig (k + 1) n = UInt8.ofNat (48 + n / 10 ^ k % 10) :: dig k n
  | 0, n => by simp [dig]
  | k + 1, n => by
    rw [dig, dig_high k, dig, Nat.div_div_eq_div_mul, ← Nat.pow_succ', List.cons_append]
def fil (n i : Nat) : List UInt8 := List.replicate (6 - i) 0 ++ dig i n
theorem len_fil {n i : Nat} (h : i ≤ 6) : (fil n i).length = 6 := by unfold fil; rw [List.length_append, List.length_replicate, len_dig]; omega
theorem fil_set {n i : Nat} (h : i < 6) : setsL ((fil n i).map cu) (5 - i) [Value.int .u8 ((UInt8.ofNat (48 + n / 10 ^ i % 10)).toNat : Int)] = (fil n (i + 1)).map cu := by
  show ((fil n i).map cu).set (5 - i) (cu (UInt8.ofNat (48 + n / 10 ^ i % 10))) = _
  rw [← List.map_set]
  congr 1
  unfold fil
  rw [dig_high]
  have h1 : 6 - i = (5 - i) + 1 := by omega
  have h2 : 6 - (i + 1) = 5 - i := by omega
  rw [h1, h2, List.replicate_succ', List.append_assoc, List.set_append_right _ _ (by simp)]
  simp
theorem fil_six (n : Nat) : fil n 6 = dig 6 n := by unfold fil; simp
set_option maxHeartbeats 1000000 in
set_option maxRecDepth 100000 in
theorem file_any {σ : World} {F : List Res} {b d m c cp : Nat} {nm : RdM.Bs} {v : Lr} {a p : Option Addr} (n : Nat) (hn : n ≤ 999999) (hnm : nm.length ≤ 64) (hd : Ent σ F (At ⟨b, 0, none⟩ (cellL d nm v m a c p cp))) :
    FnT Try.prog σ F 45 [.pointer (some ⟨b, 0, none⟩), .int .i64 n] [] (fun u ρ => u = .string (str (fileN nm n)) ∧ ρ = []) := by
  refine fn_of 28 Try.func45 rfl Try.ntmps45 rfl ?_
  refine w_seq (w_region (za rfl (wl_nil (st_tn (w_seq (w_region (wl_op [] rfl rfl rfl rfl (op_alloc (l := 5) tN105wf) ?_)))))))
  rintro _ _ ⟨b5, rfl, rfl⟩
  refine wl_nil (st_tn (w_seq (w_seq (w_region (zm rfl (wl_nil (st_tn (w_block ?_))))))))
  refine w_loopQ (X := Nat × Nat) (fun z => z.2 ≤ 6 ∧ z.1 = n / 10 ^ z.2) (fun z => [(1, .int .i64 (z.1)), (7, .int .i64 (z.2))]) (fun z => [(5, cel b5 ((fil n (z.2)).map cu) 105)]) (fun z => 6 - z.2) ((n, 0)) [(0, _), (5, _)] [] [5] rfl (rfl) (.cons rfl (.cons rfl (.nil _))) (.cons rfl (.cons rfl (.nil _))) (by
      try dsimp only
      exact ⟨Nat.zero_le _, by simp⟩) ?_
  rintro ⟨k, i⟩ ⟨hi, hk⟩
  refine w_norm2 (by dsimp only [List.cons_append, List.nil_append]) (by dsimp only [List.cons_append, List.nil_append]) ?_
  try dsimp only at hi hk ⊢
  refine w_seq (w_region (zd rfl (op_lss rfl rfl) (wl_nil (st_tn (w_seq (w_cond_d rfl (fun hc8 => ?_) (fun hc8 => ?_)))))))
  · -- c8.t
    have hkb : k ≤ 999999 := by rw [hk]; exact Nat.le_trans (Nat.div_le_self _ _) hn
    refine w_skip (st_tn (w_seq (w_block (w_seq (w_region (zm rfl (za rfl (wl_nil (st_tn (w_seq (w_region (zm rfl (zd rfl (op_val (v' := .int .i64 ((5 - i : Nat) : Int)) (by rw [show (5 : Int) - i = ((5 - i : Nat) : Int) by omega]) (op_sub' rfl rfl (by omega))) ?_)))))))))))))
    refine zm rfl (zd rfl (op_remN rfl rfl (by omega) (by omega)) ?_)
    refine zd rfl (op_add' rfl rfl (by omega)) ?_
    refine zd rfl (op_val (v' := .int .u8 ((UInt8.ofNat (48 + n / 10 ^ i % 10)).toNat : Int)) (by rw [show (48 + (k : Int) % 10).toNat = 48 + n / 10 ^ i % 10 by rw [← hk]; omega]) (op_convU rfl (by rw [Try.underlying3]; rfl) Try.underlying5 (by omega))) ?_
    refine zd rfl (op_val (v' := .pointer (some ⟨b5, 5 - i, none⟩)) (by rw [Addr.add_mid, Nat.zero_add, Nat.mul_one]) (op_idxArr (i := 5 - i) rfl rfl tR105wf (by omega))) ?_
    refine wl_op0 [5] rfl rfl rfl (op_store (l := 5) rfl rfl tZ5wf (by rfl) (by rfl) (by rw [List.length_map, len_fil hi]; show 5 - i + 1 ≤ 6; omega)) ?_
    rintro _ _ ⟨rfl, rfl⟩
    refine wl_nil (st_tn (w_region (zm rfl (zd rfl (op_quoN rfl rfl (by omega) (by omega) (by omega)) ?_))))
    refine za rfl (wl_nil (st_bn (st_tn (w_region (zd rfl (op_add' rfl rfl (by omega)) ?_)))))
    refine zm rfl (wl_nil ?_)
    refine st_roundQ (x := (k, i)) ((k / 10, i + 1)) [5] rfl (by show rs [_] = rs [_]; rw [← fil_set (by omega)]; rfl) (.cons rfl (.cons rfl (.nil _))) (.cons rfl (.cons rfl (.nil _))) (by
        try dsimp only
        exact ⟨by omega, by rw [hk, Nat.div_div_eq_div_mul, Nat.pow_succ]⟩) (by
        try dsimp only
        omega)
  · -- c8.f
    refine w_exit (st_te ?_)
    refine st_te ?_
    refine st_be (st_tn (w_seq ?_))
    refine w_draw (D := [⟨20, [], [], [], _, false, [], []⟩, ⟨21, [0], [], [], _, false, [], []⟩, ⟨22, [1], [], [], _, false, [], []⟩, ⟨23, [2], [], [], _, false, [], []⟩, ⟨24, [3], [], [], _, false, [], []⟩, ⟨25, [], [], [], _, false, [], []⟩, ⟨26, [5], [], [], _, false, [], []⟩]) [] [0, 5] [⟨20, [], [], false, [], []⟩, ⟨21, [0], [], false, [], []⟩, ⟨22, [1], [], false, [], []⟩, ⟨23, [2], [], false, [], []⟩, ⟨24, [3], [], false, [], []⟩, ⟨25, [], [], false, [], []⟩, ⟨26, [5], [], false, [], []⟩] tMixwf (by rfl) (by kernel_rfl) (by rfl) (by rfl)
        ⟨.plain rfl (by intro X; exact op_move rfl),
        ⟨.plain rfl (by intro X; rintro _ _ ⟨rfl, rfl⟩; exact op_nilCheck rfl),
        ⟨.plain rfl (by intro X; rintro _ _ ⟨rfl, rfl⟩; exact op_fieldAddr (off := 1) rfl tF76_1wf),
        ⟨.plain rfl (by intro X; rintro _ _ ⟨rfl, rfl⟩; exact op_load1 rfl tO9wf (Ent.app (Ent.app (Ent.fld hd 1) X) _)),
        ⟨.plain rfl (by intro X; rintro _ _ ⟨rfl, rfl⟩; exact op_catBs rfl rfl (by simp; omega)),
        ⟨.plain rfl (by intro X; exact op_sliceArr rfl tR105wf (by decide)),
        ⟨.plain rfl (by intro X; rintro _ _ ⟨rfl, rfl⟩; exact op_bytesStr (l := fil n i) rfl Try.underlying27 Try.underlying5 Try.underlying9 (Sl.cellsN 5 rfl (len_fil hi) (by simp [maxLen]))),
        trivial⟩⟩⟩⟩⟩⟩⟩ ?_
    rintro _ _ ⟨rfl, rfl⟩ _ _ ⟨rfl, rfl⟩ _ _ ⟨rfl, rfl⟩ _ _ ⟨rfl, rfl⟩ _ _ ⟨rfl, rfl⟩ _ _ ⟨rfl, rfl⟩ _ _ ⟨rfl, rfl⟩
    refine wl_norm (e' := [(24, _), (26, _)]) (.cons rfl (.cons rfl (.nil _))) (by dsimp only [cond_false, cond_true, List.nil_append, List.cons_append]) ?_
    refine zd rfl (op_catBs rfl rfl (by rw [len_fil hi]; simp; omega)) ?_
    refine za rfl (wl_nil (st_tn (w_ret (st_ret (vs := [_]) [] Try.results45 ⟨rfl, trivial⟩ rfl ?_))))
    refine ⟨_, rfl, ?_⟩
    have hfin : fil n i = dig 6 n := by rw [show i = 6 by omega, fil_six]
    rw [hfin]; exact ⟨rfl, rfl⟩
end Go.Proofs.Ytcbigmgakdanjaa
