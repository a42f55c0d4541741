/- A symbolic program logic over the kit's 'Code.wp': environments of slots, owned blocks, reading facts, triples of operations. Conditions: none. -/
import Derived.WalkKit
import Derived.Deep.LoopGhost
namespace Go.SL
open Go.RowKit

/-! ### Environments -/
abbrev Env := List (Nat × Value)
def lk : Env → Nat → Option Value
  | [], _ => none
  | (i, v) :: e, j => bif Nat.beq i j then some v else lk e j
def ev (e : Env) : Operand → Option Value
  | .tmp t => lk e t
  | .const v => some v
  | .global g => some (.pointer (some ⟨g, 0, none⟩))
  | .func f => some (.func (.func f) #[] #[])
def evs (e : Env) : List Operand → Option (List Value)
  | [] => some []
  | x :: l => match ev e x, evs e l with
    | some v, some vs => some (v :: vs)
    | _, _ => none
structure Rel (n : Nat) (e : Env) (a : Act) : Prop where
  size : a.tmps.size = n
  get : ∀ i v, lk e i = some v → a.tmps.getD i undef = v
  defers : a.defers = []

theorem Rel.ev {n : Nat} {e : Env} {a : Act} (h : Rel n e a) {x : Operand} {v : Value} (hx : ev e x = some v) : a.eval x = v := by
  cases x with
  | tmp t => exact h.get t v hx
  | const u => simpa [SL.ev, Act.eval] using hx
  | global g => simpa [SL.ev, Act.eval] using hx
  | func f => simpa [SL.ev, Act.eval] using hx

theorem Rel.evs {n : Nat} {e : Env} {a : Act} (h : Rel n e a) : ∀ {l : List Operand} {vs : List Value}, evs e l = some vs → l.map a.eval = vs
  | [], vs, hx => by simp [SL.evs] at hx; simp [hx]
  | x :: l, vs, hx => by
    simp only [SL.evs] at hx
    split at hx
    · rename_i v us hv hu
      simp at hx; subst hx
      simp [h.ev hv, h.evs hu]
    · simp at hx

theorem Rel.put {n d : Nat} {e : Env} {a : Act} (h : Rel n e a) (hd : Nat.blt d n = true) (v : Value) : Rel n ((d, v) :: e) (a.put (some d) v) := by
  have hd' : d < n := by simpa [Nat.blt_eq] using hd
  refine ⟨by simp [Act.put, h.size], ?_, by simp [Act.put, h.defers]⟩
  intro i u hi
  simp only [lk] at hi
  have hs := h.size
  by_cases hid : d = i
  · subst hid
    simp at hi; subst hi
    simp [Act.put, hs, hd']
  · have : Nat.beq d i = false := by
      cases hb : Nat.beq d i with
      | false => rfl
      | true => exact absurd (Nat.eq_of_beq_eq_true hb) hid
    simp [this] at hi
    have := h.get i u hi
    simp only [Act.put]
    simp only [Array.getD_eq_getD_getElem?] at this ⊢
    rw [Array.getElem?_setIfInBounds_ne hid]; exact this

/-- The environment e2 says no more than e1. -/
def Sube (e1 e2 : Env) : Prop := ∀ i v, lk e2 i = some v → lk e1 i = some v
theorem Rel.sub {n : Nat} {e1 e2 : Env} {a : Act} (h : Rel n e1 a) (hs : Sube e1 e2) : Rel n e2 a := ⟨h.size, fun i v hi => h.get i v (hs i v hi), h.defers⟩
theorem Sube.refl (e : Env) : Sube e e := fun _ _ h => h
theorem Sube.nil (e : Env) : Sube e [] := fun _ _ h => by simp [lk] at h
theorem Sube.cons {e1 e2 : Env} {i : Nat} {v : Value} (h : lk e1 i = some v) (hs : Sube e1 e2) : Sube e1 ((i, v) :: e2) := by
  intro j u hj
  simp only [lk] at hj
  cases hb : Nat.beq i j with
  | true => rw [hb] at hj; simp at hj; subst hj; rw [← Nat.eq_of_beq_eq_true hb]; exact h
  | false => rw [hb] at hj; simp at hj; exact hs j u hj
/-- Only the slots of the list ds. -/
def keepE (e : Env) : List Nat → Env
  | [] => []
  | d :: ds => match lk e d with
    | some v => (d, v) :: keepE e ds
    | none => keepE e ds
theorem Sube.keep (e : Env) : ∀ ds, Sube e (keepE e ds)
  | [] => Sube.nil e
  | d :: ds => by
    simp only [keepE]
    split
    · rename_i v hv; exact Sube.cons hv (Sube.keep e ds)
    · exact Sube.keep e ds

/-! ### Owned memory -/
abbrev Mem := Nat → Option Obj
abbrev Res := Mem → Prop
def MSub (m : Mem) (w : World) : Prop := ∀ i o, m i = some o → w.heap[i]? = some o
def MDisj (m m' : Mem) : Prop := ∀ i, m i = none ∨ m' i = none
theorem MDisj.symm {m m' : Mem} (h : MDisj m m') : MDisj m' m := fun i => (h i).symm
structure Own (σ : World) (F : List Res) (w : World) : Prop where
  os : w.os = σ.os
  tape : w.tape = σ.tape
  output : w.output = σ.output
  mem : ∃ l : List (Res × Mem), l.map Prod.fst = F ∧ (∀ p ∈ l, p.1 p.2 ∧ MSub p.2 w) ∧ l.Pairwise (fun p q => MDisj p.2 q.2)

theorem perm_map {α β : Type _} (f : α → β) : ∀ {l : List α} {s t : List β}, s.Perm t → l.map f = s → ∃ l', l.Perm l' ∧ l'.map f = t := by
  intro l s t h
  induction h generalizing l with
  | nil => intro hl; exact ⟨l, List.Perm.refl _, hl⟩
  | cons x _ ih =>
    intro hl
    cases l with
    | nil => simp at hl
    | cons a l => simp at hl; obtain ⟨l', hp, hm⟩ := ih hl.2; exact ⟨a :: l', hp.cons a, by simp [hm, hl.1]⟩
  | swap x y s =>
    intro hl
    match l, hl with
    | a :: b :: l, hl => simp at hl; exact ⟨b :: a :: l, List.Perm.swap b a l, by simp [hl]⟩
    | [a], hl => simp at hl
    | [], hl => simp at hl
  | trans _ _ ih1 ih2 =>
    intro hl
    obtain ⟨l1, hp1, hm1⟩ := ih1 hl
    obtain ⟨l2, hp2, hm2⟩ := ih2 hm1
    exact ⟨l2, hp1.trans hp2, hm2⟩

theorem Own.perm {σ : World} {F F' : List Res} {w : World} (h : Own σ F w) (hp : F.Perm F') : Own σ F' w := by
  obtain ⟨h1, h2, h3, l, hl, hm, hd⟩ := h
  obtain ⟨l', hp', hl'⟩ := perm_map Prod.fst hp hl
  exact ⟨h1, h2, h3, l', hl', fun p hpm => hm p (hp'.mem_iff.2 hpm), hp'.pairwise hd (fun h => h.symm)⟩
theorem Own.tail {σ : World} {r : Res} {F : List Res} {w : World} (h : Own σ (r :: F) w) : Own σ F w := by
  obtain ⟨h1, h2, h3, l, hl, hm, hd⟩ := h
  cases l with
  | nil => simp at hl
  | cons p l =>
    simp at hl
    exact ⟨h1, h2, h3, l, hl.2, fun q hq => hm q (List.mem_cons_of_mem _ hq), (List.pairwise_cons.1 hd).2⟩
theorem Own.drop {σ : World} : ∀ {R F : List Res} {w : World}, Own σ (R ++ F) w → Own σ F w
  | [], _, _, h => h
  | _ :: R, _, _, h => Own.drop (R := R) h.tail
theorem Own.left {σ : World} {R F : List Res} {w : World} (h : Own σ (R ++ F) w) : Own σ R w := Own.drop (h.perm List.perm_append_comm)
theorem Own.mem_of {σ : World} {r : Res} {F : List Res} {w : World} (h : Own σ F w) (hr : r ∈ F) : ∃ m, r m ∧ MSub m w := by
  obtain ⟨_, _, _, l, hl, hm, _⟩ := h
  subst hl
  obtain ⟨p, hp, rfl⟩ := List.mem_map.1 hr
  exact ⟨p.2, (hm p hp).1, (hm p hp).2⟩
/-- Another world with the same streams whose heap extends the old one. -/
theorem Own.ext {σ : World} {F : List Res} {w w' : World} (h : Own σ F w) (ho : w'.os = w.os) (ht : w'.tape = w.tape) (hu : w'.output = w.output)
    (hh : ∀ (i : Nat) (o : Obj), w.heap[i]? = some o → w'.heap[i]? = some o) : Own σ F w' := by
  obtain ⟨h1, h2, h3, l, hl, hm, hd⟩ := h
  exact ⟨ho.trans h1, ht.trans h2, hu.trans h3, l, hl, fun p hp => ⟨(hm p hp).1, fun (i : Nat) (o : Obj) hi => hh i o ((hm p hp).2 i o hi)⟩, hd⟩
theorem Own.drawn {σ : World} {F : List Res} {w : World} (h : Own σ F w) (n : Nat) : Own σ F { w with drawn := n } := h.ext rfl rfl rfl (fun _ _ h => h)
/-- The first resource is exchanged: its memory lies in the new world, all that is not its block is as it was. -/
theorem Own.swap {σ : World} {r r' : Res} {F : List Res} {w w' : World} {b : Nat} {o' : Obj} (h : Own σ (r :: F) w)
    (hr : ∀ m, r m → ∃ o, m b = some o) (hr' : r' (fun i => if i = b then some o' else none))
    (ho : w'.os = w.os) (ht : w'.tape = w.tape) (hu : w'.output = w.output) (hb : w'.heap[b]? = some o') (hh : ∀ i, i ≠ b → ∀ o, w.heap[i]? = some o → w'.heap[i]? = some o) : Own σ (r' :: F) w' := by
  obtain ⟨h1, h2, h3, l, hl, hm, hd⟩ := h
  cases l with
  | nil => simp at hl
  | cons p l =>
    simp at hl
    obtain ⟨rfl, rfl⟩ := hl
    obtain ⟨o, hpb⟩ := hr _ (hm p (List.mem_cons_self)).1
    have hdp := List.pairwise_cons.1 hd
    have hnot : ∀ q ∈ l, q.2 b = none := fun q hq => ((hdp.1 q hq) b).resolve_left (by simp [hpb])
    refine ⟨ho.trans h1, ht.trans h2, hu.trans h3, (r', fun i => if i = b then some o' else none) :: l, by simp, ?_, ?_⟩
    · intro q hq
      rcases List.mem_cons.1 hq with rfl | hql
      · refine ⟨hr', fun (i : Nat) (o : Obj) hi => ?_⟩
        by_cases hib : i = b
        · subst hib; simp at hi; subst hi; exact hb
        · simp [hib] at hi
      · refine ⟨(hm q (List.mem_cons_of_mem _ hql)).1, fun (i : Nat) (o : Obj) hi => ?_⟩
        have hib : i ≠ b := fun e => by subst e; rw [hnot q hql] at hi; simp at hi
        exact hh i hib o ((hm q (List.mem_cons_of_mem _ hql)).2 i o hi)
    · refine List.pairwise_cons.2 ⟨fun q hq i => ?_, hdp.2⟩
      by_cases hib : i = b
      · subst hib; exact .inr (hnot q hq)
      · exact .inl (by simp [hib])
/-- A new block. -/
theorem Own.alloc {σ : World} {r : Res} {F : List Res} {w : World} {o : Obj} (h : Own σ F w) (hr : r (fun i => if i = w.heap.size then some o else none)) : Own σ (r :: F) (w.alloc o) := by
  obtain ⟨h1, h2, h3, l, hl, hm, hd⟩ := h
  have hh : ∀ (i : Nat) (o' : Obj), w.heap[i]? = some o' → (w.alloc o).heap[i]? = some o' := fun i o' hi => by
    have : i < w.heap.size := by
      rcases Nat.lt_or_ge i w.heap.size with h | h
      · exact h
      · simp [Array.getElem?_eq_none h] at hi
    show (w.heap.push o)[i]? = _
    rw [Array.getElem?_push, if_neg (by omega)]; exact hi
  have hnew : (w.alloc o).heap[w.heap.size]? = some o := by show (w.heap.push o)[w.heap.size]? = _; simp
  refine ⟨h1, h2, h3, (r, fun i => if i = w.heap.size then some o else none) :: l, by simp [hl], ?_, ?_⟩
  · intro q hq
    rcases List.mem_cons.1 hq with rfl | hql
    · refine ⟨hr, fun (i : Nat) (o' : Obj) hi => ?_⟩
      by_cases hib : i = w.heap.size
      · subst hib; simp at hi; subst hi; exact hnew
      · simp [hib] at hi
    · exact ⟨(hm q hql).1, fun (i : Nat) (o' : Obj) hi => hh i o' ((hm q hql).2 i o' hi)⟩
  · refine List.pairwise_cons.2 ⟨fun q hq i => ?_, hd⟩
    by_cases hib : i = w.heap.size
    · subst hib
      refine .inr ?_
      cases hq' : q.2 w.heap.size with
      | none => rfl
      | some o' => have := (hm q hq).2 _ o' hq'; simp at this
    · exact .inl (by simp [hib])

/-! ### Labelled resources -/
abbrev RL := List (Nat × Res)
def rs (R : RL) : List Res := R.map Prod.snd
def getL : RL → Nat → Option Res
  | [], _ => none
  | (i, r) :: R, j => bif Nat.beq i j then some r else getL R j
def eraseL : RL → Nat → RL
  | [], _ => []
  | (i, r) :: R, j => bif Nat.beq i j then R else (i, r) :: eraseL R j
theorem perm_getL : ∀ {R : RL} {l : Nat} {r : Res}, getL R l = some r → (rs R).Perm (r :: rs (eraseL R l))
  | [], l, r, h => by simp [getL] at h
  | (i, r') :: R, l, r, h => by
    simp only [getL] at h
    cases hb : Nat.beq i l with
    | true => rw [hb] at h; simp at h; subst h; simp [eraseL, hb, rs]
    | false =>
      rw [hb] at h; simp at h
      have := perm_getL h
      simp only [eraseL, hb, rs, cond_false, List.map_cons] at this ⊢
      exact (this.cons r').trans (List.Perm.swap _ _ _)
def takeL : RL → List Nat → Option (RL × RL)
  | R, [] => some ([], R)
  | R, l :: L => match getL R l with
    | none => none
    | some r => match takeL (eraseL R l) L with
      | none => none
      | some (A, B) => some ((l, r) :: A, B)
theorem perm_takeL : ∀ {L : List Nat} {R A B : RL}, takeL R L = some (A, B) → (rs R).Perm (rs A ++ rs B)
  | [], R, A, B, h => by simp [takeL] at h; obtain ⟨rfl, rfl⟩ := h; simp [rs]
  | l :: L, R, A, B, h => by
    simp only [takeL] at h
    split at h
    · simp at h
    · rename_i r hr
      split at h
      · simp at h
      · rename_i A' B' ht
        simp at h; obtain ⟨rfl, rfl⟩ := h
        exact (perm_getL hr).trans ((perm_takeL ht).cons r)
/-- R2's resources are found in R1, label by label. -/
def pickL (R : RL) : List Nat → Option RL
  | [] => some []
  | l :: L => match getL R l, pickL R L with
    | some r, some A => some ((l, r) :: A)
    | _, _ => none
theorem Own.take {σ : World} {R A B : RL} {F : List Res} {L : List Nat} {w : World} (h : Own σ (rs R ++ F) w) (ht : takeL R L = some (A, B)) : Own σ (rs A ++ (rs B ++ F)) w := by
  rw [← List.append_assoc]; exact h.perm ((perm_takeL ht).append_right F)
/-- Only the named ones are kept. -/
theorem Own.keep {σ : World} {R A B : RL} {F : List Res} {L : List Nat} {w : World} (h : Own σ (rs R ++ F) w) (ht : takeL R L = some (A, B)) : Own σ (rs A ++ F) w := by
  have h1 := h.take ht
  refine Own.drop (R := rs B) (h1.perm ?_)
  rw [← List.append_assoc, ← List.append_assoc]
  exact (List.perm_append_comm).append_right F

/-! ### Facts that owned memory entails -/
def Ent (σ : World) (F : List Res) (φ : World → Prop) : Prop := ∀ w, Own σ F w → φ w
theorem Ent.app {σ : World} {F : List Res} {φ : World → Prop} (h : Ent σ F φ) (R : List Res) : Ent σ (R ++ F) φ := fun w hw => h w hw.drop
theorem Ent.mono {σ : World} {F : List Res} {φ ψ : World → Prop} (h : Ent σ F φ) (hi : ∀ w, φ w → ψ w) : Ent σ F ψ := fun w hw => hi w (h w hw)
theorem Ent.mono2 {σ : World} {F : List Res} {φ φ' ψ : World → Prop} (h : Ent σ F φ) (h' : Ent σ F φ') (hi : ∀ w, φ w → φ' w → ψ w) : Ent σ F ψ := fun w hw => hi w (h w hw) (h' w hw)
theorem Ent.pure {σ : World} {F : List Res} {p : Prop} (h : p) : Ent σ F (fun _ => p) := fun _ _ => h
/-- A fact that a resource states of the world. -/
def Says (r : Res) (φ : World → Prop) : Prop := ∀ m w, r m → MSub m w → φ w
theorem Ent.of_mem {σ : World} {F : List Res} {r : Res} {φ : World → Prop} (hr : r ∈ F) (hs : Says r φ) : Ent σ F φ := fun w hw => let ⟨m, h1, h2⟩ := hw.mem_of hr; hs m w h1 h2
theorem mem_getL : ∀ {R : RL} {l : Nat} {r : Res}, getL R l = some r → r ∈ rs R := fun h => (perm_getL h).mem_iff.2 (List.mem_cons_self)
theorem Ent.lab {σ : World} {R : RL} {F : List Res} {l : Nat} {r : Res} {φ : World → Prop} (h : getL R l = some r) (hs : Says r φ) : Ent σ (rs R ++ F) φ :=
  Ent.of_mem (List.mem_append_left _ (mem_getL h)) hs

/-! ### Triples of operations -/
section
variable (P : Program) (σ : World) (n : Nat)
/-- The operation, run where e holds and R is owned beside the frame F, ends in a value v and resources ρ of which S holds. -/
def OpT (F : List Res) (o : Oper) (e : Env) (R : RL) (S : Value → RL → Prop) : Prop :=
  ∀ (Q : Exit → Act → World → Prop) (K : Act → World → Prop) (a : Act) (w : World), Rel n e a → Own σ (rs R ++ F) w →
    (∀ v ρ w', S v ρ → Own σ (rs ρ ++ F) w' → K (a.put o.dst v) w') → o.wp P a w K Q
/-- A list of operations of a region, then K. -/
def wlk (ops : Array Oper) (Q : Exit → Act → World → Prop) (K : Act → World → Prop) : List Oper → Act → World → Prop
  | [], a, w => K a w
  | o :: rest, a, w =>
    if Region.wanted o (yielded ops a.tmps) then o.wp P a w (wlk ops Q K rest) Q ∨ (o.asks P a w ∧ LetsOut Q) else wlk ops Q K rest (a.put o.dst undef) w
theorem wlk_eq (ops : Array Oper) (Q : Exit → Act → World → Prop) : ∀ l a w, wlk P ops Q (Q .normal) l a w = wpList P ops Q l a w
  | [], _, _ => rfl
  | o :: l, a, w => by
    have : wlk P ops Q (Q .normal) l = wpList P ops Q l := by funext a w; exact wlk_eq ops Q l a w
    simp only [wlk, wpList, this]
def WL (ops : Array Oper) (Q : Exit → Act → World → Prop) (K : Act → World → Prop) (l : List Oper) (e : Env) (R : RL) (F : List Res) : Prop :=
  ∀ a w, Rel n e a → Own σ (rs R ++ F) w → wlk P ops Q K l a w
def W (c : Code) (Q : Exit → Act → World → Prop) (e : Env) (R : RL) (F : List Res) : Prop :=
  ∀ a w, Rel n e a → Own σ (rs R ++ F) w → c.wp P Q a w
/-- K holds wherever e holds and R is owned. -/
def St (K : Act → World → Prop) (e : Env) (R : RL) (F : List Res) : Prop := ∀ a w, Rel n e a → Own σ (rs R ++ F) w → K a w
end

section rules
variable {P : Program} {σ : World} {n : Nat} {ops : Array Oper} {Q : Exit → Act → World → Prop} {K : Act → World → Prop} {o : Oper} {rest : List Oper} {e : Env} {R A B : RL} {F : List Res}

theorem wl_nil (h : St σ n K e R F) : WL P σ n ops Q K [] e R F := h

/-- One operation without a guard: its triple, with the resources of the labels L. -/
theorem wl_op (L : List Nat) {d : Nat} {S : Value → RL → Prop} (hg : o.guard = none) (hd : o.dst = some d) (hn : Nat.blt d n = true) (ht : takeL R L = some (A, B))
    (h : OpT P σ n (rs B ++ F) o e A S) (k : ∀ v ρ, S v ρ → WL P σ n ops Q K rest ((d, v) :: e) (ρ ++ B) F) : WL P σ n ops Q K (o :: rest) e R F := by
  intro a w hr ho
  simp only [wlk]
  rw [if_pos (by simp [Region.wanted, hg])]
  refine .inl (h Q _ a w hr (ho.take ht) fun v ρ w' hS ho' => ?_)
  rw [hd]
  refine k v ρ hS _ w' (hr.put hn v) ?_
  simpa [rs, List.append_assoc] using ho'
/-- .. that writes no slot. -/
theorem wl_op0 (L : List Nat) {S : Value → RL → Prop} (hg : o.guard = none) (hd : o.dst = none) (ht : takeL R L = some (A, B))
    (h : OpT P σ n (rs B ++ F) o e A S) (k : ∀ v ρ, S v ρ → WL P σ n ops Q K rest e (ρ ++ B) F) : WL P σ n ops Q K (o :: rest) e R F := by
  intro a w hr ho
  simp only [wlk]
  rw [if_pos (by simp [Region.wanted, hg])]
  refine .inl (h Q _ a w hr (ho.take ht) fun v ρ w' hS ho' => ?_)
  rw [hd]
  refine k v ρ hS _ w' hr ?_
  simpa [rs, List.append_assoc] using ho'
/-- The operation yields this value and nothing else turns. -/
def Det (v : Value) : Value → RL → Prop := fun u ρ => u = v ∧ ρ = []
theorem wl_det {d : Nat} {v : Value} (hg : o.guard = none) (hd : o.dst = some d) (hn : Nat.blt d n = true) (h : OpT P σ n (rs R ++ F) o e [] (Det v))
    (k : WL P σ n ops Q K rest ((d, v) :: e) R F) : WL P σ n ops Q K (o :: rest) e R F :=
  wl_op [] hg hd hn rfl h fun u ρ hS => by obtain ⟨rfl, rfl⟩ := hS; exact k

theorem yielded_of {a : Act} {j t : Nat} {o' : Oper} {b : Bool} (hr : Rel n e a) (hj : ops[j]? = some o') (hd : o'.dst = some t) (hn : Nat.blt t n = true) (hv : lk e t = some (.bool b)) : yielded ops a.tmps j = some b := by
  have h1 := hr.get t _ hv
  have hlt : t < a.tmps.size := by rw [hr.size]; simpa [Nat.blt_eq] using hn
  unfold yielded
  simp only [hj, Option.bind_some, hd]
  rw [Array.getD_eq_getD_getElem?, Array.getElem?_eq_getElem hlt] at h1
  simp at h1
  rw [Array.getElem?_eq_getElem hlt]
  simp [h1]
/-- A guarded operation that is wanted. -/
theorem wl_wanted (L : List Nat) {d j t : Nat} {o' : Oper} {b : Bool} {S : Value → RL → Prop} (hg : o.guard = some (j, b)) (hj : ops[j]? = some o') (hjd : o'.dst = some t) (hjn : Nat.blt t n = true) (hjv : lk e t = some (.bool b))
    (hd : o.dst = some d) (hn : Nat.blt d n = true) (ht : takeL R L = some (A, B))
    (h : OpT P σ n (rs B ++ F) o e A S) (k : ∀ v ρ, S v ρ → WL P σ n ops Q K rest ((d, v) :: e) (ρ ++ B) F) : WL P σ n ops Q K (o :: rest) e R F := by
  intro a w hr ho
  simp only [wlk]
  rw [if_pos (by simp [Region.wanted, hg, yielded_of hr hj hjd hjn hjv])]
  refine .inl (h Q _ a w hr (ho.take ht) fun v ρ w' hS ho' => ?_)
  rw [hd]
  refine k v ρ hS _ w' (hr.put hn v) ?_
  simpa [rs, List.append_assoc] using ho'
theorem wl_wanted_det {d j t : Nat} {o' : Oper} {b : Bool} {v : Value} (hg : o.guard = some (j, b)) (hj : ops[j]? = some o') (hjd : o'.dst = some t) (hjn : Nat.blt t n = true) (hjv : lk e t = some (.bool b))
    (hd : o.dst = some d) (hn : Nat.blt d n = true) (h : OpT P σ n (rs R ++ F) o e [] (Det v))
    (k : WL P σ n ops Q K rest ((d, v) :: e) R F) : WL P σ n ops Q K (o :: rest) e R F :=
  wl_wanted [] hg hj hjd hjn hjv hd hn rfl h fun u ρ hS => by obtain ⟨rfl, rfl⟩ := hS; exact k
/-- A guarded operation that is not wanted. -/
theorem wl_unwanted {d j t : Nat} {o' : Oper} {b c : Bool} (hg : o.guard = some (j, b)) (hj : ops[j]? = some o') (hjd : o'.dst = some t) (hjn : Nat.blt t n = true) (hjv : lk e t = some (.bool c)) (hbc : Bool.xor b c = true)
    (hd : o.dst = some d) (hn : Nat.blt d n = true)
    (k : WL P σ n ops Q K rest ((d, undef) :: e) R F) : WL P σ n ops Q K (o :: rest) e R F := by
  intro a w hr ho
  simp only [wlk]
  rw [if_neg (by rw [Region.wanted, hg]; simp only [yielded_of hr hj hjd hjn hjv]; cases b <;> cases c <;> simp_all)]
  rw [hd]
  exact k _ w (hr.put hn undef) ho
theorem wl_sub {e' : Env} (hs : Sube e e') (k : WL P σ n ops Q K rest e' R F) : WL P σ n ops Q K rest e R F := fun a w hr ho => k a w (hr.sub hs) ho
theorem wl_keep (L : List Nat) (ht : takeL R L = some (A, B)) (k : WL P σ n ops Q K rest e A F) : WL P σ n ops Q K rest e R F := fun a w hr ho => k a w hr (ho.keep ht)
theorem w_sub {c : Code} {e' : Env} (hs : Sube e e') (k : W P σ n c Q e' R F) : W P σ n c Q e R F := fun a w hr ho => k a w (hr.sub hs) ho
theorem w_keep {c : Code} (L : List Nat) (ht : takeL R L = some (A, B)) (k : W P σ n c Q e A F) : W P σ n c Q e R F := fun a w hr ho => k a w hr (ho.keep ht)
theorem wl_app {l1 l2 : List Oper} (h : WL P σ n ops Q (wlk P ops Q K l2) l1 e R F) : WL P σ n ops Q K (l1 ++ l2) e R F := by
  have key : ∀ l1 a w, wlk P ops Q (wlk P ops Q K l2) l1 a w → wlk P ops Q K (l1 ++ l2) a w := by
    intro l1
    induction l1 with
    | nil => intro a w h; exact h
    | cons o l ih =>
      intro a w h
      simp only [List.cons_append, wlk] at h ⊢
      split
      · rename_i hw; rw [if_pos hw] at h; exact h.imp (Oper.wp_mono fun a w => ih a w) id
      · rename_i hw; rw [if_neg hw] at h; exact ih _ _ h
  exact fun a w hr ho => key l1 a w (h a w hr ho)

/-- A resource of no memory. -/
theorem Own.emp {σ : World} {r : Res} {F : List Res} {w : World} (h : Own σ F w) (hr : r (fun _ => none)) : Own σ (r :: F) w := by
  obtain ⟨h1, h2, h3, l, hl, hm, hd⟩ := h
  refine ⟨h1, h2, h3, (r, fun _ => none) :: l, by simp [hl], ?_, List.pairwise_cons.2 ⟨fun q _ i => .inl rfl, hd⟩⟩
  intro q hq
  rcases List.mem_cons.1 hq with rfl | hq
  · exact ⟨hr, fun (i : Nat) (o : Obj) hi => by simp at hi⟩
  · exact hm q hq
theorem wl_emp (l : Nat) {r : Res} (hr : r (fun _ => none)) (k : WL P σ n ops Q K rest e ((l, r) :: R) F) : WL P σ n ops Q K rest e R F := fun a w h ho => k a w h (ho.emp hr)
theorem w_emp {c : Code} (l : Nat) {r : Res} (hr : r (fun _ => none)) (k : W P σ n c Q e ((l, r) :: R) F) : W P σ n c Q e R F := fun a w h ho => k a w h (ho.emp hr)

/-! ### Code -/
theorem w_seq {x y : Code} (h : W P σ n x (Exit.then (y.wp P Q) Q) e R F) : W P σ n (.seq x y) Q e R F := fun a w hr ho => wp_seq (h a w hr ho)
/-- The rest is told by K alone. -/
theorem w_seq_k {x y : Code} (h : ∀ K : Act → World → Prop, (∀ e R, W P σ n y Q e R F → St σ n K e R F) → W P σ n x (Exit.then K Q) e R F) : W P σ n (.seq x y) Q e R F :=
  fun a w hr ho => wp_seq (h _ (fun _ _ h => h) a w hr ho)
theorem w_region {id : Nat} {l : List Oper} (h : WL P σ n l.toArray Q (Q .normal) l e R F) : W P σ n (.region id l.toArray false) Q e R F := fun a w hr ho =>
  wp_region_lit (by rw [← wlk_eq]; exact h a w hr ho)
theorem w_skip (h : St σ n (Q .normal) e R F) : W P σ n .skip Q e R F := fun a w hr ho => wp_skip (h a w hr ho)
theorem w_ret (h : St σ n (Q .ret) e R F) : W P σ n .ret Q e R F := fun a w hr ho => wp_ret (h a w hr ho)
theorem w_exit {id : Nat} (h : St σ n (Q (.exit id)) e R F) : W P σ n (.exit id) Q e R F := fun a w hr ho => wp_exit (h a w hr ho)
theorem w_block {id : Nat} {c : Code} (h : W P σ n c (Exit.inBlock id Q) e R F) : W P σ n (.block id c) Q e R F := fun a w hr ho => wp_block (h a w hr ho)
theorem w_cond {c : Operand} {x y : Code} {t : Bool} (hc : ev e c = some (.bool t)) (ht : t = true → W P σ n x Q e R F) (hf : t = false → W P σ n y Q e R F) : W P σ n (.cond c x y) Q e R F :=
  fun a w hr ho => wp_cond_split (hr.ev hc) (fun h => ht h a w hr ho) (fun h => hf h a w hr ho)
theorem w_cond_d {c : Operand} {x y : Code} {p : Prop} [Decidable p] (hc : ev e c = some (.bool (decide p))) (ht : p → W P σ n x Q e R F) (hf : ¬ p → W P σ n y Q e R F) : W P σ n (.cond c x y) Q e R F :=
  w_cond hc (fun h => ht (of_decide_eq_true h)) (fun h => hf (of_decide_eq_false h))
theorem w_cond_t {c : Operand} {x y : Code} (hc : ev e c = some (.bool true)) (h : W P σ n x Q e R F) : W P σ n (.cond c x y) Q e R F := fun a w hr ho => wp_cond_true (hr.ev hc) (h a w hr ho)
theorem w_cond_f {c : Operand} {x y : Code} (hc : ev e c = some (.bool false)) (h : W P σ n y Q e R F) : W P σ n (.cond c x y) Q e R F := fun a w hr ho => wp_cond_false (hr.ev hc) (h a w hr ho)
/-- Where the run of a code ends: told by the exit. -/
theorem st_then {y : Code} (h : W P σ n y Q e R F) : St σ n (Exit.then (y.wp P Q) Q .normal) e R F := h
theorem st_sub {K : Act → World → Prop} {e' : Env} (hs : Sube e e') (k : St σ n K e' R F) : St σ n K e R F := fun a w hr ho => k a w (hr.sub hs) ho
theorem st_keep {K : Act → World → Prop} (L : List Nat) (ht : takeL R L = some (A, B)) (k : St σ n K e A F) : St σ n K e R F := fun a w hr ho => k a w hr (ho.keep ht)
theorem st_inblock {id : Nat} (h : St σ n (Q .normal) e R F) : St σ n (Exit.inBlock id Q (.exit id)) e R F := fun a w hr ho => by simpa [Exit.inBlock] using h a w hr ho
theorem st_inblock_ne {id id' : Nat} (hne : Nat.beq id' id = false) (h : St σ n (Q (.exit id')) e R F) : St σ n (Exit.inBlock id Q (.exit id')) e R F := fun a w hr ho => by
  have : id' ≠ id := fun h => by subst h; simp at hne
  simpa [Exit.inBlock, this] using h a w hr ho
/-- A loop: a ghost x, what holds of the slots and of memory at each head, a measure. -/
theorem w_loop {c : Code} {X : Type} (φ : X → Prop) (E : X → Env) (RR : X → RL) (μ : X → Nat) (x₀ : X) (h₀ : φ x₀) (he : Sube e (E x₀)) (hR : ∃ L A B, takeL R L = some (A, B) ∧ rs A = rs (RR x₀))
    (round : ∀ x, φ x → W P σ n c (Exit.then (fun a w => ∃ x', φ x' ∧ μ x' < μ x ∧ Rel n (E x') a ∧ Own σ (rs (RR x') ++ F) w) Q) (E x) (RR x) F) : W P σ n (.loop c) Q e R F := by
  intro a w hr ho
  obtain ⟨L, A, B, ht, hA⟩ := hR
  refine wp_loop_ghost (fun m a w => ∃ x, μ x = m ∧ φ x ∧ Rel n (E x) a ∧ Own σ (rs (RR x) ++ F) w) (μ x₀) ⟨x₀, rfl, h₀, hr.sub he, hA ▸ ho.keep ht⟩ ?_
  rintro m a w ⟨x, rfl, hx, hr, ho⟩
  refine Code.wp_mono ?_ (round x hx a w hr ho)
  intro e a w h
  cases e <;> first
    | exact h
    | (obtain ⟨x', h1, h2, h3, h4⟩ := h; exact ⟨μ x', h2, x', rfl, h1, h3, h4⟩)
end rules
end Go.SL
