/- Regions that draw their order, for the symbolic logic of Sl0: each operation by its own triple, in any order that the edges allow. Conditions: none. -/
import Derived.Test.YtecmigildpkigaaGreatSl2
import Derived.Orders
namespace Go.SL
open Go.RowKit
set_option linter.unusedSimpArgs false
set_option linter.unusedVariables false

/-- What is stated of one operation of such a region: its slot, the operations whose results it reads, those whose resources it takes, the region's own resources that it takes, what it leaves; are its resources taken by another one. -/
structure DOp where
  d : Nat
  deps : List Nat
  cons : List Nat
  ex : RL
  S : Value → RL → Prop
  gone : Bool := false
  peek : List Nat := []
  old : List Nat := []

/-- What the shape asks of an operation: without what it leaves. -/
structure DSh where
  d : Nat
  deps : List Nat
  cons : List Nat
  gone : Bool
  peek : List Nat
  old : List Nat
def shD (x : DOp) : DSh := ⟨x.d, x.deps, x.cons, x.gone, x.peek, x.old⟩
theorem map_get {D : List DOp} {j : Nat} {y : DSh} (h : (D.map shD)[j]? = some y) : ∃ x, D[j]? = some x ∧ y = shD x := by
  rw [List.getElem?_map] at h
  cases hx : D[j]? with
  | none => rw [hx] at h; simp at h
  | some x => rw [hx] at h; simp at h; exact ⟨x, rfl, h.symm⟩
/-- For all values of the operations js. -/
def allV (D : List DOp) : List Nat → (Env → RL → Prop) → Prop
  | [], k => k [] []
  | j :: js, k => match D[j]? with
    | none => False
    | some x => ∀ v ρ, x.S v ρ → allV D js fun e r => k ((x.d, v) :: e) (ρ ++ r)
def finV : List DOp → (Env → RL → Prop) → Prop
  | [], k => k [] []
  | x :: D, k => ∀ v ρ, x.S v ρ → finV D fun e r => k ((x.d, v) :: e) (bif x.gone then r else ρ ++ r)
def edgeB (o : Oper) (j : Nat) : Bool := o.after.toList.any fun e => Nat.beq e.on j && Region.binds .any e
def nodupB : List Nat → Bool
  | [] => true
  | x :: l => !(l.any (Nat.beq x)) && nodupB l
theorem nodupB_spec : ∀ {l : List Nat}, nodupB l = true → l.Nodup
  | [], _ => List.nodup_nil
  | x :: l, h => by
    simp only [nodupB, Bool.and_eq_true, Bool.not_eq_true', List.any_eq_false] at h
    exact List.nodup_cons.2 ⟨fun hm => h.1 x hm (by simp), nodupB_spec h.2⟩
def rangeB : Nat → Nat → List Nat
  | _, 0 => []
  | k, n + 1 => k :: rangeB (k + 1) n
theorem mem_rangeB : ∀ {n k i : Nat}, k ≤ i → i < k + n → i ∈ rangeB k n
  | 0, k, i, h1, h2 => by omega
  | n + 1, k, i, h1, h2 => by
    by_cases h : i = k
    · subst h; simp [rangeB]
    · simp only [rangeB, List.mem_cons]; exact .inr (mem_rangeB (by omega) (by omega))
def keysOut (e : Env) (ds : List Nat) : Bool := e.all fun p => !(ds.any (Nat.beq p.1))
section
variable (P : Program) (σ : World) (n : Nat)
/-- What a later operation takes may be read before it. -/
def exOf (D : List DOp) (j : Nat) : RL := match D[j]? with | some y => y.ex | none => []
def stepT (D : List DOp) (e0 keep : Env) (sh : RL) (F : List Res) (o : Oper) (x : DOp) : Prop :=
  ∀ X, allV D x.deps fun e r => allV D x.cons fun e2 c => OpT P σ n (rs (r ++ (x.peek.flatMap (exOf D) ++ sh)) ++ (X ++ F)) o (e ++ e2 ++ (keepE e0 x.old ++ keep)) (c ++ x.ex) x.S
/-- A guard that is not met. -/
def offB (b : Bool) : Value → Bool
  | .bool c => Bool.xor b c
  | _ => true
/-- The operation has no guard; or one that is met; or one that is not. -/
inductive StepOK (D : List DOp) (e0 keep : Env) (sh : RL) (F : List Res) (o : Oper) (x : DOp) : Prop where
  | plain (hg : o.guard = none) (h : stepT P σ n D e0 keep sh F o x) (hu : Nat.blt x.d n = true ∨ ∀ v ρ, x.S v ρ → v = undef := by exact Or.inl rfl) : StepOK D e0 keep sh F o x
  | wanted {j : Nat} {b : Bool} {y : DOp} (hg : o.guard = some (j, b)) (hj : D[j]? = some y) (he : edgeB o j = true) (hb : ∀ v ρ, y.S v ρ → v = .bool b) (h : stepT P σ n D e0 keep sh F o x) (hu : Nat.blt x.d n = true ∨ ∀ v ρ, x.S v ρ → v = undef := by exact Or.inl rfl) : StepOK D e0 keep sh F o x
  | unwanted {j : Nat} {b : Bool} {y : DOp} (hg : o.guard = some (j, b)) (hj : D[j]? = some y) (he : edgeB o j = true) (hb : ∀ v ρ, y.S v ρ → offB b v = true) (hS : x.S undef []) (hex : x.ex = []) (hco : x.cons = []) : StepOK D e0 keep sh F o x
def stepsOK (D : List DOp) (e0 keep : Env) (sh : RL) (F : List Res) : List Oper → List DOp → Prop
  | _, [] => True
  | o :: os, x :: xs => StepOK P σ n D e0 keep sh F o x ∧ stepsOK D e0 keep sh F os xs
  | [], _ :: _ => False
end
def exs (D : List DOp) : RL := D.flatMap (·.ex)
/-- What must be there before, through others too. -/
def cloB (ops : List Oper) : Nat → List Nat → List Nat
  | 0, S => S
  | k + 1, S => cloB ops k (bif S.any (fun s => match ops[s]? with | some o => edgeB o k | none => false) then k :: S else S)
theorem cloB_on {ops : List Oper} {p : Nat → Prop} {m : Nat} (h : ∀ (j : Nat) (o : Oper) (k : Nat), ops[j]? = some o → (j = m ∨ p j) → edgeB o k = true → p k) : ∀ (n : Nat) (S : List Nat), (∀ s ∈ S, s = m ∨ p s) → ∀ s ∈ cloB ops n S, s = m ∨ p s
  | 0, S, hS => hS
  | k + 1, S, hS => by
    refine cloB_on h k _ fun s hs => ?_
    cases hb : S.any (fun s => match ops[s]? with | some o => edgeB o k | none => false) with
    | false => rw [hb] at hs; exact hS s hs
    | true =>
      rw [hb] at hs
      rcases List.mem_cons.1 hs with rfl | hs
      · obtain ⟨q, hq, h1⟩ := List.any_eq_true.1 hb
        split at h1
        · rename_i o ho; exact .inr (h q o s ho (hS q hq) h1)
        · simp at h1
      · exact hS s hs
/-- The operation j comes before o, number i, be it through others. -/
def farB (ops : List Oper) (i : Nat) (o : Oper) (j : Nat) : Bool := edgeB o j || (Nat.blt j i && (cloB ops i [i]).any (Nat.beq j))
/-- The shape of the region: checked by the kernel. m: how many operations come in any order; behind them the others, one by one. -/
def shapeB (ops : List Oper) (D : List DSh) (n : Nat) : Bool :=
  let m := D.length
  Nat.ble m ops.length &&
  (rangeB 0 ops.length).all (fun i => match ops[i]? with
    | none => false
    | some o => o.after.toList.all (fun e => !Region.binds .any e || Nat.blt e.on i) &&
      (Nat.blt i m || (bif Nat.beq i m then (let c := cloB ops m [m]; (rangeB 0 m).all fun j => c.any (Nat.beq j)) else edgeB o (i - 1))) &&
      (match D[i]? with
      | none => true
      | some x => (match o.dst with | some d => Nat.beq d x.d && Nat.blt x.d n | none => Nat.ble n x.d) && (x.peek.all (fun j => match ops[j]?, D[j]? with | some oj, some _ => farB ops j oj i | _, _ => false) && nodupB x.peek && x.old.all (fun t => (rangeB 0 m).all (fun j => match ops[j]?, D[j]? with | some oj, some y => !(Nat.beq y.d t) || farB ops j oj i | _, _ => false))) && x.deps.all (farB ops i o) && x.cons.all (farB ops i o) && nodupB x.deps && x.cons.all (fun j => match D[j]? with | some y => y.gone | none => false) && x.deps.all (fun j => match D[j]? with | some y => !y.gone | none => false)))
  && nodupB (D.map (·.d)) && nodupB (D.flatMap (·.cons))

/-! ### The proof -/
def clearC (cont : Nat → RL) (js : List Nat) : Nat → RL := fun j => if j ∈ js then [] else cont j
def flatC (cont : Nat → RL) (m : Nat) : RL := (List.range m).flatMap cont
theorem flatMap_clear_out (cont : Nat → RL) (j : Nat) : ∀ (l : List Nat), j ∉ l → l.flatMap (clearC cont [j]) = l.flatMap cont
  | [], _ => rfl
  | a :: l, h => by
    simp at h
    simp only [List.flatMap_cons, flatMap_clear_out cont j l h.2]
    congr 1
    simp [clearC]; exact fun e => absurd e.symm h.1
theorem perm_out (cont : Nat → RL) {j : Nat} : ∀ (l : List Nat), l.Nodup → j ∈ l → (l.flatMap cont).Perm (cont j ++ l.flatMap (clearC cont [j]))
  | [], _, h => by simp at h
  | a :: l, hn, h => by
    have hn' := List.nodup_cons.1 hn
    by_cases haj : a = j
    · subst haj
      simp only [List.flatMap_cons, flatMap_clear_out cont a l hn'.1]
      have : clearC cont [a] a = [] := by simp [clearC]
      rw [this]; simp
    · have hj : j ∈ l := by
        rcases List.mem_cons.1 h with h | h
        · exact absurd h.symm haj
        · exact h
      simp only [List.flatMap_cons]
      have : clearC cont [j] a = cont a := by simp [clearC, haj]
      rw [this]
      refine ((perm_out cont l hn'.2 hj).append_left (cont a)).trans ?_
      rw [← List.append_assoc, ← List.append_assoc]
      exact List.perm_append_comm.append_right _
theorem clear_clear (cont : Nat → RL) (j : Nat) (js : List Nat) : clearC (clearC cont [j]) js = clearC cont (j :: js) := by
  funext i; simp only [clearC, List.mem_cons, List.mem_singleton, List.not_mem_nil, or_false]
  by_cases h1 : i ∈ js <;> by_cases h2 : i = j <;> simp [h1, h2]
theorem perm_outs (m : Nat) : ∀ (js : List Nat) (cont : Nat → RL), js.Nodup → (∀ j ∈ js, j < m) → (flatC cont m).Perm (js.flatMap cont ++ flatC (clearC cont js) m)
  | [], cont, _, _ => by
    have : clearC cont [] = cont := by funext i; simp [clearC]
    simp [this]
  | j :: js, cont, hn, hm => by
    have hn' := List.nodup_cons.1 hn
    have h1 := perm_out cont (j := j) (List.range m) List.nodup_range (by simpa using hm j (by simp))
    have h2 := perm_outs m js (clearC cont [j]) hn'.2 (fun i hi => hm i (by simp [hi]))
    rw [clear_clear] at h2
    have h3 : js.flatMap (clearC cont [j]) = js.flatMap cont := flatMap_clear_out cont j js hn'.1
    rw [h3] at h2
    refine h1.trans ?_
    simp only [List.flatMap_cons, List.append_assoc]
    exact h2.append_left (cont j)
theorem rs_append (A B : RL) : rs (A ++ B) = rs A ++ rs B := by simp [rs]
theorem rs_perm {A B : RL} (h : A.Perm B) : (rs A).Perm (rs B) := h.map _
/-- The values of the operations js as an environment. -/
def envV (D : List DOp) (vs : Nat → Value) : List Nat → Env
  | [] => []
  | j :: js => match D[j]? with
    | none => envV D vs js
    | some x => (x.d, vs j) :: envV D vs js
theorem allV_use {D : List DOp} {vs : Nat → Value} {ρs : Nat → RL} : ∀ {js : List Nat} {k : Env → RL → Prop}, (∀ j ∈ js, ∃ x, D[j]? = some x ∧ x.S (vs j) (ρs j)) → allV D js k → k (envV D vs js) (js.flatMap ρs)
  | [], _, _, h => h
  | j :: js, k, hs, h => by
    obtain ⟨x, hx, hS⟩ := hs j (by simp)
    simp only [allV, hx] at h
    have := allV_use (fun i hi => hs i (by simp [hi])) (h _ _ hS)
    simpa only [envV, hx, List.flatMap_cons] using this
theorem lk_envV {D : List DOp} {vs : Nat → Value} : ∀ {js : List Nat} {t : Nat} {v : Value}, lk (envV D vs js) t = some v → ∃ j x, j ∈ js ∧ D[j]? = some x ∧ x.d = t ∧ vs j = v
  | [], t, v, h => by simp [envV, lk] at h
  | j :: js, t, v, h => by
    simp only [envV] at h
    cases hx : D[j]? with
    | none => rw [hx] at h; obtain ⟨i, x, h1, h2⟩ := lk_envV h; exact ⟨i, x, by simp [h1], h2⟩
    | some x =>
      rw [hx] at h
      simp only [lk] at h
      cases hb : Nat.beq x.d t with
      | true => rw [hb] at h; simp at h; exact ⟨j, x, by simp, hx, Nat.eq_of_beq_eq_true hb, h⟩
      | false => rw [hb] at h; simp at h; obtain ⟨i, y, h1, h2⟩ := lk_envV h; exact ⟨i, y, by simp [h1], h2⟩
theorem lk_append {e1 e2 : Env} {t : Nat} {v : Value} : lk (e1 ++ e2) t = some v → lk e1 t = some v ∨ lk e2 t = some v := by
  induction e1 with
  | nil => exact .inr
  | cons p e1 ih =>
    obtain ⟨i, u⟩ := p
    simp only [List.cons_append, lk]
    cases Nat.beq i t with
    | true => exact fun h => .inl h
    | false => simpa using ih
theorem finV_use {vs : Nat → Value} {ρs : Nat → RL} : ∀ {D : List DOp} {k : Env → RL → Prop} (b : Nat), (∀ (j : Nat) (x : DOp), D[j]? = some x → x.S (vs (b + j)) (ρs (b + j))) → finV D k →
    k ((D.zipIdx b).map fun p => (p.1.d, vs p.2)) ((D.zipIdx b).flatMap fun p => if p.1.gone then [] else ρs p.2)
  | [], _, _, _, h => h
  | x :: D, k, b, hs, h => by
    have := finV_use (k := fun e r => k ((x.d, vs b) :: e) (bif x.gone then r else ρs b ++ r)) (b + 1) (fun j y hy => by have := hs (j + 1) y (by simpa using hy); rwa [show b + (j + 1) = b + 1 + j by omega] at this) (h _ _ (hs 0 x rfl))
    simp only [List.zipIdx_cons, List.map_cons, List.flatMap_cons]
    cases hg : x.gone with
    | true => simpa [hg] using this
    | false => simpa [hg] using this

section main
variable {P : Program} {σ : World} {n : Nat} {ops : List Oper} {D : List DOp} {keep e : Env} {sh R B : RL} {F : List Res} {Q : Exit → Act → World → Prop}
structure Shape (ops : List Oper) (D : List DOp) (n : Nat) : Prop where
  le : D.length ≤ ops.length
  back : ∀ (i : Nat) (o : Oper), ops[i]? = some o → ∀ e ∈ o.after, Region.binds .any e = true → e.on < i
  tail : ∀ (i : Nat) (o : Oper), ops[i]? = some o → D.length = i → ∀ j, j < D.length → j ∈ cloB ops i [i]
  chain : ∀ (i : Nat) (o : Oper), ops[i]? = some o → D.length < i → edgeB o (i - 1) = true
  dst : ∀ (i : Nat) (o : Oper) (x : DOp), ops[i]? = some o → D[i]? = some x → (o.dst = some x.d ∧ x.d < n) ∨ (o.dst = none ∧ n ≤ x.d)
  peek : ∀ (i : Nat) (o : Oper) (x : DOp), ops[i]? = some o → D[i]? = some x → (∀ j ∈ x.peek, ∃ oj y, ops[j]? = some oj ∧ D[j]? = some y ∧ farB ops j oj i = true) ∧ x.peek.Nodup ∧ ∀ t ∈ x.old, ∀ (j : Nat) (oj : Oper) (y : DOp), ops[j]? = some oj → D[j]? = some y → y.d = t → farB ops j oj i = true
  deps : ∀ (i : Nat) (o : Oper) (x : DOp), ops[i]? = some o → D[i]? = some x → ∀ j ∈ x.deps, farB ops i o j = true ∧ ∃ y, D[j]? = some y ∧ y.gone = false
  cons : ∀ (i : Nat) (o : Oper) (x : DOp), ops[i]? = some o → D[i]? = some x → ∀ j ∈ x.cons, farB ops i o j = true ∧ ∃ y, D[j]? = some y ∧ y.gone = true
  nodep : ∀ (i : Nat) (o : Oper) (x : DOp), ops[i]? = some o → D[i]? = some x → x.deps.Nodup
  nod : (D.map (·.d)).Nodup
  noc : (D.flatMap (·.cons)).Nodup
theorem shape_of (h : shapeB ops (D.map shD) n = true) : Shape ops D n := by
  unfold shapeB at h
  simp only [List.length_map, Bool.and_eq_true, Nat.ble_eq, decide_eq_true_eq, List.all_eq_true] at h
  obtain ⟨⟨⟨hle, hall⟩, hnd⟩, hnc⟩ := h
  have hnd : (D.map (·.d)).Nodup := by have := nodupB_spec hnd; rw [List.map_map] at this; exact this
  have hnc : (D.flatMap (·.cons)).Nodup := by
    have := nodupB_spec hnc
    rwa [show (D.map shD).flatMap (·.cons) = D.flatMap (·.cons) by induction D with | nil => rfl | cons x D ih => simp only [List.map_cons, List.flatMap_cons]; rw [List.flatMap_map]; rfl] at this
  have get : ∀ (i : Nat) (o : Oper), ops[i]? = some o → i < ops.length := fun i o h => (List.getElem?_eq_some_iff.1 h).1
  have A : ∀ (i : Nat) (o : Oper), ops[i]? = some o → (∀ e ∈ o.after, Region.binds .any e = true → e.on < i) ∧ (D.length = i → ∀ j, j < D.length → j ∈ cloB ops i [i]) ∧ (D.length < i → edgeB o (i - 1) = true) ∧
      ∀ x, D[i]? = some x → (((o.dst = some x.d ∧ x.d < n) ∨ (o.dst = none ∧ n ≤ x.d)) ∧ ((∀ j ∈ x.peek, ∃ oj y, ops[j]? = some oj ∧ D[j]? = some y ∧ farB ops j oj i = true) ∧ x.peek.Nodup ∧ ∀ t ∈ x.old, ∀ (j : Nat) (oj : Oper) (y : DOp), ops[j]? = some oj → D[j]? = some y → y.d = t → farB ops j oj i = true)) ∧ (∀ j ∈ x.deps, farB ops i o j = true ∧ ∃ y, D[j]? = some y ∧ y.gone = false) ∧ (∀ j ∈ x.cons, farB ops i o j = true ∧ ∃ y, D[j]? = some y ∧ y.gone = true) ∧ x.deps.Nodup := by
    intro i o ho
    have h := hall i (mem_rangeB (Nat.zero_le _) (by have := get i o ho; omega))
    rw [ho] at h
    simp only [Bool.and_eq_true, List.all_eq_true, Array.mem_toList_iff, Bool.or_eq_true, Bool.not_eq_true', Nat.blt_eq] at h
    obtain ⟨⟨h1, h2⟩, h3⟩ := h
    refine ⟨fun e he hb => (h1 e he).resolve_left (by simp [hb]), fun hi j hj => ?_, fun hi => ?_, fun x hx => ?_⟩
    · have h2 := h2.resolve_left (by omega)
      rw [← hi, Nat.beq_refl, cond_true, List.all_eq_true] at h2
      obtain ⟨q, hq, h3⟩ := List.any_eq_true.1 (h2 j (mem_rangeB (Nat.zero_le _) (by omega)))
      rw [← hi, Nat.eq_of_beq_eq_true h3]; exact hq
    · have h2 := h2.resolve_left (by omega)
      rwa [show Nat.beq i D.length = false from Bool.eq_false_iff.2 fun e => by have := Nat.eq_of_beq_eq_true e; omega, cond_false] at h2
    · rw [List.getElem?_map, hx] at h3
      simp only [Option.map_some, Bool.and_eq_true, List.all_eq_true, Nat.blt_eq, decide_eq_true_eq] at h3
      obtain ⟨⟨⟨⟨⟨⟨h3, ⟨h4, h4'⟩, h4o⟩, h5⟩, h6⟩, h7⟩, h8⟩, h9⟩ := h3
      refine ⟨⟨?_, fun j hj => ?_, nodupB_spec h4', fun t ht j oj y hoj hy hd => ?_⟩, fun j hj => ⟨h5 j hj, ?_⟩, fun j hj => ⟨h6 j hj, ?_⟩, nodupB_spec h7⟩
      · cases hd : o.dst with
        | none => rw [hd] at h3; exact .inr ⟨rfl, by simpa [shD] using h3⟩
        | some d => rw [hd] at h3; simp only [Bool.and_eq_true, Nat.blt_eq] at h3; have h30 := Nat.eq_of_beq_eq_true h3.1; subst h30; exact .inl ⟨rfl, h3.2⟩
      · have := h4 j hj
        split at this
        · rename_i oj y hoj hy; obtain ⟨y', hy', rfl⟩ := map_get hy; exact ⟨oj, y', hoj, hy', this⟩
        · simp at this
      · have h1 := h4o t ht j (mem_rangeB (Nat.zero_le _) (by have := (List.getElem?_eq_some_iff.1 hy).1; omega))
        rw [hoj, List.getElem?_map, hy] at h1
        simp only [Option.map_some, Bool.or_eq_true, Bool.not_eq_true', shD] at h1
        exact h1.resolve_left (by rw [hd]; simp)
      · have := h9 j hj
        split at this
        · rename_i y hy; obtain ⟨y', hy', rfl⟩ := map_get hy; exact ⟨y', hy', by simpa [shD] using this⟩
        · simp at this
      · have := h8 j hj
        split at this
        · rename_i y hy; obtain ⟨y', hy', rfl⟩ := map_get hy; exact ⟨y', hy', by simpa [shD] using this⟩
        · simp at this
  exact ⟨hle, fun i o h => (A i o h).1, fun i o h => (A i o h).2.1, fun i o h => (A i o h).2.2.1, fun i o x h hx => ((A i o h).2.2.2 x hx).1.1, fun i o x h hx => ((A i o h).2.2.2 x hx).1.2, fun i o x h hx => ((A i o h).2.2.2 x hx).2.1, fun i o x h hx => ((A i o h).2.2.2 x hx).2.2.1, fun i o x h hx => ((A i o h).2.2.2 x hx).2.2.2, hnd, hnc⟩

def onL (L : Array Bool) (j : Nat) : Bool := L.getD j false
theorem ready_iff {L : Array Bool} {i : Nat} (hs : L.size = ops.length) : i ∈ Region.ready .any ops.toArray L ↔ ∃ o, ops[i]? = some o ∧ onL L i = false ∧ ∀ e ∈ o.after, Region.binds .any e = true → onL L e.on = true := by
  unfold Region.ready onL
  simp only [List.size_toArray, List.mem_filter, List.mem_range, Bool.and_eq_true, Bool.not_eq_true', List.getElem?_toArray]
  constructor
  · rintro ⟨h1, h2, h3⟩
    have hi : i < L.size := by omega
    rw [List.getElem?_eq_getElem h1] at h3
    refine ⟨ops[i], List.getElem?_eq_getElem h1, by simpa [Array.getD, hi] using h2, fun e he hb => ?_⟩
    simp only [Option.map_some, Option.getD_some, Array.all_eq_true_iff_forall_mem] at h3
    have := h3 e he
    simpa [hb] using this
  · rintro ⟨o, ho, h2, h3⟩
    obtain ⟨h1, rfl⟩ := List.getElem?_eq_some_iff.1 ho
    have hi : i < L.size := by omega
    refine ⟨h1, by simpa [Array.getD, hi] using h2, ?_⟩
    rw [List.getElem?_eq_getElem h1]
    simp only [Option.map_some, Option.getD_some, Array.all_eq_true_iff_forall_mem]
    intro e he
    cases hb : Region.binds .any e with
    | false => simp
    | true => simpa [hb] using h3 e he hb
theorem on_edge {L : Array Bool} {o : Oper} {j : Nat} (h : ∀ e ∈ o.after, Region.binds .any e = true → onL L e.on = true) (hj : edgeB o j = true) : onL L j = true := by
  unfold edgeB at hj
  obtain ⟨e, he, h1⟩ := List.any_eq_true.1 hj
  have he := Array.mem_toList_iff.1 he
  simp only [Bool.and_eq_true] at h1
  have := h e he h1.2
  rwa [Nat.eq_of_beq_eq_true h1.1] at this
theorem onL_set {L : Array Bool} {i j : Nat} (hi : i < L.size) : onL (L.setIfInBounds i true) j = (if j = i then true else onL L j) := by
  unfold onL
  simp only [Array.getD_eq_getD_getElem?, Array.getElem?_setIfInBounds]
  by_cases h : i = j
  · subst h; simp [hi]
  · simp [h, Ne.symm h]
theorem ready_some {L : Array Bool} (sp : Shape ops D n) (hs : L.size = ops.length) (h : Region.ready .any ops.toArray L = []) : ∀ i, i < ops.length → onL L i = true := by
  intro i
  induction i using Nat.strongRecOn with
  | _ i ih =>
    intro hi
    cases hc : onL L i with
    | true => rfl
    | false =>
      have : i ∈ Region.ready .any ops.toArray L := (ready_iff hs).2 ⟨ops[i], List.getElem?_eq_getElem hi, hc, fun e he hb => ih e.on (sp.back i _ (List.getElem?_eq_getElem hi) e he hb) (by have := sp.back i _ (List.getElem?_eq_getElem hi) e he hb; omega)⟩
      rw [h] at this
      simp at this
/-- The tail, one operation after another. -/
theorem any_tail (sp : Shape ops D n) : ∀ (fuel t : Nat) (L : Array Bool) (a : Act) (w : World), L.size = ops.length → D.length ≤ t → t ≤ ops.length → ops.length - t ≤ fuel → (∀ j, j < ops.length → (onL L j = true ↔ j < t)) →
    wlk P ops.toArray Q (Q .normal) (ops.drop t) a w → wpAny P .any ops.toArray Q fuel L a w := by
  intro fuel
  induction fuel with
  | zero =>
    intro t L a w hs hm hle hf hL h
    have ht : t = ops.length := by omega
    subst ht
    rw [List.drop_length] at h
    refine ⟨?_, h⟩
    apply List.eq_nil_iff_forall_not_mem.2
    intro i hi
    obtain ⟨o, ho, h2, _⟩ := (ready_iff hs).1 hi
    have hlt := (List.getElem?_eq_some_iff.1 ho).1
    rw [(hL i hlt).2 hlt] at h2
    simp at h2
  | succ fuel ih =>
    intro t L a w hs hm hle hf hL h
    refine ⟨fun hr => ?_, fun i hi => ?_⟩
    · have := ready_some sp hs hr
      have ht : t = ops.length := by
        rcases Nat.lt_or_ge t ops.length with h | h
        · have := (hL t h).1 (this t h); omega
        · omega
      subst ht
      rw [List.drop_length] at h
      exact h
    · obtain ⟨o, ho, h2, h3⟩ := (ready_iff hs).1 hi
      have hlt := (List.getElem?_eq_some_iff.1 ho).1
      have hti : t ≤ i := by
        rcases Nat.lt_or_ge i t with h | h
        · rw [(hL i hlt).2 h] at h2; simp at h2
        · exact h
      have hit : i = t := by
        rcases Nat.lt_or_ge t i with h | h
        · have hc := on_edge h3 (sp.chain i o ho (by omega))
          have := (hL (i - 1) (by omega)).1 hc
          omega
        · omega
      subst hit
      have hd : ops.drop i = o :: ops.drop (i + 1) := by
        obtain ⟨_, rfl⟩ := List.getElem?_eq_some_iff.1 ho
        exact List.drop_eq_getElem_cons hlt
      rw [hd] at h
      have hnext : ∀ a w, wlk P ops.toArray Q (Q .normal) (ops.drop (i + 1)) a w → wpAny P .any ops.toArray Q fuel (L.setIfInBounds i true) a w := fun a w h =>
        ih (i + 1) _ a w (by simp [hs]) (by omega) (by omega) (by omega) (fun j hj => by
          rw [onL_set (by omega)]
          by_cases hji : j = i
          · subst hji; simp
          · simp [hji]; rw [hL j hj]; omega) h
      unfold wpOp
      simp only [List.getElem?_toArray, ho]
      simp only [wlk] at h
      split at h
      · rename_i hw; rw [if_pos hw]; exact h.imp (Oper.wp_mono hnext) id
      · rename_i hw; rw [if_neg hw]; exact hnext _ _ h

theorem lk_append' {e1 e2 : Env} {t : Nat} {v : Value} : lk (e1 ++ e2) t = some v → lk e1 t = some v ∨ (lk e1 t = none ∧ lk e2 t = some v) := by
  induction e1 with
  | nil => exact fun h => .inr ⟨rfl, h⟩
  | cons p e1 ih =>
    obtain ⟨i, u⟩ := p
    simp only [List.cons_append, lk]
    cases Nat.beq i t with
    | true => exact fun h => .inl h
    | false => simpa using ih
theorem own_fin {cont ρs : Nat → RL} {w : World} : ∀ (D : List DOp) (b : Nat) (X : List Res), (∀ (j : Nat) (x : DOp), D[j]? = some x → x.gone = false → cont (b + j) = ρs (b + j)) →
    Own σ (rs ((List.range' b D.length).flatMap cont) ++ X) w → Own σ (rs ((D.zipIdx b).flatMap fun p => if p.1.gone then [] else ρs p.2) ++ X) w
  | [], _, _, _, h => h
  | x :: D, b, X, hc, h => by
    have hc' : ∀ (j : Nat) (y : DOp), D[j]? = some y → y.gone = false → cont (b + 1 + j) = ρs (b + 1 + j) := fun j y hy hg => by
      have := hc (j + 1) y (by simpa using hy) hg
      rwa [show b + (j + 1) = b + 1 + j by omega] at this
    simp only [List.length_cons, List.range'_succ, List.flatMap_cons, rs_append, List.append_assoc] at h
    simp only [List.zipIdx_cons, List.flatMap_cons]
    cases hg : x.gone with
    | true => simpa [hg] using own_fin D (b + 1) X hc' h.drop
    | false =>
      have h0 := hc 0 x rfl hg
      simp only [Nat.add_zero] at h0
      rw [h0] at h
      have h1 : Own σ (rs ((List.range' (b + 1) D.length).flatMap cont) ++ (rs (ρs b) ++ X)) w := h.perm (by
        rw [← List.append_assoc, ← List.append_assoc]; exact List.perm_append_comm.append_right X)
      have h2 := own_fin D (b + 1) (rs (ρs b) ++ X) hc' h1
      simp only [Bool.false_eq_true, if_false, rs_append, List.append_assoc]
      exact h2.perm (by rw [← List.append_assoc, ← List.append_assoc]; exact List.perm_append_comm.append_right X)
theorem stepsOK_get {e0 keep : Env} {sh : RL} {D' : List DOp} : ∀ {os : List Oper} {xs : List DOp} {i : Nat} {x : DOp} {o : Oper}, stepsOK P σ n D' e0 keep sh F os xs → xs[i]? = some x → os[i]? = some o → StepOK P σ n D' e0 keep sh F o x
  | _, [], i, x, o, _, h, _ => by simp at h
  | o' :: os, y :: xs, 0, x, o, h, hx, ho => by simp at hx ho; subst hx; subst ho; exact h.1
  | o' :: os, y :: xs, i + 1, x, o, h, hx, ho => stepsOK_get h.2 (by simpa using hx) (by simpa using ho)
  | [], _ :: _, _, _, _, h, _, _ => h.elim
structure DInv (σ : World) (n : Nat) (F : List Res) (ops : List Oper) (D : List DOp) (sh : RL) (a0 : Act) (L : Array Bool) (a : Act) (w : World) (vs : Nat → Value) (ρs cont : Nat → RL) : Prop where
  size : a.tmps.size = n
  defers : a.defers = []
  out : ∀ t, (∀ (j : Nat) (x : DOp), D[j]? = some x → x.d = t → onL L j = false) → a.tmps.getD t undef = a0.tmps.getD t undef
  val : ∀ (j : Nat) (x : DOp), D[j]? = some x → onL L j = true → a.tmps.getD x.d undef = vs j ∧ x.S (vs j) (ρs j)
  new : ∀ (j : Nat) (x : DOp), D[j]? = some x → onL L j = false → cont j = x.ex
  old : ∀ (j : Nat) (x : DOp), D[j]? = some x → onL L j = true → (∀ (i : Nat) (y : DOp), D[i]? = some y → onL L i = true → j ∉ y.cons) → cont j = ρs j
  own : Own σ (rs (flatC cont D.length) ++ (rs sh ++ F)) w
  cls : ∀ (j : Nat) (o : Oper), ops[j]? = some o → onL L j = true → ∀ e ∈ o.after, Region.binds .any e = true → onL L e.on = true
theorem nodup_cons_unique : ∀ {D : List DOp} {i i' j : Nat} {x y : DOp}, (D.flatMap (·.cons)).Nodup → D[i]? = some x → D[i']? = some y → j ∈ x.cons → j ∈ y.cons → i = i'
  | [], i, i', j, x, y, _, h, _, _, _ => by simp at h
  | z :: D, 0, 0, j, x, y, _, _, _, _, _ => rfl
  | z :: D, 0, i' + 1, j, x, y, hn, hx, hy, hjx, hjy => by
    simp at hx; subst hx
    rw [List.flatMap_cons, List.nodup_append] at hn
    have : j ∈ D.flatMap (·.cons) := List.mem_flatMap.2 ⟨y, List.mem_of_getElem? (by simpa using hy), hjy⟩
    exact absurd rfl (hn.2.2 j hjx j this)
  | z :: D, i + 1, 0, j, x, y, hn, hx, hy, hjx, hjy => by
    simp at hy; subst hy
    rw [List.flatMap_cons, List.nodup_append] at hn
    have : j ∈ D.flatMap (·.cons) := List.mem_flatMap.2 ⟨x, List.mem_of_getElem? (by simpa using hx), hjx⟩
    exact absurd rfl (hn.2.2 j hjy j this)
  | z :: D, i + 1, i' + 1, j, x, y, hn, hx, hy, hjx, hjy => by
    rw [List.flatMap_cons, List.nodup_append] at hn
    have := nodup_cons_unique (D := D) hn.2.1 (by simpa using hx) (by simpa using hy) hjx hjy
    omega
theorem nodup_cons_each : ∀ {D : List DOp} {i : Nat} {x : DOp}, (D.flatMap (·.cons)).Nodup → D[i]? = some x → x.cons.Nodup
  | [], i, x, _, h => by simp at h
  | z :: D, 0, x, hn, h => by simp at h; subst h; rw [List.flatMap_cons, List.nodup_append] at hn; exact hn.1
  | z :: D, i + 1, x, hn, h => by rw [List.flatMap_cons, List.nodup_append] at hn; exact nodup_cons_each hn.2.1 (by simpa using h)
theorem nodup_map_unique : ∀ {D : List DOp} {i j : Nat} {x y : DOp}, (D.map (·.d)).Nodup → D[i]? = some x → D[j]? = some y → x.d = y.d → i = j
  | [], i, j, x, y, _, h, _, _ => by simp at h
  | z :: D, 0, 0, x, y, _, _, _, _ => rfl
  | z :: D, 0, j + 1, x, y, hn, hx, hy, he => by
    simp at hx; subst hx
    rw [List.map_cons, List.nodup_cons] at hn
    exact absurd (List.mem_map.2 ⟨y, List.mem_of_getElem? (by simpa using hy), he.symm⟩) hn.1
  | z :: D, i + 1, 0, x, y, hn, hx, hy, he => by
    simp at hy; subst hy
    rw [List.map_cons, List.nodup_cons] at hn
    exact absurd (List.mem_map.2 ⟨x, List.mem_of_getElem? (by simpa using hx), he⟩) hn.1
  | z :: D, i + 1, j + 1, x, y, hn, hx, hy, he => by
    rw [List.map_cons, List.nodup_cons] at hn
    have := nodup_map_unique (D := D) hn.2 (by simpa using hx) (by simpa using hy) he
    omega
/-- One operation of the first part is listed. -/
theorem DInv.step {a0 a : Act} {L : Array Bool} {w w' : World} {vs : Nat → Value} {ρs cont : Nat → RL} {i : Nat} {x : DOp} {o : Oper} {v : Value} {ρ : RL} (sp : Shape ops D n) (h : DInv σ n F ops D sh a0 L a w vs ρs cont) (hs : L.size = ops.length)
    (hx : D[i]? = some x) (ho : ops[i]? = some o) (hun : onL L i = false) (hS : x.S v ρ) (hdone : ∀ j ∈ x.cons, onL L j = true)
    (hown : Own σ (rs ρ ++ (rs ((x.deps ++ x.peek).flatMap cont ++ sh) ++ (rs (flatC (clearC cont (i :: (x.cons ++ (x.deps ++ x.peek)))) D.length) ++ F))) w') (hbor : ∀ j ∈ x.deps ++ x.peek, j ≠ i ∧ j ∉ x.cons ∧ j < D.length) (hbn : (x.deps ++ x.peek).Nodup)
    (hed : ∀ e ∈ o.after, Region.binds .any e = true → onL L e.on = true) (hnv : n ≤ x.d → v = undef) :
    DInv σ n F ops D sh a0 (L.setIfInBounds i true) (a.put (some x.d) v) w' (fun j => if j = i then v else vs j) (fun j => if j = i then ρ else ρs j) (fun j => if j = i then ρ else if j ∈ x.cons then [] else cont j) := by
  have hi : i < ops.length := (List.getElem?_eq_some_iff.1 ho).1
  have him : i < D.length := (List.getElem?_eq_some_iff.1 hx).1
  have hset : ∀ j, onL (L.setIfInBounds i true) j = (if j = i then true else onL L j) := fun j => onL_set (by omega)
  have hget : ∀ t, (a.put (some x.d) v).tmps.getD t undef = if t = x.d then v else a.tmps.getD t undef := by
    intro t
    simp only [Act.put, Array.getD_eq_getD_getElem?, Array.getElem?_setIfInBounds]
    by_cases ht : x.d = t
    · subst ht
      rcases Nat.lt_or_ge x.d n with hd | hd
      · simp [h.size, hd]
      · have := hnv hd; subst this
        simp only [h.size, if_neg (Nat.not_lt.2 hd), if_true]; rfl
    · simp [ht, Ne.symm ht]
  refine ⟨by simp [Act.put, h.size], by simp [Act.put, h.defers], ?_, ?_, ?_, ?_, ?_, ?_⟩
  · intro t ht
    rw [hget, if_neg (by intro e; have := ht i x hx e.symm; rw [hset] at this; simp at this)]
    exact h.out t fun j y hy hd => by
      have := ht j y hy hd
      rw [hset] at this
      split at this
      · simp at this
      · exact this
  · intro j y hy hon
    rw [hset] at hon
    by_cases hji : j = i
    · subst hji
      rw [hx] at hy; simp at hy; subst hy
      simp [hget, hS]
    · simp only [hji, if_false] at hon ⊢
      refine ⟨?_, (h.val j y hy hon).2⟩
      rw [hget, if_neg (fun e => hji (nodup_map_unique sp.nod hy hx e))]
      exact (h.val j y hy hon).1
  · intro j y hy hon
    rw [hset] at hon
    by_cases hji : j = i
    · simp [hji] at hon
    · simp only [hji, if_false] at hon ⊢
      rw [if_neg (fun e => by rw [hdone j e] at hon; simp at hon)]
      exact h.new j y hy hon
  · intro j y hy hon hno
    rw [hset] at hon
    by_cases hji : j = i
    · simp [hji]
    · simp only [hji, if_false] at hon ⊢
      rw [if_neg (hno i x hx (by rw [hset]; simp))]
      refine h.old j y hy hon fun k z hz hk => hno k z hz (by rw [hset]; by_cases hki : k = i <;> simp [hki, hk])
  · have hnd : (i :: (x.deps ++ x.peek)).Nodup := List.nodup_cons.2 ⟨fun e => (hbor i e).1 rfl, hbn⟩
    have hlt : ∀ j ∈ i :: (x.deps ++ x.peek), j < D.length := by
      intro j hj
      rcases List.mem_cons.1 hj with rfl | hj
      · exact him
      · exact (hbor j hj).2.2
    generalize x.deps ++ x.peek = bl at hbor hbn hnd hlt hown
    have hp := perm_outs D.length (i :: bl) (fun j => if j = i then ρ else if j ∈ x.cons then [] else cont j) hnd hlt
    have e1 : (i :: bl).flatMap (fun j => if j = i then ρ else if j ∈ x.cons then [] else cont j) = ρ ++ bl.flatMap cont := by
      rw [List.flatMap_cons]
      simp only [if_true]
      congr 1
      have : ∀ l : List Nat, (∀ j ∈ l, j ≠ i ∧ j ∉ x.cons) → l.flatMap (fun j => if j = i then ρ else if j ∈ x.cons then [] else cont j) = l.flatMap cont := by
        intro l
        induction l with
        | nil => intro _; rfl
        | cons k l ih =>
          intro hl
          obtain ⟨h1, h2⟩ := hl k (by simp)
          simp only [List.flatMap_cons, h1, h2, if_false, ih (fun j hj => hl j (by simp [hj]))]
      exact this _ fun j hj => ⟨(hbor j hj).1, (hbor j hj).2.1⟩
    have e2 : clearC (fun j => if j = i then ρ else if j ∈ x.cons then [] else cont j) (i :: bl) = clearC cont (i :: (x.cons ++ bl)) := by
      funext j
      simp only [clearC, List.mem_cons, List.mem_append]
      by_cases h1 : j = i <;> by_cases h2 : j ∈ x.cons <;> by_cases h3 : j ∈ bl <;> simp [h1, h2, h3]
    rw [e1, e2] at hp
    refine hown.perm ?_
    have hp' := rs_perm hp
    simp only [rs_append] at hp' ⊢
    refine (List.Perm.trans ?_ (hp'.symm.append_right _))
    simp only [List.append_assoc]
    refine List.Perm.append_left _ (List.Perm.append_left _ ?_)
    rw [← List.append_assoc, ← List.append_assoc]
    exact List.perm_append_comm.append_right _
  · intro j oj hoj hon e he hb
    rw [hset] at hon
    rw [hset]
    by_cases hji : j = i
    · subst hji
      rw [ho] at hoj; simp at hoj; subst hoj
      have := hed e he hb
      split <;> simp [this]
    · simp only [hji, if_false] at hon
      have := h.cls j oj hoj hon e he hb
      split <;> simp [this]

def unl (L : Array Bool) (N : Nat) : Nat := (List.range N).countP fun j => !onL L j
theorem unl_lt {L : Array Bool} {N i : Nat} (hi : i < L.size) (hN : i < N) (h : onL L i = false) : unl (L.setIfInBounds i true) N + 1 ≤ unl L N := by
  have key : ∀ l : List Nat, l.Nodup → (i ∈ l → (l.countP fun j => !onL (L.setIfInBounds i true) j) + 1 ≤ l.countP fun j => !onL L j) ∧ (i ∉ l → (l.countP fun j => !onL (L.setIfInBounds i true) j) = l.countP fun j => !onL L j) := by
    intro l
    induction l with
    | nil => intro _; exact ⟨fun h => by simp at h, fun _ => rfl⟩
    | cons k l ih =>
      intro hn
      obtain ⟨h1, h2⟩ := ih (List.nodup_cons.1 hn).2
      refine ⟨fun hm => ?_, fun hm => ?_⟩
      · by_cases hk : k = i
        · subst hk
          have := h2 (List.nodup_cons.1 hn).1
          rw [List.countP_cons, List.countP_cons, this, show onL (L.setIfInBounds k true) k = true by rw [onL_set hi]; simp, h]; simp
        · have hm' : i ∈ l := by
            rcases List.mem_cons.1 hm with e | e
            · exact absurd e.symm hk
            · exact e
          have := h1 hm'
          rw [List.countP_cons, List.countP_cons, show onL (L.setIfInBounds i true) k = onL L k by rw [onL_set hi, if_neg hk]]
          omega
      · simp at hm
        have := h2 hm.2
        rw [List.countP_cons, List.countP_cons, this, show onL (L.setIfInBounds i true) k = onL L k by rw [onL_set hi, if_neg (fun e => hm.1 e.symm)]]
  exact (key (List.range N) List.nodup_range).1 (by simpa using hN)
theorem far_on {L : Array Bool} {i j : Nat} {o : Oper} (ho : ops[i]? = some o) (hed : ∀ e ∈ o.after, Region.binds .any e = true → onL L e.on = true) (hcls : ∀ (j : Nat) (o : Oper), ops[j]? = some o → onL L j = true → ∀ e ∈ o.after, Region.binds .any e = true → onL L e.on = true) (h : farB ops i o j = true) : onL L j = true := by
  unfold farB at h
  rw [Bool.or_eq_true, Bool.and_eq_true, Nat.blt_eq] at h
  rcases h with h | ⟨h1, h2⟩
  · exact on_edge hed h
  · obtain ⟨q, hq, e⟩ := List.any_eq_true.1 h2
    have hc := cloB_on (p := fun k => onL L k = true) (m := i) (fun q oq k hoq hq he => by
      rcases hq with rfl | hq
      · rw [ho] at hoq; simp at hoq; subst hoq; exact on_edge hed he
      · exact on_edge (hcls q oq hoq hq) he) i [i] (by simp) q hq
    rw [← Nat.eq_of_beq_eq_true e] at hc
    exact hc.resolve_left (by omega)
theorem any_A_done (sp : Shape ops D n) {a0 : Act} (hr0 : Rel n e a0) (fin : finV D fun ev r => WL P σ n ops.toArray Q (Q .normal) (ops.drop D.length) (ev ++ e) (r ++ sh) F)
    {fuel : Nat} {L : Array Bool} {a : Act} {w : World} {vs : Nat → Value} {ρs cont : Nat → RL} (hs : L.size = ops.length) (hT : ∀ j, D.length ≤ j → onL L j = false) (hall : ∀ j, j < D.length → onL L j = true)
    (hf : ops.length - D.length ≤ fuel) (hI : DInv σ n F ops D sh a0 L a w vs ρs cont) : wpAny P .any ops.toArray Q fuel L a w := by
  refine any_tail sp fuel D.length L a w hs (Nat.le_refl _) sp.le hf (fun j hj => ⟨fun h => ?_, hall j⟩) ?_
  · rcases Nat.lt_or_ge j D.length with h' | h'
    · exact h'
    · rw [hT j h'] at h; simp at h
  · have hD : ∀ (j : Nat) (x : DOp), D[j]? = some x → j < D.length := fun j x hx => (List.getElem?_eq_some_iff.1 hx).1
    have h1 := finV_use (vs := vs) (ρs := ρs) 0 (fun j x hx => by simpa using (hI.val j x hx (hall j (hD j x hx))).2) fin
    refine h1 a w ⟨hI.size, fun t v ht => ?_, hI.defers⟩ ?_
    · have hzip : ∀ (D' : List DOp) (b : Nat), (∀ (j : Nat) (x : DOp), D'[j]? = some x → a.tmps.getD x.d undef = vs (b + j)) → (∀ {v}, lk ((D'.zipIdx b).map fun p => (p.1.d, vs p.2)) t = some v → a.tmps.getD t undef = v) ∧ (lk ((D'.zipIdx b).map fun p => (p.1.d, vs p.2)) t = none → t ∉ D'.map (·.d)) := by
        intro D'
        induction D' with
        | nil => intro b _; exact ⟨fun h => by simp [lk] at h, fun _ => by simp⟩
        | cons y D' ih =>
          intro b hb
          obtain ⟨i1, i2⟩ := ih (b + 1) (fun j x hx => by have := hb (j + 1) x (by simpa using hx); rwa [show b + (j + 1) = b + 1 + j by omega] at this)
          simp only [List.zipIdx_cons, List.map_cons, lk]
          cases hbq : Nat.beq y.d t with
          | true =>
            refine ⟨fun h => ?_, fun h => by simp at h⟩
            simp at h
            have := hb 0 y rfl
            rw [← Nat.eq_of_beq_eq_true hbq, this]; simpa using h
          | false =>
            simp only [cond_false]
            refine ⟨i1, fun h => ?_⟩
            have hne : t ≠ y.d := fun e => by subst e; simp at hbq
            simp only [List.mem_cons, not_or]
            exact ⟨hne, i2 h⟩
      obtain ⟨z1, z2⟩ := hzip D 0 (fun j x hx => by simpa using (hI.val j x hx (hall j (hD j x hx))).1)
      rcases lk_append' ht with ht | ⟨h2, ht⟩
      · exact z1 ht
      · rw [hI.out t (fun j y hy hd => absurd (List.mem_map.2 ⟨y, List.mem_of_getElem? hy, hd⟩) (z2 h2))]; exact hr0.get t v ht
    · have h2 : Own σ (rs ((List.range' 0 D.length).flatMap cont) ++ (rs sh ++ F)) w := by
        rw [← List.range_eq_range']; exact hI.own
      refine (?_ : Own σ (rs ((D.zipIdx 0).flatMap fun p => if p.1.gone then [] else ρs p.2) ++ (rs sh ++ F)) w → _) (own_fin D 0 (rs sh ++ F) (fun j x hx hg => ?_) h2)
      · intro h3; simpa only [rs_append, List.append_assoc] using h3
      · simp only [Nat.zero_add]
        refine hI.old j x hx (hall j (hD j x hx)) fun i y hy _ hjy => ?_
        obtain ⟨oi, hoi⟩ : ∃ oi, ops[i]? = some oi := ⟨ops[i]'(by have := hD i y hy; have := sp.le; omega), List.getElem?_eq_getElem _⟩
        obtain ⟨z, hz, hg'⟩ := (sp.cons i oi y hoi hy j hjy).2
        rw [hx] at hz; simp at hz; subst hz
        rw [hg] at hg'; simp at hg'
theorem any_A (sp : Shape ops D n) (hst : stepsOK P σ n D e keep sh F ops D) (hk : keysOut keep (D.map (·.d)) = true) {a0 : Act} (hr0 : Rel n e a0) (hrk : Rel n keep a0)
    (fin : finV D fun ev r => WL P σ n ops.toArray Q (Q .normal) (ops.drop D.length) (ev ++ e) (r ++ sh) F) :
    ∀ (fuel : Nat) (L : Array Bool) (a : Act) (w : World) (vs : Nat → Value) (ρs cont : Nat → RL), L.size = ops.length → (∀ j, D.length ≤ j → onL L j = false) → unl L ops.length ≤ fuel → DInv σ n F ops D sh a0 L a w vs ρs cont → wpAny P .any ops.toArray Q fuel L a w := by
  intro fuel
  induction fuel with
  | zero =>
    intro L a w vs ρs cont hs hT hf hI
    have hall : ∀ j, j < ops.length → onL L j = true := by
      intro j hj
      have h0 : unl L ops.length = 0 := by omega
      unfold unl at h0
      rw [List.countP_eq_zero] at h0
      have := h0 j (by simpa using hj)
      simpa using this
    have hm : ops.length ≤ D.length := by
      rcases Nat.lt_or_ge D.length ops.length with h | h
      · have := hT D.length (Nat.le_refl _)
        rw [hall _ h] at this; simp at this
      · exact h
    exact any_A_done sp hr0 fin hs hT (fun j hj => hall j (by have := sp.le; omega)) (by omega) hI
  | succ fuel ih =>
    intro L a w vs ρs cont hs hT hf hI
    by_cases hall : ∀ j, j < D.length → onL L j = true
    · refine any_A_done sp hr0 fin hs hT hall ?_ hI
      have : unl L ops.length = ops.length - D.length := by
        unfold unl
        have key : ∀ N, D.length ≤ N → (List.range N).countP (fun j => !onL L j) = N - D.length := by
          intro N
          induction N with
          | zero => intro h; simp
          | succ N ihN =>
            intro hN
            rw [List.range_succ, List.countP_append, List.countP_singleton]
            by_cases hN' : D.length ≤ N
            · rw [ihN hN', hT N hN']; simp; omega
            · have : N + 1 = D.length := by omega
              have hz : (List.range N).countP (fun j => !onL L j) = 0 := by
                rw [List.countP_eq_zero]; intro j hj; simp at hj; simp [hall j (by omega)]
              rw [hz, hall N (by omega)]; simp; omega
        exact key _ sp.le
      omega
    · refine ⟨fun hr => ?_, fun i hi => ?_⟩
      · exfalso
        exact hall fun j hj => ready_some sp hs hr j (by have := sp.le; omega)
      · obtain ⟨o, ho, hun, hed⟩ := (ready_iff hs).1 hi
        have hlt := (List.getElem?_eq_some_iff.1 ho).1
        have him : i < D.length := by
          rcases Nat.lt_or_ge i D.length with h | h
          · exact h
          · rcases Nat.lt_or_ge D.length i with h' | h'
            · have hc := on_edge hed (sp.chain i o ho h')
              have := hT (i - 1) (by omega)
              rw [hc] at this; simp at this
            · refine absurd (fun j hj => ?_) hall
              have hc := cloB_on (p := fun k => onL L k = true) (m := i) (fun q oq k hoq hq he => by
                rcases hq with rfl | hq
                · rw [ho] at hoq; simp at hoq; subst hoq; exact on_edge hed he
                · exact on_edge (hI.cls q oq hoq hq) he) i [i] (by simp) j (sp.tail i o ho (by omega) j hj)
              exact hc.resolve_left (by omega)
        obtain ⟨x, hx⟩ : ∃ x, D[i]? = some x := ⟨D[i], List.getElem?_eq_getElem him⟩
        have hd := sp.dst i o x ho hx
        have hdeps : ∀ j ∈ x.deps, onL L j = true ∧ cont j = ρs j := fun j hj => by
          obtain ⟨h1, y, hy, hg⟩ := sp.deps i o x ho hx j hj
          have hon := far_on ho hed hI.cls h1
          refine ⟨hon, hI.old j y hy hon fun k z hz hkL hjz => ?_⟩
          obtain ⟨ok, hok⟩ : ∃ ok, ops[k]? = some ok := ⟨ops[k]'(by have := (List.getElem?_eq_some_iff.1 hz).1; have := sp.le; omega), List.getElem?_eq_getElem _⟩
          obtain ⟨y', hy', hg'⟩ := (sp.cons k ok z hok hz j hjz).2
          rw [hy] at hy'; simp at hy'; subst hy'
          rw [hg] at hg'; simp at hg'
        have hcons : ∀ j ∈ x.cons, onL L j = true ∧ cont j = ρs j := fun j hj => by
          obtain ⟨h1, y, hy, hg⟩ := sp.cons i o x ho hx j hj
          have hon := far_on ho hed hI.cls h1
          refine ⟨hon, hI.old j y hy hon fun k z hz hkL hjz => ?_⟩
          have := nodup_cons_unique sp.noc hx hz hj hjz
          subst this
          rw [hkL] at hun; simp at hun
        have hpk : ∀ j ∈ x.peek, onL L j = false ∧ cont j = exOf D j ∧ j < D.length := fun j hj => by
          obtain ⟨oj, y, hoj, hy, he⟩ := (sp.peek i o x ho hx).1 j hj
          have hoff : onL L j = false := by
            cases hc : onL L j with
            | false => rfl
            | true =>
              have := far_on hoj (hI.cls j oj hoj hc) hI.cls he
              rw [hun] at this; simp at this
          exact ⟨hoff, by rw [hI.new j y hy hoff]; simp [exOf, hy], (List.getElem?_eq_some_iff.1 hy).1⟩
        have hdlt : ∀ j ∈ x.deps, j < D.length := fun j hj => by
          obtain ⟨y, hy, _⟩ := (sp.deps i o x ho hx j hj).2; exact (List.getElem?_eq_some_iff.1 hy).1
        have hdc : ∀ j ∈ x.deps, j ∉ x.cons := fun j hj hc => by
          obtain ⟨y, hy, hg⟩ := (sp.deps i o x ho hx j hj).2
          obtain ⟨z, hz, hg'⟩ := (sp.cons i o x ho hx j hc).2
          rw [hy] at hz; simp at hz; subst hz
          rw [hg] at hg'; simp at hg'
        have hself : ∀ j ∈ x.peek, j ≠ i := fun j hj e => by
          subst e
          obtain ⟨oj, y, hoj, hy, he⟩ := (sp.peek j o x ho hx).1 j hj
          rw [ho] at hoj; simp at hoj; subst hoj
          have := far_on ho hed hI.cls he
          rw [hun] at this; simp at this
        have hbor : ∀ j ∈ x.deps ++ x.peek, j ≠ i ∧ j ∉ x.cons ∧ j < D.length := fun j hj => by
          rcases List.mem_append.1 hj with hj | hj
          · exact ⟨fun e => by subst e; rw [(hdeps j hj).1] at hun; simp at hun, hdc j hj, hdlt j hj⟩
          · exact ⟨hself j hj, fun hc => by have := (hcons j hc).1; rw [(hpk j hj).1] at this; simp at this, (hpk j hj).2.2⟩
        have hbn : (x.deps ++ x.peek).Nodup := List.nodup_append.2 ⟨sp.nodep i o x ho hx, (sp.peek i o x ho hx).2.1, fun p hp q hq e => by subst e; have := (hdeps p hp).1; rw [(hpk p hq).1] at this; simp at this⟩
        have hm : ∀ (f : Nat → RL) (l : List Nat), (∀ j ∈ l, cont j = f j) → l.flatMap cont = l.flatMap f := by
          intro f l
          induction l with
          | nil => intro _; rfl
          | cons k l ihl => intro hl; simp only [List.flatMap_cons, hl k (by simp), ihl (fun j hj => hl j (by simp [hj]))]
        have hbe : (x.deps ++ x.peek).flatMap cont = x.deps.flatMap ρs ++ x.peek.flatMap (exOf D) := by
          rw [List.flatMap_append, hm ρs _ (fun j hj => (hdeps j hj).2), hm (exOf D) _ (fun j hj => (hpk j hj).2.1)]
        have hnext : ∀ (v : Value) (ρ : RL) (w' : World), (n ≤ x.d → v = undef) → x.S v ρ → Own σ (rs ρ ++ (rs (x.deps.flatMap ρs ++ (x.peek.flatMap (exOf D) ++ sh)) ++ (rs (flatC (clearC cont (i :: (x.cons ++ (x.deps ++ x.peek)))) D.length) ++ F))) w' →
            wpAny P .any ops.toArray Q fuel (L.setIfInBounds i true) (a.put o.dst v) w' := by
          intro v ρ w' hnv hS hown
          have hput : a.put o.dst v = a.put (some x.d) v := by
            rcases hd with hd | hd
            · rw [hd.1]
            · rw [hd.1]
              have h1 : a.tmps.setIfInBounds x.d v = a.tmps := by
                apply Array.ext' ; simp only [Array.toList_setIfInBounds]; exact List.set_eq_of_length_le (by have := hI.size; simp; omega)
              simp only [Act.put, h1]
          rw [hput]
          refine ih _ _ _ _ _ _ (by simp [hs]) (fun j hj => ?_) ?_ (hI.step sp hs hx ho hun hS (fun j hj => (hcons j hj).1) (by rw [hbe, List.append_assoc]; exact hown) hbor hbn hed hnv)
          · rw [onL_set (by omega), if_neg (by omega)]; exact hT j hj
          · have := unl_lt (L := L) (N := ops.length) (by omega) hlt hun; omega
        have hperm : (rs (flatC cont D.length)).Perm (rs (x.cons.flatMap ρs ++ x.ex) ++ (rs (x.deps.flatMap ρs ++ x.peek.flatMap (exOf D)) ++ rs (flatC (clearC cont (i :: (x.cons ++ (x.deps ++ x.peek)))) D.length))) := by
          have hnd : (i :: (x.cons ++ (x.deps ++ x.peek))).Nodup := by
            refine List.nodup_cons.2 ⟨fun e => ?_, List.nodup_append.2 ⟨nodup_cons_each sp.noc hx, hbn, fun p hp q hq e => (hbor q hq).2.1 (e ▸ hp)⟩⟩
            rcases List.mem_append.1 e with e | e
            · rw [(hcons i e).1] at hun; simp at hun
            · exact (hbor i e).1 rfl
          have hltm : ∀ j ∈ i :: (x.cons ++ (x.deps ++ x.peek)), j < D.length := by
            intro j hj
            rcases List.mem_cons.1 hj with rfl | hj
            · exact him
            · rcases List.mem_append.1 hj with hj | hj
              · obtain ⟨y, hy, _⟩ := (sp.cons i o x ho hx j hj).2; exact (List.getElem?_eq_some_iff.1 hy).1
              · exact (hbor j hj).2.2
          have hp := perm_outs D.length _ cont hnd hltm
          rw [List.flatMap_cons, List.flatMap_append, hbe, hm ρs _ (fun j hj => (hcons j hj).2), hI.new i x hx hun] at hp
          have := rs_perm hp
          simp only [rs_append, List.append_assoc] at this ⊢
          refine this.trans ?_
          rw [← List.append_assoc, ← List.append_assoc (rs (x.cons.flatMap ρs))]
          exact List.perm_append_comm.append_right _
        have hrun : (n ≤ x.d → ∀ v ρ, x.S v ρ → v = undef) → stepT P σ n D e keep sh F o x → o.wp P a w (wpAny P .any ops.toArray Q fuel (L.setIfInBounds i true)) Q := by
          intro hnv ht
          have h1 := allV_use (vs := vs) (ρs := ρs) (fun j hj => by obtain ⟨y, hy, _⟩ := (sp.deps i o x ho hx j hj).2; exact ⟨y, hy, (hI.val j y hy (hdeps j hj).1).2⟩) (ht (rs (flatC (clearC cont (i :: (x.cons ++ (x.deps ++ x.peek)))) D.length)))
          have h2 := allV_use (vs := vs) (ρs := ρs) (fun j hj => by obtain ⟨y, hy, _⟩ := (sp.cons i o x ho hx j hj).2; exact ⟨y, hy, (hI.val j y hy (hcons j hj).1).2⟩) h1
          refine h2 Q _ a w ?_ ?_ (fun v ρ w' hS ho' => hnext v ρ w' (fun h => hnv h v ρ hS) hS ho')
          · refine ⟨hI.size, fun t v ht => ?_, hI.defers⟩
            rcases lk_append ht with ht | ht
            · rcases lk_append ht with ht | ht
              · obtain ⟨j, y, hj, hy, rfl, rfl⟩ := lk_envV ht
                exact (hI.val j y hy (hdeps j hj).1).1
              · obtain ⟨j, y, hj, hy, rfl, rfl⟩ := lk_envV ht
                exact (hI.val j y hy (hcons j hj).1).1
            · rcases lk_append ht with ht | ht
              · have hko : ∀ (l : List Nat), lk (keepE e l) t = some v → t ∈ l ∧ lk e t = some v := by
                  intro l
                  induction l with
                  | nil => intro h; simp [keepE, lk] at h
                  | cons q l ihl =>
                    intro h
                    simp only [keepE] at h
                    cases hq : lk e q with
                    | none => rw [hq] at h; obtain ⟨h1, h2⟩ := ihl h; exact ⟨by simp [h1], h2⟩
                    | some u =>
                      rw [hq] at h
                      simp only [lk] at h
                      cases hb : Nat.beq q t with
                      | true => rw [hb] at h; simp at h; subst h; have := Nat.eq_of_beq_eq_true hb; subst this; exact ⟨by simp, hq⟩
                      | false => rw [hb] at h; simp at h; obtain ⟨h1, h2⟩ := ihl h; exact ⟨by simp [h1], h2⟩
                obtain ⟨h1, h2⟩ := hko _ ht
                rw [hI.out t (fun j y hy hd => by
                  obtain ⟨oj, hoj⟩ : ∃ oj, ops[j]? = some oj := ⟨ops[j]'(by have := (List.getElem?_eq_some_iff.1 hy).1; have := sp.le; omega), List.getElem?_eq_getElem _⟩
                  have he := (sp.peek i o x ho hx).2.2 t h1 j oj y hoj hy hd
                  cases hc : onL L j with
                  | false => rfl
                  | true =>
                    have := far_on hoj (hI.cls j oj hoj hc) hI.cls he
                    rw [hun] at this; simp at this)]
                exact hr0.get t v h2
              · have hout : t ∉ D.map (·.d) := by
                  intro hmem
                  unfold keysOut at hk
                  rw [List.all_eq_true] at hk
                  have : ∀ (l : Env), lk l t = some v → ∃ p ∈ l, p.1 = t := by
                    intro l
                    induction l with
                    | nil => intro h; simp [lk] at h
                    | cons p l ihl =>
                      intro h
                      obtain ⟨pi, pv⟩ := p
                      simp only [lk] at h
                      cases hb : Nat.beq pi t with
                      | true => exact ⟨(pi, pv), by simp, Nat.eq_of_beq_eq_true hb⟩
                      | false => rw [hb] at h; simp at h; obtain ⟨q, hq, e⟩ := ihl h; exact ⟨q, by simp [hq], e⟩
                  obtain ⟨p, hp, rfl⟩ := this keep ht
                  have h3 := hk p hp
                  simp only [Bool.not_eq_true', List.any_eq_false] at h3
                  exact h3 _ hmem (by simp)
                rw [hI.out t (fun j y hy hd => absurd (List.mem_map.2 ⟨y, List.mem_of_getElem? hy, hd⟩) hout)]
                exact hrk.get t v ht
          · refine hI.own.perm ?_
            refine (hperm.append_right _).trans ?_
            simp only [rs_append, List.append_assoc]
            refine List.Perm.append_left _ (List.Perm.append_left _ (List.Perm.append_left _ (List.Perm.append_left _ ?_)))
            exact List.perm_append_comm_assoc _ _ _
        have hyield : ∀ {j : Nat} {y : DOp} {b : Bool}, D[j]? = some y → edgeB o j = true → (∀ v ρ, y.S v ρ → v = .bool b) → yielded ops.toArray a.tmps j = some b := by
          intro j y b hy he hb
          have hon := on_edge hed he
          obtain ⟨oj, hoj⟩ : ∃ oj, ops[j]? = some oj := ⟨ops[j]'(by have := (List.getElem?_eq_some_iff.1 hy).1; have := sp.le; omega), List.getElem?_eq_getElem _⟩
          obtain ⟨hv, hS⟩ := hI.val j y hy hon
          have hvb := hb _ _ hS
          obtain ⟨hdj, hdn⟩ : oj.dst = some y.d ∧ y.d < n := by
            rcases sp.dst j oj y hoj hy with h1 | ⟨_, h1⟩
            · exact h1
            · rw [hvb, Array.getD_eq_getD_getElem?, Array.getElem?_eq_none (by have := hI.size; omega)] at hv
              cases hv
          unfold yielded
          simp only [List.getElem?_toArray, hoj, Option.bind_some, hdj]
          have hlt' : y.d < a.tmps.size := by rw [hI.size]; exact hdn
          rw [Array.getD_eq_getD_getElem?, Array.getElem?_eq_getElem hlt'] at hv
          simp at hv
          rw [Array.getElem?_eq_getElem hlt']
          simp [hv, hvb]
        have hoff : ∀ {j : Nat} {y : DOp} {b : Bool}, D[j]? = some y → edgeB o j = true → (∀ v ρ, y.S v ρ → offB b v = true) → (yielded ops.toArray a.tmps j == some b) = false := by
          intro j y b hy he hb
          have hon := on_edge hed he
          obtain ⟨oj, hoj⟩ : ∃ oj, ops[j]? = some oj := ⟨ops[j]'(by have := (List.getElem?_eq_some_iff.1 hy).1; have := sp.le; omega), List.getElem?_eq_getElem _⟩
          obtain ⟨hv, hS⟩ := hI.val j y hy hon
          have hvb := hb _ _ hS
          unfold yielded
          rcases sp.dst j oj y hoj hy with ⟨hdj, hdn⟩ | ⟨hdj, hdn⟩
          case inr => simp only [List.getElem?_toArray, hoj, Option.bind_some, hdj]; rfl
          simp only [List.getElem?_toArray, hoj, Option.bind_some, hdj]
          have hlt' : y.d < a.tmps.size := by rw [hI.size]; exact hdn
          rw [Array.getD_eq_getD_getElem?, Array.getElem?_eq_getElem hlt'] at hv
          simp at hv
          rw [Array.getElem?_eq_getElem hlt', hv]
          split
          · rename_i c heq
            simp only [Option.some.injEq] at heq
            rw [heq] at hvb
            simp only [offB] at hvb
            cases b <;> cases c <;> simp_all
          · rfl
        unfold wpOp
        simp only [List.getElem?_toArray, ho]
        cases stepsOK_get hst hx ho with
        | plain hg ht hu => rw [if_pos (by simp [Region.wanted, hg])]; exact .inl (hrun (fun h => hu.resolve_left (by simp only [Nat.blt_eq]; omega)) ht)
        | wanted hg hj he hb ht hu => rw [if_pos (by simp [Region.wanted, hg, hyield hj he hb])]; exact .inl (hrun (fun h => hu.resolve_left (by simp only [Nat.blt_eq]; omega)) ht)
        | @unwanted j b y hg hj he hb hS hex hco =>
          rw [if_neg (by rw [Region.wanted, hg]; simp only [hoff hj he hb]; simp)]
          refine hnext undef [] w (fun _ => rfl) hS ?_
          refine hI.own.perm ?_
          refine (hperm.append_right _).trans ?_
          rw [hex, hco]
          simp only [rs_append, List.append_assoc, List.flatMap_nil]
          refine List.Perm.append_left _ (List.Perm.append_left _ (List.Perm.append_left _ (List.Perm.append_left _ ?_)))
          exact List.perm_append_comm_assoc _ _ _
theorem flat_exs (D : List DOp) : ∀ cont : Nat → RL, (∀ (j : Nat) (x : DOp), D[j]? = some x → cont j = x.ex) → flatC cont D.length = exs D := by
  unfold flatC exs
  intro cont h
  rw [List.range_eq_range']
  have key : ∀ (D : List DOp) (b : Nat), (∀ (j : Nat) (x : DOp), D[j]? = some x → cont (b + j) = x.ex) → (List.range' b D.length).flatMap cont = D.flatMap (·.ex) := by
    intro D
    induction D with
    | nil => intro b _; rfl
    | cons x D ih =>
      intro b hb
      simp only [List.length_cons, List.range'_succ, List.flatMap_cons]
      rw [ih (b + 1) (fun j y hy => by have := hb (j + 1) y (by simpa using hy); rwa [show b + (j + 1) = b + 1 + j by omega] at this)]
      have := hb 0 x rfl
      simp only [Nat.add_zero] at this
      rw [this]
  exact key D 0 (fun j x hx => by simpa using h j x hx)
/-- THE RULE for a region that draws its order: D tells of the first operations, in the text's order; the others follow one by one. sh: what is only read there; 'exs D': what single operations take. -/
theorem w_draw {id : Nat} (D : List DOp) (L : List Nat) (keepL : List Nat) (DS : List DSh) (hm : P.follows .mixedOrders = true) (hDS : D.map shD = DS) (hsh : shapeB ops DS n = true) (ht : takeL R L = some (exs D, sh)) (hk : keysOut (keepE e keepL) (D.map (·.d)) = true)
    (hst : stepsOK P σ n D e (keepE e keepL) sh F ops D)
    (fin : finV D fun ev r => WL P σ n ops.toArray Q (Q .normal) (ops.drop D.length) (ev ++ e) (r ++ sh) F) : W P σ n (.region id ops.toArray true) Q e R F := by
  intro a w hr ho
  have sp := shape_of (hDS ▸ hsh)
  refine wp_region_any hm ?_
  have hrk := hr.sub (Sube.keep e keepL)
  refine any_A sp hst hk hr hrk fin _ _ a _ (fun _ => undef) (fun _ => []) (fun j => match D[j]? with | some x => x.ex | none => []) (by simp) (fun j _ => ?_) ?_ ?_
  · unfold onL; simp [Array.getD_eq_getD_getElem?, Array.getElem?_replicate]; split <;> simp
  · unfold unl; exact Nat.le_trans List.countP_le_length (by simp)
  · have hoff : ∀ j, onL (Array.replicate ops.toArray.size false) j = false := fun j => by unfold onL; simp [Array.getD_eq_getD_getElem?, Array.getElem?_replicate]; split <;> simp
    refine ⟨hr.size, hr.defers, fun _ _ => rfl, fun j x _ h => by rw [hoff] at h; simp at h, fun j x hx _ => by simp [hx], fun j x _ h => by rw [hoff] at h; simp at h, ?_, fun j o _ h => by rw [hoff] at h; simp at h⟩
    rw [flat_exs D _ (fun j x hx => by simp [hx])]
    have := ho.take ht
    exact this.drawn _
end main
end Go.SL
