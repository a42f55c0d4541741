/- Regions that draw their order, where what an operation leaves speaks of what earlier ones have found (addresses, lengths): witnesses. Conditions: none. -/
import Derived.Test.YtecmigildpkigaaGreatSl3
namespace Go.SL
open Go.RowKit
set_option linter.unusedSimpArgs false
set_option linter.unusedVariables false
/-- What an operation may find. -/
structure Wt where
  b : Nat := 0
  a : Option Addr := none
  c : Nat := 0
  a' : Option Addr := none
  c' : Nat := 0
  l : List Int := []
  z : Int := 0
  v : Value := .bool false
  s : ByteArray := .empty
structure DOw where
  d : Nat
  deps : List Nat
  cons : List Nat
  ex : RL
  S : Wt → Value → RL → Prop
  gone : Bool := false
  peek : List Nat := []
  old : List Nat := []
def DOw.to (w : Wt) (x : DOw) : DOp := ⟨x.d, x.deps, x.cons, x.ex, x.S w, x.gone, x.peek, x.old⟩
def toDs (β : Nat → Wt) : Nat → List DOw → List DOp
  | _, [] => []
  | j, x :: xs => x.to (β j) :: toDs β (j + 1) xs
abbrev noW (s : Value → RL → Prop) : Wt → Value → RL → Prop := fun _ => s
abbrev AndW (p : Prop) (S : Value → RL → Prop) : Value → RL → Prop := fun u r => p ∧ S u r
abbrev DetW (v : Value) (ρ : RL) : Value → RL → Prop := fun u r => u = v ∧ r = ρ
def upd (β : Nat → Wt) (i : Nat) (w : Wt) : Nat → Wt := fun k => if k = i then w else β k
theorem toDs_get {β : Nat → Wt} : ∀ {l : List DOw} {b j : Nat} {x : DOp}, (toDs β b l)[j]? = some x → ∃ xw, l[j]? = some xw ∧ x = xw.to (β (b + j))
  | [], b, j, x, h => by simp [toDs] at h
  | y :: l, b, 0, x, h => by simp [toDs] at h; exact ⟨y, rfl, h.symm⟩
  | y :: l, b, j + 1, x, h => by
    simp only [toDs, List.getElem?_cons_succ] at h
    obtain ⟨xw, h1, h2⟩ := toDs_get h
    exact ⟨xw, by simpa using h1, by rw [h2, show b + 1 + j = b + (j + 1) by omega]⟩
def indL (β β' : Nat → Wt) : List (List Nat) → List DOw → List DOw → Prop
  | h :: hs, x :: xs, x' :: xs' => ((∀ k ∈ h, β k = β' k) → x.S = x'.S) ∧ indL β β' hs xs xs'
  | [], [], [] => True
  | _, _, _ => False
theorem indL_get {β β' : Nat → Wt} : ∀ {hs : List (List Nat)} {l l' : List DOw} {j : Nat} {x x' : DOw}, indL β β' hs l l' → l[j]? = some x → l'[j]? = some x' → (∀ k ∈ hs.getD j [], β k = β' k) → x.S = x'.S
  | h :: hs, y :: l, y' :: l', 0, x, x', hi, hx, hx', hh => by
    simp at hx hx'; subst hx; subst hx'
    exact hi.1 (by simpa using hh)
  | h :: hs, y :: l, y' :: l', j + 1, x, x', hi, hx, hx', hh => indL_get hi.2 (by simpa using hx) (by simpa using hx') (by simpa using hh)
  | [], [], [], j, x, x', _, hx, _, _ => by simp at hx
  | [], [], _ :: _, _, _, _, hi, _, _, _ => hi.elim
  | [], _ :: _, _, _, _, _, hi, _, _, _ => hi.elim
  | _ :: _, [], _, _, _, _, hi, _, _, _ => hi.elim
  | _ :: _, _ :: _, [], _, _, _, hi, _, _, _ => hi.elim
/-- What an operation's result speaks of comes from what it reads or takes. -/
def histB (HS : List (List Nat)) (D : List DSh) : Bool :=
  (rangeB 0 D.length).all fun j => match D[j]? with
    | none => true
    | some x => (HS.getD j []).all fun k => (x.deps ++ x.cons).any (Nat.beq k) || (x.deps ++ x.cons).any fun q => (HS.getD q []).any (Nat.beq k)
theorem histB_spec {HS : List (List Nat)} {D : List DSh} (h : histB HS D = true) {j : Nat} {x : DSh} (hx : D[j]? = some x) (k : Nat) (hk : k ∈ HS.getD j []) : k ∈ x.deps ++ x.cons ∨ ∃ q, q ∈ x.deps ++ x.cons ∧ k ∈ HS.getD q [] := by
  unfold histB at h
  rw [List.all_eq_true] at h
  have h1 := h j (mem_rangeB (Nat.zero_le _) (by have := (List.getElem?_eq_some_iff.1 hx).1; omega))
  rw [hx] at h1
  simp only [List.all_eq_true, Bool.or_eq_true] at h1
  rcases h1 k hk with h2 | h2
  · obtain ⟨q, hq, e⟩ := List.any_eq_true.1 h2
    left; rw [Nat.eq_of_beq_eq_true e]; exact hq
  · obtain ⟨q, hq, e⟩ := List.any_eq_true.1 h2
    obtain ⟨r, hr, e⟩ := List.any_eq_true.1 e
    right; exact ⟨q, hq, by rw [Nat.eq_of_beq_eq_true e]; exact hr⟩
section
variable (P : Program) (σ : World) (n : Nat)
def stepTW (D : List DOp) (e0 keep : Env) (sh : RL) (F : List Res) (o : Oper) (x : DOp) (T : Value → RL → Prop) : Prop :=
  ∀ X, allV D x.deps fun e r => allV D x.cons fun e2 c => OpT P σ n (rs (r ++ (x.peek.flatMap (exOf D) ++ sh)) ++ (X ++ F)) o (e ++ e2 ++ (keepE e0 x.old ++ keep)) (c ++ x.ex) T
inductive StepOKW (D : List DOp) (e0 keep : Env) (sh : RL) (F : List Res) (o : Oper) (x : DOp) (S : Wt → Value → RL → Prop) : Prop where
  | plain (T : Value → RL → Prop) (hT : ∀ v ρ, T v ρ → ∃ w, S w v ρ) (hg : o.guard = none) (h : stepTW P σ n D e0 keep sh F o x T) (hu : Nat.blt x.d n = true ∨ ∀ v ρ, T v ρ → v = undef) : StepOKW D e0 keep sh F o x S
  | wanted {j : Nat} {b : Bool} {y : DOp} (T : Value → RL → Prop) (hT : ∀ v ρ, T v ρ → ∃ w, S w v ρ) (hg : o.guard = some (j, b)) (hj : D[j]? = some y) (he : edgeB o j = true) (hb : ∀ v ρ, y.S v ρ → v = .bool b) (h : stepTW P σ n D e0 keep sh F o x T) (hu : Nat.blt x.d n = true ∨ ∀ v ρ, T v ρ → v = undef) : StepOKW D e0 keep sh F o x S
  | unwanted {j : Nat} {b : Bool} {y : DOp} (hg : o.guard = some (j, b)) (hj : D[j]? = some y) (he : edgeB o j = true) (hb : ∀ v ρ, y.S v ρ → offB b v = true) (hS : ∃ w, S w undef []) (hex : x.ex = []) (hco : x.cons = []) : StepOKW D e0 keep sh F o x S
variable {P : Program} {σ : World} {n : Nat} {D : List DOp} {e0 keep : Env} {sh : RL} {F : List Res} {o : Oper} {x : DOp} {S : Wt → Value → RL → Prop} {s : Value → RL → Prop}
theorem StepOKW.p (hg : o.guard = none) (h : stepTW P σ n D e0 keep sh F o x s) (hu : Nat.blt x.d n = true ∨ ∀ v ρ, s v ρ → v = undef := by exact Or.inl rfl) : StepOKW P σ n D e0 keep sh F o x (noW s) := .plain s (fun _ _ h => ⟨{}, h⟩) hg h hu
theorem StepOKW.w {j : Nat} {b : Bool} {y : DOp} (hg : o.guard = some (j, b)) (hj : D[j]? = some y) (he : edgeB o j = true) (hb : ∀ v ρ, y.S v ρ → v = .bool b) (h : stepTW P σ n D e0 keep sh F o x s) (hu : Nat.blt x.d n = true ∨ ∀ v ρ, s v ρ → v = undef := by exact Or.inl rfl) : StepOKW P σ n D e0 keep sh F o x (noW s) := .wanted s (fun _ _ h => ⟨{}, h⟩) hg hj he hb h hu
theorem StepOKW.u {j : Nat} {b : Bool} {y : DOp} (hg : o.guard = some (j, b)) (hj : D[j]? = some y) (he : edgeB o j = true) (hb : ∀ v ρ, y.S v ρ → offB b v = true) (hS : s undef []) (hex : x.ex = []) (hco : x.cons = []) : StepOKW P σ n D e0 keep sh F o x (noW s) := .unwanted hg hj he hb ⟨{}, hS⟩ hex hco
/-- .. with a witness. -/
theorem StepOKW.px (hg : o.guard = none) (h : stepTW P σ n D e0 keep sh F o x fun v ρ => ∃ w, S w v ρ) (hu : Nat.blt x.d n = true := by exact rfl) : StepOKW P σ n D e0 keep sh F o x S := .plain _ (fun _ _ h => h) hg h (.inl hu)
theorem StepOKW.wx {j : Nat} {b : Bool} {y : DOp} (hg : o.guard = some (j, b)) (hj : D[j]? = some y) (he : edgeB o j = true) (hb : ∀ v ρ, y.S v ρ → v = .bool b) (h : stepTW P σ n D e0 keep sh F o x fun v ρ => ∃ w, S w v ρ) (hu : Nat.blt x.d n = true := by exact rfl) : StepOKW P σ n D e0 keep sh F o x S := .wanted _ (fun _ _ h => h) hg hj he hb h (.inl hu)
theorem OpT.mono {R : RL} {S S' : Value → RL → Prop} {e : Env} (h : OpT P σ n F o e R S) (hi : ∀ v ρ, S v ρ → S' v ρ) : OpT P σ n F o e R S' := fun Q K a w hr ho k => h Q K a w hr ho fun v ρ w' hS hw => k v ρ w' (hi v ρ hS) hw
variable (P σ n)
def stepsOKW (D : List DOp) (β : Nat → Wt) (e0 keep : Env) (sh : RL) (F : List Res) : Nat → List Oper → List DOw → Prop
  | _, _, [] => True
  | j, o :: os, x :: xs => StepOKW P σ n D e0 keep sh F o (x.to (β j)) x.S ∧ stepsOKW D β e0 keep sh F (j + 1) os xs
  | _, [], _ :: _ => False
variable {P σ n}
theorem stepsOKW_get {β : Nat → Wt} : ∀ {b : Nat} {os : List Oper} {xs : List DOw} {i : Nat} {xw : DOw} {o : Oper}, stepsOKW P σ n D β e0 keep sh F b os xs → xs[i]? = some xw → os[i]? = some o → StepOKW P σ n D e0 keep sh F o (xw.to (β (b + i))) xw.S
  | _, _, [], i, xw, o, _, h, _ => by simp at h
  | b, o' :: os, y :: xs, 0, xw, o, h, hx, ho => by simp at hx ho; subst hx; subst ho; exact h.1
  | b, o' :: os, y :: xs, i + 1, xw, o, h, hx, ho => by
    have := stepsOKW_get h.2 (by simpa using hx) (by simpa using ho)
    rwa [show b + 1 + i = b + (i + 1) by omega] at this
  | _, [], _ :: _, _, _, _, h, _, _ => h.elim
end
section main
variable {P : Program} {σ : World} {n : Nat} {ops : List Oper} {keep e : Env} {sh R B : RL} {F : List Res} {Q : Exit → Act → World → Prop}
theorem DInv.cong {D D' : List DOp} {a0 a : Act} {L : Array Bool} {w : World} {vs : Nat → Value} {ρs cont : Nat → RL} (hsh : D.map shD = D'.map shD) (hex : D.map (·.ex) = D'.map (·.ex)) (hS : ∀ (j : Nat) (x x' : DOp), D[j]? = some x → D'[j]? = some x' → onL L j = true → x.S = x'.S)
    (h : DInv σ n F ops D sh a0 L a w vs ρs cont) : DInv σ n F ops D' sh a0 L a w vs ρs cont := by
  have hl : D.length = D'.length := by have := congrArg List.length hsh; simpa using this
  have back : ∀ (j : Nat) (x' : DOp), D'[j]? = some x' → ∃ x, D[j]? = some x ∧ shD x = shD x' ∧ x.ex = x'.ex := fun j x' hx' => by
    have hj := (List.getElem?_eq_some_iff.1 hx').1
    have h0 : D[j]? = some (D[j]'(by omega)) := List.getElem?_eq_getElem _
    refine ⟨_, h0, ?_, ?_⟩
    · have h1 : (D.map shD)[j]? = some (shD (D[j]'(by omega))) := by rw [List.getElem?_map, h0]; rfl
      rw [hsh, List.getElem?_map, hx'] at h1
      exact (Option.some.inj h1).symm
    · have h1 : (D.map (·.ex))[j]? = some (D[j]'(by omega)).ex := by rw [List.getElem?_map, h0]; rfl
      rw [hex, List.getElem?_map, hx'] at h1
      exact (Option.some.inj h1).symm
  have forth : ∀ (j : Nat) (x : DOp), D[j]? = some x → ∃ x', D'[j]? = some x' ∧ shD x = shD x' := fun j x hx => by
    have hj := (List.getElem?_eq_some_iff.1 hx).1
    have h0 : D'[j]? = some (D'[j]'(by omega)) := List.getElem?_eq_getElem _
    obtain ⟨y, hy, h1, _⟩ := back j _ h0
    rw [hx] at hy; cases hy
    exact ⟨_, h0, h1⟩
  refine ⟨h.size, h.defers, fun t ht => h.out t fun j x hx hd => ?_, fun j x' hx' hon => ?_, fun j x' hx' hoff => ?_, fun j x' hx' hon hno => ?_, by rw [← hl]; exact h.own, h.cls⟩
  · obtain ⟨x', hx', hs⟩ := forth j x hx
    exact ht j x' hx' (by rw [← hd]; exact (congrArg DSh.d hs).symm)
  · obtain ⟨x, hx, hs, _⟩ := back j x' hx'
    have := h.val j x hx hon
    rw [← hS j x x' hx hx' hon, show x'.d = x.d from (congrArg DSh.d hs).symm]
    exact this
  · obtain ⟨x, hx, _, he⟩ := back j x' hx'
    rw [h.new j x hx hoff, he]
  · obtain ⟨x, hx, hs, _⟩ := back j x' hx'
    refine h.old j x hx hon fun i y hy hi hj => ?_
    obtain ⟨y', hy', hs'⟩ := forth i y hy
    exact hno i y' hy' hi (by rw [← show y.cons = y'.cons from congrArg DSh.cons hs']; exact hj)
theorem any_AW {Dw : (Nat → Wt) → List DOw} {HS : List (List Nat)} {DS : List DSh} {EX : List RL} (hDS : ∀ β, (toDs β 0 (Dw β)).map shD = DS) (hEX : ∀ β, (toDs β 0 (Dw β)).map (·.ex) = EX) (spW : ∀ β, Shape ops (toDs β 0 (Dw β)) n) (hhist : histB HS DS = true)
    (hind : ∀ β β', indL β β' HS (Dw β) (Dw β')) (hstW : ∀ β, stepsOKW P σ n (toDs β 0 (Dw β)) β e keep sh F 0 ops (Dw β)) (hkW : keysOut keep (DS.map (·.d)) = true) {a0 : Act} (hr0 : Rel n e a0) (hrk : Rel n keep a0)
    (finW : ∀ β, finV (toDs β 0 (Dw β)) fun ev r => WL P σ n ops.toArray Q (Q .normal) (ops.drop DS.length) (ev ++ e) (r ++ sh) F) :
    ∀ (fuel : Nat) (β : Nat → Wt) (L : Array Bool) (a : Act) (w : World) (vs : Nat → Value) (ρs cont : Nat → RL), L.size = ops.length → (∀ j, DS.length ≤ j → onL L j = false) → (∀ j, onL L j = true → ∀ k ∈ HS.getD j [], onL L k = true) → unl L ops.length ≤ fuel → DInv σ n F ops (toDs β 0 (Dw β)) sh a0 L a w vs ρs cont → wpAny P .any ops.toArray Q fuel L a w := by
  intro fuel
  induction fuel with
  | zero =>
    intro β L a w vs ρs cont hs hT hH hf hI
    have hmap := hDS β
    have sp := spW β
    have fin := finW β
    have hst := hstW β
    have hgetW := fun (j : Nat) (x : DOp) (h : (toDs β 0 (Dw β))[j]? = some x) => toDs_get (β := β) (b := 0) h
    revert hI
    generalize hDD : toDs β 0 (Dw β) = D at hmap sp fin hst hgetW
    intro hI
    have hDl : D.length = DS.length := by rw [← hmap]; simp
    rw [← hDl] at hT fin
    have hk : keysOut keep (D.map (·.d)) = true := by
      have : DS.map (·.d) = D.map (·.d) := by rw [← hmap, List.map_map]; rfl
      rwa [this] at hkW
    have hall : ∀ j, j < ops.length → onL L j = true := by
      intro j hj
      have h0 : unl L ops.length = 0 := by omega
      unfold unl at h0
      rw [List.countP_eq_zero] at h0
      have := h0 j (by simpa using hj)
      simpa using this
    have hm : ops.length ≤ D.length := by
      rcases Nat.lt_or_ge D.length ops.length with h | h
      · have := hT D.length (Nat.le_refl _)
        rw [hall _ h] at this; simp at this
      · exact h
    exact any_A_done sp hr0 fin hs hT (fun j hj => hall j (by have := sp.le; omega)) (by omega) hI
  | succ fuel ih =>
    intro β L a w vs ρs cont hs hT hH hf hI
    have hmap := hDS β
    have sp := spW β
    have fin := finW β
    have hst := hstW β
    have hgetW := fun (j : Nat) (x : DOp) (h : (toDs β 0 (Dw β))[j]? = some x) => toDs_get (β := β) (b := 0) h
    revert hI
    generalize hDD : toDs β 0 (Dw β) = D at hmap sp fin hst hgetW
    intro hI
    have hDl : D.length = DS.length := by rw [← hmap]; simp
    rw [← hDl] at hT fin
    have hk : keysOut keep (D.map (·.d)) = true := by
      have : DS.map (·.d) = D.map (·.d) := by rw [← hmap, List.map_map]; rfl
      rwa [this] at hkW
    by_cases hall : ∀ j, j < D.length → onL L j = true
    · refine any_A_done sp hr0 fin hs hT hall ?_ hI
      have : unl L ops.length = ops.length - D.length := by
        unfold unl
        have key : ∀ N, D.length ≤ N → (List.range N).countP (fun j => !onL L j) = N - D.length := by
          intro N
          induction N with
          | zero => intro h; simp
          | succ N ihN =>
            intro hN
            rw [List.range_succ, List.countP_append, List.countP_singleton]
            by_cases hN' : D.length ≤ N
            · rw [ihN hN', hT N hN']; simp; omega
            · have : N + 1 = D.length := by omega
              have hz : (List.range N).countP (fun j => !onL L j) = 0 := by
                rw [List.countP_eq_zero]; intro j hj; simp at hj; simp [hall j (by omega)]
              rw [hz, hall N (by omega)]; simp; omega
        exact key _ sp.le
      omega
    · refine ⟨fun hr => ?_, fun i hi => ?_⟩
      · exfalso
        exact hall fun j hj => ready_some sp hs hr j (by have := sp.le; omega)
      · obtain ⟨o, ho, hun, hed⟩ := (ready_iff hs).1 hi
        have hlt := (List.getElem?_eq_some_iff.1 ho).1
        have him : i < D.length := by
          rcases Nat.lt_or_ge i D.length with h | h
          · exact h
          · rcases Nat.lt_or_ge D.length i with h' | h'
            · have hc := on_edge hed (sp.chain i o ho h')
              have := hT (i - 1) (by omega)
              rw [hc] at this; simp at this
            · refine absurd (fun j hj => ?_) hall
              have hc := cloB_on (p := fun k => onL L k = true) (m := i) (fun q oq k hoq hq he => by
                rcases hq with rfl | hq
                · rw [ho] at hoq; simp at hoq; subst hoq; exact on_edge hed he
                · exact on_edge (hI.cls q oq hoq hq) he) i [i] (by simp) j (sp.tail i o ho (by omega) j hj)
              exact hc.resolve_left (by omega)
        obtain ⟨x, hx⟩ : ∃ x, D[i]? = some x := ⟨D[i], List.getElem?_eq_getElem him⟩
        have hd := sp.dst i o x ho hx
        have hdeps : ∀ j ∈ x.deps, onL L j = true ∧ cont j = ρs j := fun j hj => by
          obtain ⟨h1, y, hy, hg⟩ := sp.deps i o x ho hx j hj
          have hon := far_on ho hed hI.cls h1
          refine ⟨hon, hI.old j y hy hon fun k z hz hkL hjz => ?_⟩
          obtain ⟨ok, hok⟩ : ∃ ok, ops[k]? = some ok := ⟨ops[k]'(by have := (List.getElem?_eq_some_iff.1 hz).1; have := sp.le; omega), List.getElem?_eq_getElem _⟩
          obtain ⟨y', hy', hg'⟩ := (sp.cons k ok z hok hz j hjz).2
          rw [hy] at hy'; simp at hy'; subst hy'
          rw [hg] at hg'; simp at hg'
        have hcons : ∀ j ∈ x.cons, onL L j = true ∧ cont j = ρs j := fun j hj => by
          obtain ⟨h1, y, hy, hg⟩ := sp.cons i o x ho hx j hj
          have hon := far_on ho hed hI.cls h1
          refine ⟨hon, hI.old j y hy hon fun k z hz hkL hjz => ?_⟩
          have := nodup_cons_unique sp.noc hx hz hj hjz
          subst this
          rw [hkL] at hun; simp at hun
        have hpk : ∀ j ∈ x.peek, onL L j = false ∧ cont j = exOf D j ∧ j < D.length := fun j hj => by
          obtain ⟨oj, y, hoj, hy, he⟩ := (sp.peek i o x ho hx).1 j hj
          have hoff : onL L j = false := by
            cases hc : onL L j with
            | false => rfl
            | true =>
              have := far_on hoj (hI.cls j oj hoj hc) hI.cls he
              rw [hun] at this; simp at this
          exact ⟨hoff, by rw [hI.new j y hy hoff]; simp [exOf, hy], (List.getElem?_eq_some_iff.1 hy).1⟩
        have hdlt : ∀ j ∈ x.deps, j < D.length := fun j hj => by
          obtain ⟨y, hy, _⟩ := (sp.deps i o x ho hx j hj).2; exact (List.getElem?_eq_some_iff.1 hy).1
        have hdc : ∀ j ∈ x.deps, j ∉ x.cons := fun j hj hc => by
          obtain ⟨y, hy, hg⟩ := (sp.deps i o x ho hx j hj).2
          obtain ⟨z, hz, hg'⟩ := (sp.cons i o x ho hx j hc).2
          rw [hy] at hz; simp at hz; subst hz
          rw [hg] at hg'; simp at hg'
        have hself : ∀ j ∈ x.peek, j ≠ i := fun j hj e => by
          subst e
          obtain ⟨oj, y, hoj, hy, he⟩ := (sp.peek j o x ho hx).1 j hj
          rw [ho] at hoj; simp at hoj; subst hoj
          have := far_on ho hed hI.cls he
          rw [hun] at this; simp at this
        have hbor : ∀ j ∈ x.deps ++ x.peek, j ≠ i ∧ j ∉ x.cons ∧ j < D.length := fun j hj => by
          rcases List.mem_append.1 hj with hj | hj
          · exact ⟨fun e => by subst e; rw [(hdeps j hj).1] at hun; simp at hun, hdc j hj, hdlt j hj⟩
          · exact ⟨hself j hj, fun hc => by have := (hcons j hc).1; rw [(hpk j hj).1] at this; simp at this, (hpk j hj).2.2⟩
        have hbn : (x.deps ++ x.peek).Nodup := List.nodup_append.2 ⟨sp.nodep i o x ho hx, (sp.peek i o x ho hx).2.1, fun p hp q hq e => by subst e; have := (hdeps p hp).1; rw [(hpk p hq).1] at this; simp at this⟩
        have hm : ∀ (f : Nat → RL) (l : List Nat), (∀ j ∈ l, cont j = f j) → l.flatMap cont = l.flatMap f := by
          intro f l
          induction l with
          | nil => intro _; rfl
          | cons k l ihl => intro hl; simp only [List.flatMap_cons, hl k (by simp), ihl (fun j hj => hl j (by simp [hj]))]
        have hbe : (x.deps ++ x.peek).flatMap cont = x.deps.flatMap ρs ++ x.peek.flatMap (exOf D) := by
          rw [List.flatMap_append, hm ρs _ (fun j hj => (hdeps j hj).2), hm (exOf D) _ (fun j hj => (hpk j hj).2.1)]
        obtain ⟨xw, hxw, hxx⟩ := hgetW i x hx
        have hnext : ∀ (v : Value) (ρ : RL) (w' : World), (n ≤ x.d → v = undef) → (∃ wt, xw.S wt v ρ) → Own σ (rs ρ ++ (rs (x.deps.flatMap ρs ++ (x.peek.flatMap (exOf D) ++ sh)) ++ (rs (flatC (clearC cont (i :: (x.cons ++ (x.deps ++ x.peek)))) D.length) ++ F))) w' →
            wpAny P .any ops.toArray Q fuel (L.setIfInBounds i true) (a.put o.dst v) w' := by
          intro v ρ w' hnv hS hown
          have hput : a.put o.dst v = a.put (some x.d) v := by
            rcases hd with hd | hd
            · rw [hd.1]
            · rw [hd.1]
              have h1 : a.tmps.setIfInBounds x.d v = a.tmps := by
                apply Array.ext' ; simp only [Array.toList_setIfInBounds]; exact List.set_eq_of_length_le (by have := hI.size; simp; omega)
              simp only [Act.put, h1]
          rw [hput]
          obtain ⟨wt, hS⟩ := hS
          have hHi : ∀ k ∈ HS.getD i [], onL L k = true := fun k hk => by
            have hsx : DS[i]? = some (shD x) := by rw [← hmap, List.getElem?_map, hx]; rfl
            rcases histB_spec hhist hsx k hk with h1 | ⟨q, h1, h2⟩
            · rcases List.mem_append.1 h1 with h1 | h1
              · exact (hdeps k h1).1
              · exact (hcons k h1).1
            · refine hH q ?_ k h2
              rcases List.mem_append.1 h1 with h1 | h1
              · exact (hdeps q h1).1
              · exact (hcons q h1).1
          have hupd : ∀ k, onL L k = true → β k = upd β i wt k := fun k hk => by
            unfold upd; rw [if_neg (fun e => by subst e; rw [hun] at hk; simp at hk)]
          have hmap' := hDS (upd β i wt)
          have hgetW' := fun (j : Nat) (x : DOp) (h : (toDs (upd β i wt) 0 (Dw (upd β i wt)))[j]? = some x) => toDs_get (β := upd β i wt) (b := 0) h
          have sp' := spW (upd β i wt)
          have hex' : D.map (·.ex) = (toDs (upd β i wt) 0 (Dw (upd β i wt))).map (·.ex) := by rw [← hDD, hEX, hEX]
          refine ih (upd β i wt) (L.setIfInBounds i true) (a.put (some x.d) v) w' (fun j => if j = i then v else vs j) (fun j => if j = i then ρ else ρs j) (fun j => if j = i then ρ else if j ∈ x.cons then [] else cont j) (by simp [hs]) (fun j hj => ?_) (fun j hj k hk => ?_) ?_ ?_
          · rw [onL_set (by omega), if_neg (by omega)]; exact hT j (by omega)
          · rw [onL_set (by omega)] at hj ⊢
            by_cases hji : j = i
            · subst hji; have := hHi k hk; split <;> simp [this]
            · rw [if_neg hji] at hj; have := hH j hj k hk; split <;> simp [this]
          · have := unl_lt (L := L) (N := ops.length) (by omega) hlt hun; omega
          · generalize toDs (upd β i wt) 0 (Dw (upd β i wt)) = D' at hmap' hgetW' sp' hex'
            have hI' : DInv σ n F ops D' sh a0 L a w vs ρs cont := hI.cong (hmap.trans hmap'.symm) hex' (fun j y y' hy hy' hon => by
              obtain ⟨yw, hyw, rfl⟩ := hgetW j y hy
              obtain ⟨yw', hyw', rfl⟩ := hgetW' j y' hy'
              simp only [Nat.zero_add, DOw.to]
              rw [indL_get (hind β (upd β i wt)) hyw hyw' (fun k hk => hupd k (hH j hon k hk)), hupd j hon])
            have hDl' : D'.length = D.length := by have := congrArg List.length (hmap.trans hmap'.symm); simpa using this.symm
            obtain ⟨x', hx'⟩ : ∃ x', D'[i]? = some x' := ⟨D'[i]'(by omega), List.getElem?_eq_getElem _⟩
            obtain ⟨xw', hxw', hxx'⟩ := hgetW' i x' hx'
            have hsx : shD x = shD x' := by
              have h1 : (D.map shD)[i]? = some (shD x) := by rw [List.getElem?_map, hx]; rfl
              have h2 : (D'.map shD)[i]? = some (shD x') := by rw [List.getElem?_map, hx']; rfl
              rw [hmap] at h1; rw [hmap', h1] at h2; exact Option.some.inj h2
            have hS' : x'.S v ρ := by
              rw [hxx']
              simp only [Nat.zero_add, DOw.to]
              rw [← indL_get (hind β (upd β i wt)) hxw hxw' (fun k hk => hupd k (hHi k hk)), show upd β i wt i = wt by simp [upd]]
              exact hS
            simp only [shD, DSh.mk.injEq] at hsx
            obtain ⟨e1, e2, e3, e4, e5, e6⟩ := hsx
            have := hI'.step (v := v) (ρ := ρ) (w' := w') sp' hs hx' ho hun hS' (fun j hj => (hcons j (by rw [e3]; exact hj)).1) (by rw [← e2, ← e3, ← e5, hbe, hDl', List.append_assoc]; exact hown) (by rw [← e2, ← e3, ← e5, hDl']; exact hbor) (by rw [← e2, ← e5]; exact hbn) hed (by rw [← e1]; exact hnv)
            rw [e1, e3]
            exact this
        have hperm : (rs (flatC cont D.length)).Perm (rs (x.cons.flatMap ρs ++ x.ex) ++ (rs (x.deps.flatMap ρs ++ x.peek.flatMap (exOf D)) ++ rs (flatC (clearC cont (i :: (x.cons ++ (x.deps ++ x.peek)))) D.length))) := by
          have hnd : (i :: (x.cons ++ (x.deps ++ x.peek))).Nodup := by
            refine List.nodup_cons.2 ⟨fun e => ?_, List.nodup_append.2 ⟨nodup_cons_each sp.noc hx, hbn, fun p hp q hq e => (hbor q hq).2.1 (e ▸ hp)⟩⟩
            rcases List.mem_append.1 e with e | e
            · rw [(hcons i e).1] at hun; simp at hun
            · exact (hbor i e).1 rfl
          have hltm : ∀ j ∈ i :: (x.cons ++ (x.deps ++ x.peek)), j < D.length := by
            intro j hj
            rcases List.mem_cons.1 hj with rfl | hj
            · exact him
            · rcases List.mem_append.1 hj with hj | hj
              · obtain ⟨y, hy, _⟩ := (sp.cons i o x ho hx j hj).2; exact (List.getElem?_eq_some_iff.1 hy).1
              · exact (hbor j hj).2.2
          have hp := perm_outs D.length _ cont hnd hltm
          rw [List.flatMap_cons, List.flatMap_append, hbe, hm ρs _ (fun j hj => (hcons j hj).2), hI.new i x hx hun] at hp
          have := rs_perm hp
          simp only [rs_append, List.append_assoc] at this ⊢
          refine this.trans ?_
          rw [← List.append_assoc, ← List.append_assoc (rs (x.cons.flatMap ρs))]
          exact List.perm_append_comm.append_right _
        have hrun : ∀ T : Value → RL → Prop, (∀ v ρ, T v ρ → ∃ wt, xw.S wt v ρ) → (n ≤ x.d → ∀ v ρ, T v ρ → v = undef) → stepTW P σ n D e keep sh F o x T → o.wp P a w (wpAny P .any ops.toArray Q fuel (L.setIfInBounds i true)) Q := by
          intro T hTS hnv ht
          have h1 := allV_use (vs := vs) (ρs := ρs) (fun j hj => by obtain ⟨y, hy, _⟩ := (sp.deps i o x ho hx j hj).2; exact ⟨y, hy, (hI.val j y hy (hdeps j hj).1).2⟩) (ht (rs (flatC (clearC cont (i :: (x.cons ++ (x.deps ++ x.peek)))) D.length)))
          have h2 := allV_use (vs := vs) (ρs := ρs) (fun j hj => by obtain ⟨y, hy, _⟩ := (sp.cons i o x ho hx j hj).2; exact ⟨y, hy, (hI.val j y hy (hcons j hj).1).2⟩) h1
          refine h2 Q _ a w ?_ ?_ (fun v ρ w' hS ho' => hnext v ρ w' (fun h => hnv h v ρ hS) (hTS v ρ hS) ho')
          · refine ⟨hI.size, fun t v ht => ?_, hI.defers⟩
            rcases lk_append ht with ht | ht
            · rcases lk_append ht with ht | ht
              · obtain ⟨j, y, hj, hy, rfl, rfl⟩ := lk_envV ht
                exact (hI.val j y hy (hdeps j hj).1).1
              · obtain ⟨j, y, hj, hy, rfl, rfl⟩ := lk_envV ht
                exact (hI.val j y hy (hcons j hj).1).1
            · rcases lk_append ht with ht | ht
              · have hko : ∀ (l : List Nat), lk (keepE e l) t = some v → t ∈ l ∧ lk e t = some v := by
                  intro l
                  induction l with
                  | nil => intro h; simp [keepE, lk] at h
                  | cons q l ihl =>
                    intro h
                    simp only [keepE] at h
                    cases hq : lk e q with
                    | none => rw [hq] at h; obtain ⟨h1, h2⟩ := ihl h; exact ⟨by simp [h1], h2⟩
                    | some u =>
                      rw [hq] at h
                      simp only [lk] at h
                      cases hb : Nat.beq q t with
                      | true => rw [hb] at h; simp at h; subst h; have := Nat.eq_of_beq_eq_true hb; subst this; exact ⟨by simp, hq⟩
                      | false => rw [hb] at h; simp at h; obtain ⟨h1, h2⟩ := ihl h; exact ⟨by simp [h1], h2⟩
                obtain ⟨h1, h2⟩ := hko _ ht
                rw [hI.out t (fun j y hy hd => by
                  obtain ⟨oj, hoj⟩ : ∃ oj, ops[j]? = some oj := ⟨ops[j]'(by have := (List.getElem?_eq_some_iff.1 hy).1; have := sp.le; omega), List.getElem?_eq_getElem _⟩
                  have he := (sp.peek i o x ho hx).2.2 t h1 j oj y hoj hy hd
                  cases hc : onL L j with
                  | false => rfl
                  | true =>
                    have := far_on hoj (hI.cls j oj hoj hc) hI.cls he
                    rw [hun] at this; simp at this)]
                exact hr0.get t v h2
              · have hout : t ∉ D.map (·.d) := by
                  intro hmem
                  unfold keysOut at hk
                  rw [List.all_eq_true] at hk
                  have : ∀ (l : Env), lk l t = some v → ∃ p ∈ l, p.1 = t := by
                    intro l
                    induction l with
                    | nil => intro h; simp [lk] at h
                    | cons p l ihl =>
                      intro h
                      obtain ⟨pi, pv⟩ := p
                      simp only [lk] at h
                      cases hb : Nat.beq pi t with
                      | true => exact ⟨(pi, pv), by simp, Nat.eq_of_beq_eq_true hb⟩
                      | false => rw [hb] at h; simp at h; obtain ⟨q, hq, e⟩ := ihl h; exact ⟨q, by simp [hq], e⟩
                  obtain ⟨p, hp, rfl⟩ := this keep ht
                  have h3 := hk p hp
                  simp only [Bool.not_eq_true', List.any_eq_false] at h3
                  exact h3 _ hmem (by simp)
                rw [hI.out t (fun j y hy hd => absurd (List.mem_map.2 ⟨y, List.mem_of_getElem? hy, hd⟩) hout)]
                exact hrk.get t v ht
          · refine hI.own.perm ?_
            refine (hperm.append_right _).trans ?_
            simp only [rs_append, List.append_assoc]
            refine List.Perm.append_left _ (List.Perm.append_left _ (List.Perm.append_left _ (List.Perm.append_left _ ?_)))
            exact List.perm_append_comm_assoc _ _ _
        have hyield : ∀ {j : Nat} {y : DOp} {b : Bool}, D[j]? = some y → edgeB o j = true → (∀ v ρ, y.S v ρ → v = .bool b) → yielded ops.toArray a.tmps j = some b := by
          intro j y b hy he hb
          have hon := on_edge hed he
          obtain ⟨oj, hoj⟩ : ∃ oj, ops[j]? = some oj := ⟨ops[j]'(by have := (List.getElem?_eq_some_iff.1 hy).1; have := sp.le; omega), List.getElem?_eq_getElem _⟩
          obtain ⟨hv, hS⟩ := hI.val j y hy hon
          have hvb := hb _ _ hS
          obtain ⟨hdj, hdn⟩ : oj.dst = some y.d ∧ y.d < n := by
            rcases sp.dst j oj y hoj hy with h1 | ⟨_, h1⟩
            · exact h1
            · rw [hvb, Array.getD_eq_getD_getElem?, Array.getElem?_eq_none (by have := hI.size; omega)] at hv
              cases hv
          unfold yielded
          simp only [List.getElem?_toArray, hoj, Option.bind_some, hdj]
          have hlt' : y.d < a.tmps.size := by rw [hI.size]; exact hdn
          rw [Array.getD_eq_getD_getElem?, Array.getElem?_eq_getElem hlt'] at hv
          simp at hv
          rw [Array.getElem?_eq_getElem hlt']
          simp [hv, hvb]
        have hoff : ∀ {j : Nat} {y : DOp} {b : Bool}, D[j]? = some y → edgeB o j = true → (∀ v ρ, y.S v ρ → offB b v = true) → (yielded ops.toArray a.tmps j == some b) = false := by
          intro j y b hy he hb
          have hon := on_edge hed he
          obtain ⟨oj, hoj⟩ : ∃ oj, ops[j]? = some oj := ⟨ops[j]'(by have := (List.getElem?_eq_some_iff.1 hy).1; have := sp.le; omega), List.getElem?_eq_getElem _⟩
          obtain ⟨hv, hS⟩ := hI.val j y hy hon
          have hvb := hb _ _ hS
          unfold yielded
          rcases sp.dst j oj y hoj hy with ⟨hdj, hdn⟩ | ⟨hdj, hdn⟩
          case inr => simp only [List.getElem?_toArray, hoj, Option.bind_some, hdj]; rfl
          simp only [List.getElem?_toArray, hoj, Option.bind_some, hdj]
          have hlt' : y.d < a.tmps.size := by rw [hI.size]; exact hdn
          rw [Array.getD_eq_getD_getElem?, Array.getElem?_eq_getElem hlt'] at hv
          simp at hv
          rw [Array.getElem?_eq_getElem hlt', hv]
          split
          · rename_i c heq
            simp only [Option.some.injEq] at heq
            rw [heq] at hvb
            simp only [offB] at hvb
            cases b <;> cases c <;> simp_all
          · rfl
        unfold wpOp
        simp only [List.getElem?_toArray, ho]
        have hst1 := stepsOKW_get hst hxw ho
        rw [Nat.zero_add] at hst1 hxx
        rw [← hxx] at hst1
        cases hst1 with
        | plain T hTS hg ht hu => rw [if_pos (by simp [Region.wanted, hg])]; exact .inl (hrun T hTS (fun h => hu.resolve_left (by simp only [Nat.blt_eq]; omega)) ht)
        | wanted T hTS hg hj he hb ht hu => rw [if_pos (by simp [Region.wanted, hg, hyield hj he hb])]; exact .inl (hrun T hTS (fun h => hu.resolve_left (by simp only [Nat.blt_eq]; omega)) ht)
        | @unwanted j b y hg hj he hb hS hex hco =>
          rw [if_neg (by rw [Region.wanted, hg]; simp only [hoff hj he hb]; simp)]
          refine hnext undef [] w (fun _ => rfl) hS ?_
          refine hI.own.perm ?_
          refine (hperm.append_right _).trans ?_
          rw [hex, hco]
          simp only [rs_append, List.append_assoc, List.flatMap_nil]
          refine List.Perm.append_left _ (List.Perm.append_left _ (List.Perm.append_left _ (List.Perm.append_left _ ?_)))
          exact List.perm_append_comm_assoc _ _ _

/-- THE RULE, with witnesses: D's propositions may speak of what earlier operations have found. -/
theorem w_drawW {id : Nat} (Dw : (Nat → Wt) → List DOw) (L : List Nat) (keepL : List Nat) (DS : List DSh) (HS : List (List Nat)) (EX : List RL) (hm : P.follows .mixedOrders = true) (hDS : ∀ β, (toDs β 0 (Dw β)).map shD = DS) (hEX : ∀ β, (toDs β 0 (Dw β)).map (·.ex) = EX) (hsh : shapeB ops DS n = true) (hh : histB HS DS = true) (ht : takeL R L = some (EX.flatten, sh)) (hk : keysOut (keepE e keepL) (DS.map (·.d)) = true)
    (hst : ∀ β, stepsOKW P σ n (toDs β 0 (Dw β)) β e (keepE e keepL) sh F 0 ops (Dw β)) (hind : ∀ β β', indL β β' HS (Dw β) (Dw β'))
    (fin : ∀ β, finV (toDs β 0 (Dw β)) fun ev r => WL P σ n ops.toArray Q (Q .normal) (ops.drop DS.length) (ev ++ e) (r ++ sh) F) : W P σ n (.region id ops.toArray true) Q e R F := by
  intro a w hr ho
  have sp := fun β => shape_of (D := toDs β 0 (Dw β)) ((hDS β).symm ▸ hsh)
  refine wp_region_any hm ?_
  have hrk := hr.sub (Sube.keep e keepL)
  refine any_AW hDS hEX sp hh hind hst hk hr hrk fin _ (fun _ => {}) _ a _ (fun _ => undef) (fun _ => []) (fun j => match (toDs (fun _ => ({} : Wt)) 0 (Dw fun _ => {}))[j]? with | some x => x.ex | none => []) (by simp) (fun j _ => ?_) (fun j hj => ?_) ?_ ?_
  · unfold onL; simp [Array.getD_eq_getD_getElem?, Array.getElem?_replicate]; split <;> simp
  · unfold onL at hj; simp [Array.getD_eq_getD_getElem?, Array.getElem?_replicate] at hj; split at hj <;> simp at hj
  · unfold unl; exact Nat.le_trans List.countP_le_length (by simp)
  · have hoff : ∀ j, onL (Array.replicate ops.toArray.size false) j = false := fun j => by unfold onL; simp [Array.getD_eq_getD_getElem?, Array.getElem?_replicate]; split <;> simp
    refine ⟨hr.size, hr.defers, fun _ _ => rfl, fun j x _ h => by rw [hoff] at h; simp at h, fun j x hx _ => by simp [hx], fun j x _ h => by rw [hoff] at h; simp at h, ?_, fun j o _ h => by rw [hoff] at h; simp at h⟩
    rw [flat_exs _ _ (fun j x hx => by simp [hx])]
    have e1 : exs (toDs (fun _ => ({} : Wt)) 0 (Dw fun _ => {})) = EX.flatten := by rw [← hEX fun _ => {}]; rfl
    rw [e1]
    have := ho.take ht
    exact this.drawn _
end main
end Go.SL
