/- The search as a function of nodes, without a program. Conditions: none. -/
import Derived.Test.YtgdjnjbipemdcaaM4
namespace Go.ConM
open Go Go.SL
set_option linter.unusedVariables false
set_option linter.unusedSimpArgs false
abbrev Lbl := Int → Option Int
def fnL (m : ZM) : Lbl := fun x => lookK KZ m x
def setF (f : Lbl) (k v : Int) : Lbl := fun x => if x = k then some v else f x
/-- Does a constraint change the labels? -/
def updC (c : Con) (f : Lbl) : Bool := match f c.f with
  | none => false
  | some a => match f c.t with
    | none => true
    | some b => decide (a + c.b < b)
def stepF (c : Con) (p : Lbl × Bool) : Lbl × Bool := if updC c p.1 = true then (setF p.1 c.t ((p.1 c.f).getD 0 + c.b), true) else p
def relF (l : List Con) (p : Lbl × Bool) : Lbl × Bool := l.foldl (fun p c => stepF c p) p
theorem relF_snoc (l : List Con) (c : Con) (p : Lbl × Bool) : relF (l ++ [c]) p = stepF c (relF l p) := by unfold relF; rw [List.foldl_append]; rfl
def StF (l : List Con) (f : Lbl) : Prop := ∀ c ∈ l, updC c f = false
theorem relF_true : ∀ (l : List Con) (f : Lbl), (relF l (f, true)).2 = true
  | [], f => rfl
  | c :: l, f => by
    show (relF l (stepF c (f, true))).2 = true
    unfold stepF
    split
    · exact relF_true l _
    · exact relF_true l f
theorem relF_iff : ∀ (l : List Con) (f : Lbl), (relF l (f, false)).2 = false ↔ StF l f
  | [], f => by simp [relF, StF]
  | c :: l, f => by
    show (relF l (stepF c (f, false))).2 = false ↔ _
    unfold stepF
    by_cases h : updC c f = true
    · rw [if_pos h, relF_true]
      simp only [Bool.true_eq_false, false_iff]
      intro hs; have := hs c (by simp); rw [h] at this; simp at this
    · rw [if_neg h, relF_iff l f]
      constructor
      · intro hs d hd
        rcases List.mem_cons.1 hd with rfl | hd
        · simpa using h
        · exact hs d hd
      · intro hs d hd; exact hs d (List.mem_cons_of_mem _ hd)
theorem relF_st : ∀ {l : List Con} {f : Lbl}, StF l f → relF l (f, false) = (f, false)
  | [], f, _ => rfl
  | c :: l, f, h => by
    show relF l (stepF c (f, false)) = _
    unfold stepF
    rw [if_neg (by rw [h c (by simp)]; simp)]
    exact relF_st fun d hd => h d (List.mem_cons_of_mem _ hd)
/-- The constraints in use. -/
def usedTo (use : Nat → Bool) (l : List Con) : Nat → List Con
  | 0 => []
  | k + 1 => match l[k]? with
    | some c => if use k = true then usedTo use l k ++ [c] else usedTo use l k
    | none => usedTo use l k
def used (use : Nat → Bool) (l : List Con) : List Con := usedTo use l l.length
theorem fnL_set (m : ZM) (k v : Int) : fnL (setK KZ m k v) = setF (fnL m) k v := funext fun x => lset m k v x
theorem relaxTo_F (use : Nat → Bool) (l : List Con) (s : St) : ∀ k, (fnL (relaxTo use l s k).1.L, decide (0 ≤ (relaxTo use l s k).2)) = relF (usedTo use l k) (fnL s.L, false)
  | 0 => rfl
  | k + 1 => by
    have ih := relaxTo_F use l s k
    cases hc : l[k]? with
    | none => unfold relaxTo usedTo; rw [hc]; exact ih
    | some c =>
      rw [relaxTo_succ hc]
      unfold usedTo; rw [hc]; dsimp only
      generalize relaxTo use l s k = q at ih ⊢
      rcases step_cases use k c q with ⟨he, hk⟩ | ⟨a, hu, ha, hlt, he⟩
      · rw [he]
        split
        · rename_i hu
          rw [relF_snoc, ← ih]
          unfold stepF
          have hup : ¬ updC c (fnL q.1.L) = true := by
            unfold updC fnL
            cases ha : lookK KZ q.1.L c.f with
            | none => simp
            | some a =>
              obtain ⟨y, h1, h2⟩ := hk hu a ha
              rw [h1]; simp; omega
          rw [if_neg hup]
        · exact ih
      · rw [he, if_pos hu, relF_snoc, ← ih]
        unfold stepF
        have hup : updC c (fnL q.1.L) = true := by
          unfold updC fnL
          rw [ha]
          cases hb : lookK KZ q.1.L c.t with
          | none => rfl
          | some b => simp; exact hlt b hb
        rw [if_pos hup]
        dsimp only
        rw [fnL_set]
        have : (fnL q.1.L c.f).getD 0 = a := by unfold fnL; rw [ha]; rfl
        rw [this]
        congr 1
theorem relax_F (use : Nat → Bool) (l : List Con) (s : St) : (fnL (relax use l s).1.L, decide (0 ≤ (relax use l s).2)) = relF (used use l) (fnL s.L, false) := relaxTo_F use l s _
theorem stab_F {use : Nat → Bool} {l : List Con} {s : St} : Stab use l s ↔ StF (used use l) (fnL s.L) := by
  rw [← relF_iff, ← relax_F, ← relax_iff]; simp
/-- The labels after some rounds. -/
def RF (l : List Con) (f : Lbl) : Nat → Lbl
  | 0 => f
  | k + 1 => (relF l (RF l f k, false)).1
theorem sq_F (use : Nat → Bool) (l : List Con) (s : St) : ∀ k, fnL (Sq use l s k).L = RF (used use l) (fnL s.L) k
  | 0 => rfl
  | k + 1 => by
    show fnL (relax use l (Sq use l s k)).1.L = (relF _ (RF _ _ k, false)).1
    rw [← sq_F use l s k, ← relax_F]
def zeroF (S : List Int) : Lbl := fun x => if x ∈ S then some 0 else none
theorem start_F (S : List Int) : fnL (startM S) = zeroF S := funext fun x => look_start S x
theorem zeroF_ext {S T : List Int} (h : ∀ x, x ∈ S ↔ x ∈ T) : zeroF S = zeroF T := funext fun x => by unfold zeroF; simp only [h]
theorem usedTo_all (l : List Con) : ∀ k, usedTo (fun _ => true) l k = l.take k
  | 0 => rfl
  | k + 1 => by
    unfold usedTo
    cases hc : l[k]? with
    | none => dsimp only; rw [usedTo_all l k]; have := List.getElem?_eq_none_iff.1 hc; rw [List.take_of_length_le this, List.take_of_length_le (by omega)]
    | some c => dsimp only; rw [if_pos rfl, usedTo_all l k, take_snoc hc]
theorem used_all (l : List Con) : used (fun _ => true) l = l := by unfold used; rw [usedTo_all, List.take_length]
theorem usedTo_C (l : List Con) (C : List Int) : ∀ k, usedTo (useC l C) l k = (l.take k).filter fun c => decide (c.f ∈ C)
  | 0 => rfl
  | k + 1 => by
    unfold usedTo
    cases hc : l[k]? with
    | none => dsimp only; rw [usedTo_C l C k]; have := List.getElem?_eq_none_iff.1 hc; rw [List.take_of_length_le this, List.take_of_length_le (by omega)]
    | some c =>
      dsimp only
      rw [take_snoc hc, List.filter_append, usedTo_C l C k]
      have hu : useC l C k = decide (c.f ∈ C) := by unfold useC; rw [hc]
      rw [hu]
      by_cases h : c.f ∈ C
      · rw [if_pos (decide_eq_true h), List.filter_cons_of_pos (by simpa using h), List.filter_nil]
      · rw [if_neg (by simpa using h), List.filter_cons_of_neg (by simpa using h), List.filter_nil, List.append_nil]
theorem used_C (l : List Con) (C : List Int) : used (useC l C) l = l.filter fun c => decide (c.f ∈ C) := by unfold used; rw [usedTo_C, List.take_length]
/-! ### Systems without filters -/
abbrev SqA (l : List Con) (fr : List Int) (k : Nat) : St := Sq (fun _ => true) l ⟨startM fr, []⟩ k
theorem sqA_F (l : List Con) (fr : List Int) (k : Nat) : fnL (SqA l fr k).L = RF l (zeroF fr) k := by rw [sq_F, used_all]; show RF l (fnL (startM fr)) k = _; rw [start_F]
theorem stabA_F {l : List Con} {s : St} : Stab (fun _ => true) l s ↔ StF l (fnL s.L) := by rw [stab_F, used_all]
theorem rf_stab {l : List Con} {f : Lbl} {k : Nat} (h : StF l (RF l f k)) : ∀ j, RF l f (k + j) = RF l f k
  | 0 => rfl
  | j + 1 => by show (relF l (RF l f (k + j), false)).1 = _; rw [rf_stab h j, relF_st h]
/-- From some round on, all rounds are alike. -/
theorem rf_same {l : List Con} {fr : List Int} {k k' : Nat} (hk : (nodes l).length ≤ k + 1) (hk' : (nodes l).length ≤ k' + 1) : StF l (RF l (zeroF fr) k) ↔ StF l (RF l (zeroF fr) k') := by
  have h1 : ∀ k, StF l (RF l (zeroF fr) k) ↔ Stab (fun _ => true) l (SqA l fr k) := fun k => by rw [stabA_F, sqA_F]
  rw [h1, h1]
  constructor
  · intro h; exact Classical.byContradiction fun hn => late_never hk' hn k h
  · intro h; exact Classical.byContradiction fun hn => late_never hk hn k' h
theorem rf_eq {l : List Con} {fr : List Int} {k k' : Nat} (hk : (nodes l).length ≤ k + 1) (hk' : (nodes l).length ≤ k' + 1) (h : StF l (RF l (zeroF fr) k)) : RF l (zeroF fr) k = RF l (zeroF fr) k' := by
  rcases Nat.le_total k k' with h1 | h1
  · have := rf_stab h (k' - k); rw [show k + (k' - k) = k' by omega] at this; exact this.symm
  · have := rf_stab ((rf_same hk hk').1 h) (k - k'); rw [show k' + (k - k') = k by omega] at this; exact this
/-- A system has a solution. -/
def Feas (l : List Con) : Prop := StF l (RF l (zeroF (nodes l)) (nodes l).length)
def potF (l : List Con) : Lbl := RF l (zeroF (nodes l)) (nodes l).length
theorem sol_feas (l : List Con) : solE l = 0 ↔ Feas l := by
  have h1 : (search (fun _ => true) l (nodes l)).2 < 0 ↔ Feas l := by
    rw [search_eq, relax_iff, stabA_F, sqA_F]
    exact rf_same (by omega) (by omega)
  unfold solE
  by_cases h : (search (fun _ => true) l (nodes l)).2 ≥ 0
  · rw [if_pos h]; exact ⟨fun e => by simp at e, fun hf => by have := h1.2 hf; omega⟩
  · rw [if_neg h]; exact ⟨fun _ => h1.1 (by omega), fun _ => rfl⟩
theorem sol_L {l : List Con} (h : Feas l) : fnL (search (fun _ => true) l (nodes l)).1.L = potF l := by
  rw [search_eq]
  show fnL (SqA l (nodes l) ((nodes l).length + (nodes l).length + 1)).L = _
  rw [sqA_F]
  exact (rf_eq (by omega) (by omega) h).symm
theorem relF_lab {l : List Con} {x : Int} : ∀ {p : Lbl × Bool}, (p.1 x).isSome = true → ((relF l p).1 x).isSome = true := by
  induction l with
  | nil => intro p h; exact h
  | cons c l ih =>
    intro p h
    show ((relF l (stepF c p)).1 x).isSome = true
    refine ih ?_
    unfold stepF
    split
    · show (setF _ _ _ x).isSome = true; unfold setF; split
      · rfl
      · exact h
    · exact h
theorem rf_lab {l : List Con} {f : Lbl} {x : Int} (h : (f x).isSome = true) : ∀ k, (RF l f k x).isSome = true
  | 0 => h
  | k + 1 => relF_lab (p := (RF l f k, false)) (rf_lab h k)
theorem potF_lab {l : List Con} {x : Int} (h : x ∈ nodes l) : (potF l x).isSome = true := rf_lab (by unfold zeroF; rw [if_pos h]; rfl) _
/-- Where there is a solution, each search ends. -/
theorem feas_stab {l : List Con} (h : Feas l) (fr : List Int) {k : Nat} (hk : (nodes l).length ≤ k + 1) : StF l (RF l (zeroF fr) k) := Classical.byContradiction fun hn => by
  have hs : ¬ Stab (fun _ => true) l (SqA l fr k) := by rw [stabA_F, sqA_F]; exact hn
  obtain ⟨m, j, n, hp, hneg, _⟩ := late hk hs
  obtain ⟨r, hI⟩ := inv_sq (fun _ => true) l fr (k + 1)
  have ht : Stab (fun _ => true) l (SqA l (nodes l) (nodes l).length) := by rw [stabA_F, sqA_F]; exact h
  have hm := potF_lab (pth_mem hp)
  obtain ⟨x, hx⟩ := Option.isSome_iff_exists.1 hm
  have hx2 : lookK KZ (SqA l (nodes l) (nodes l).length).L m = some x := by
    have := congrFun (sqA_F l (nodes l) (nodes l).length) m
    exact this.trans hx
  obtain ⟨y, h1, h2⟩ := pth_stab hI ht hp x hx2
  rw [hx2] at h1; simp at h1; omega
end Go.ConM
