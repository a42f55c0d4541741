/- Cycles of last constraints, without a program. Conditions: none. -/
import Derived.Test.YtgdjnjbipemdcaaM1
import Derived.Test.YtgdjnjbipemdcaaK5
namespace Go.ConM
open Go Go.SL
open Go.Proofs.Ytgdjnjbipemdcaa (srt length_srt mem_srt srt_perm I64 minL asg)
set_option linter.unusedVariables false
set_option linter.unusedSimpArgs false
/-- The last constraint of a node, and the node that it comes from. -/
def byI (B : ZM) (n : Int) : Nat := ((lookK KZ B n).getD 0).toNat
def nx (l : List Con) (B : ZM) (n : Int) : Int := (l.getD (byI B n) ⟨0, 0, 0⟩).f
def nxN (l : List Con) (B : ZM) : Nat → Int → Int
  | 0, n => n
  | k + 1, n => nx l B (nxN l B k n)
theorem nxN_add (l : List Con) (B : ZM) (i : Nat) (n : Int) : ∀ k, nxN l B (i + k) n = nxN l B k (nxN l B i n)
  | 0 => rfl
  | k + 1 => by rw [← Nat.add_assoc]; show nx l B _ = nx l B _; rw [nxN_add l B i n k]
/-- Each value of a map is the index of a constraint. -/
def Idx (n : Nat) (B : ZM) : Prop := ∀ p ∈ B, 0 ≤ p.2 ∧ p.2 < n
theorem idx_set {n : Nat} {B : ZM} {k v : Int} (h : Idx n B) (hv : 0 ≤ v ∧ v < n) : Idx n (setK KZ B k v) := by
  induction B with
  | nil => intro p hp; simp [setK] at hp; subst hp; exact hv
  | cons q B ih =>
    intro p hp
    unfold setK at hp
    cases hq : KZ.eq k q.1 with
    | true =>
      rw [hq] at hp
      rcases List.mem_cons.1 hp with rfl | hp
      · exact hv
      · exact h p (List.mem_cons_of_mem _ hp)
    | false =>
      rw [hq] at hp
      rcases List.mem_cons.1 hp with rfl | hp
      · exact h _ (List.mem_cons_self)
      · exact ih (fun p hp => h p (List.mem_cons_of_mem _ hp)) p hp
theorem idx_relaxTo {use : Nat → Bool} {l : List Con} {s : St} (h : Idx l.length s.B) : ∀ k : Nat, Idx l.length (relaxTo use l s k).1.B
  | 0 => h
  | k + 1 => by
    have ih := idx_relaxTo h k (use := use)
    cases hc : l[k]? with
    | none => unfold relaxTo; rw [hc]; exact ih
    | some c =>
      have hlt := (List.getElem?_eq_some_iff.1 hc).1
      rw [relaxTo_succ hc]
      unfold step1
      split
      · exact ih
      · split
        · split
          · exact idx_set ih (by omega)
          · split
            · exact idx_set ih (by omega)
            · exact ih
        · exact ih
theorem idx_rounds {use : Nat → Bool} {l : List Con} : ∀ (k : Nat) {s : St}, Idx l.length s.B → Idx l.length (rounds use l k s).1.B
  | 0, s, h => idx_relaxTo h _
  | k + 1, s, h => by
    rw [rounds_succ]; split
    · exact idx_relaxTo h _
    · exact idx_rounds k (idx_relaxTo h _)
theorem idx_search {use : Nat → Bool} {l : List Con} {fr : List Int} : Idx l.length (search use l fr).1.B := idx_rounds _ (by intro p hp; simp at hp)
theorem byI_lt {n : Nat} {B : ZM} (h : Idx n B) (hn : 0 < n) (x : Int) : byI B x < n ∧ ((lookK KZ B x).getD 0) = (byI B x : Int) := by
  unfold byI
  cases hk : lookK KZ B x with
  | none => simp; exact hn
  | some v => have := h _ (look_of hk); simp only at this; simp; omega
theorem nx_mem {l : List Con} {B : ZM} (h : Idx l.length B) (hn : 0 < l.length) (x : Int) : nx l B x ∈ nodes l := by
  have h1 := (byI_lt h hn x).1
  unfold nx
  rw [List.getD_eq_getElem?_getD, List.getElem?_eq_getElem h1]
  exact mem_nodes.2 ⟨_, List.getElem_mem h1, .inl rfl⟩
/-- A period. -/
structure Per (l : List Con) (B : ZM) (n : Int) (p : Nat) : Prop where
  pos : 1 ≤ p
  back : nxN l B p n = n
  least : ∀ t, 1 ≤ t → t < p → nxN l B t n ≠ n
theorem per_unique {l : List Con} {B : ZM} {n : Int} {p q : Nat} (h : Per l B n p) (k : Per l B n q) : p = q := by
  rcases Nat.lt_trichotomy p q with h1 | h1 | h1
  · exact absurd h.back (k.least p h.pos h1)
  · exact h1
  · exact absurd k.back (h.least q k.pos h1)
theorem cyc_exists {l : List Con} {B : ZM} (h : Idx l.length B) (hn : 0 < l.length) (x : Int) {K : Nat} (hK : (nodes l).length ≤ K) : ∃ p, 1 ≤ p ∧ nxN l B p (nxN l B K x) = nxN l B K x ∧ p ≤ (nodes l).length := by
  have hdup : ∃ i j : Nat, i < j ∧ j ≤ (nodes l).length ∧ nxN l B (i + 1) x = nxN l B (j + 1) x := Classical.byContradiction fun hno => by
    have hnod : ((List.range ((nodes l).length + 1)).map fun i => nxN l B (i + 1) x).Nodup := by
      rw [List.Nodup, List.pairwise_map]
      refine List.pairwise_lt_range.imp_of_mem fun {a b} _ hb hab => ?_
      have := List.mem_range.1 hb
      exact fun e => hno ⟨a, b, hab, by omega, e⟩
    have := nodup_le hnod (b := nodes l) fun y hy => by
      obtain ⟨i, _, rfl⟩ := List.mem_map.1 hy
      exact nx_mem h hn _
    simp at this; omega
  obtain ⟨i, j, hij, hj, he⟩ := hdup
  refine ⟨j - i, by omega, ?_, by omega⟩
  have e1 : nxN l B K x = nxN l B (K - (i + 1)) (nxN l B (i + 1) x) := by rw [← nxN_add, show i + 1 + (K - (i + 1)) = K by omega]
  have e2 : nxN l B (j - i) (nxN l B K x) = nxN l B (K - (i + 1)) (nxN l B (j + 1) x) := by
    rw [← nxN_add, ← nxN_add, show K + (j - i) = j + 1 + (K - (i + 1)) by omega]
  rw [e2, ← he, ← e1]
theorem per_exists {l : List Con} {B : ZM} {n : Int} {N : Nat} (h : ∃ p, 1 ≤ p ∧ nxN l B p n = n ∧ p ≤ N) : ∃ p, Per l B n p ∧ p ≤ N := by
  obtain ⟨p, hp⟩ := h
  induction p using Nat.strongRecOn with
  | ind p ih =>
    by_cases hl : ∃ t, 1 ≤ t ∧ t < p ∧ nxN l B t n = n
    · obtain ⟨t, h1, h2, h3⟩ := hl; exact ih t h2 ⟨h1, h3, by omega⟩
    · exact ⟨p, ⟨hp.1, hp.2.1, fun t h1 h2 h3 => hl ⟨t, h1, h2, h3⟩⟩, hp.2.2⟩
/-- The cycle's constraints, turned so that the least index is first. -/
def turned (o : List Int) : List Int := match o.findIdx? (fun y => decide (y = minL o)) with
  | some k => o.drop k ++ o.take k
  | none => []
def cycO (l : List Con) (B : ZM) (n : Int) (p : Nat) : List Int := (List.range p).map fun t => (byI B (nxN l B t n) : Int)
/-- What Conflict returns where there is a conflict. -/
structure IsCyc (l : List Con) (s : St × Int) (out : List Int) : Prop where
  ex : ∃ p, Per l s.1.B (nxN l s.1.B (l.length + (nodes l).length) (l.getD s.2.toNat ⟨0, 0, 0⟩).t) p ∧ out = turned (cycO l s.1.B (nxN l s.1.B (l.length + (nodes l).length) (l.getD s.2.toNat ⟨0, 0, 0⟩).t) p).reverse
open Classical in
noncomputable def cnfL (l : List Con) : List Int := if h : (search (fun _ => true) l (nodes l)).2 < 0 then [] else if h2 : ∃ out, IsCyc l (search (fun _ => true) l (nodes l)) out then Classical.choose h2 else []
theorem isCyc_unique {l : List Con} {s : St × Int} {o o' : List Int} (h : IsCyc l s o) (h' : IsCyc l s o') : o = o' := by
  obtain ⟨p, h1, h2⟩ := h.ex
  obtain ⟨q, h3, h4⟩ := h'.ex
  rw [h2, h4, per_unique h1 h3]
theorem cnf_of {l : List Con} {o : List Int} (h : ¬ (search (fun _ => true) l (nodes l)).2 < 0) (ho : IsCyc l (search (fun _ => true) l (nodes l)) o) : cnfL l = o := by
  unfold cnfL
  rw [dif_neg h, dif_pos ⟨o, ho⟩]
  exact isCyc_unique (Classical.choose_spec (p := fun o => IsCyc l (search (fun _ => true) l (nodes l)) o) ⟨o, ho⟩) ho
theorem cnf_nil {l : List Con} (h : (search (fun _ => true) l (nodes l)).2 < 0) : cnfL l = [] := by unfold cnfL; rw [dif_pos h]
theorem min_mem : ∀ {l : List Int}, l ≠ [] → minL l ∈ l
  | [], h => absurd rfl h
  | x :: t, _ => by
    unfold minL
    simp only [List.tail_cons, List.headD_cons]
    have key : ∀ (t : List Int) (x : Int), t.foldl min x = x ∨ t.foldl min x ∈ t := by
      intro t
      induction t with
      | nil => intro x; exact .inl rfl
      | cons y t ih =>
        intro x
        rw [List.foldl_cons]
        rcases ih (min x y) with h | h
        · rw [h]
          by_cases h1 : x ≤ y
          · rw [Int.min_eq_left h1]; exact .inl rfl
          · rw [Int.min_eq_right (by omega)]; exact .inr (by simp)
        · exact .inr (by simp [h])
    rcases key t x with h | h
    · rw [h]; simp
    · exact List.mem_cons_of_mem _ h
end Go.ConM
