/- The cycle that a conflict is, without a program: a way back along last constraints that never ends. Contracts: ref.Simple; the law Conflicts (layer 9). Contracts: Minimal, without; the law Minimal (layer 9). Contracts: Chain; the law Chains (layer 9). Bounds of labels by the bounds of constraints, without a program. Contracts: Extreme (layer 9). The law Extremes (layer 9). Conditions: none. -/
import Derived.Test.YtgdjnjbipemdcaaOp
namespace Go.ConM
open Go Go.SL
open Go.Proofs.Ytgdjnjbipemdcaa (srt length_srt mem_srt srt_perm I64 minL asg srch chainL stepL lenL getB step_good)
set_option linter.unusedVariables false
set_option linter.unusedSimpArgs false
/-- As inv_relaxTo, with the node that changed. -/
theorem inv_relaxTo2 {use : Nat → Bool} {l : List Con} {fr : List Int} {R : Nat} (hR : 1 ≤ R) {s : St} {r : Int → Nat} (h : Inv use l fr R 0 s r) : ∀ k : Nat, ∃ r', Inv use l fr R k (relaxTo use l s k).1 r' ∧
    (0 ≤ (relaxTo use l s k).2 → ∃ c y, l[(relaxTo use l s k).2.toNat]? = some c ∧ r' c.t = R ∧ lookK KZ (relaxTo use l s k).1.L c.t = some y)
  | 0 => ⟨r, h, fun h => by simp [relaxTo] at h⟩
  | k + 1 => by
    obtain ⟨r', h1, h2⟩ := inv_relaxTo2 hR h k
    cases hc : l[k]? with
    | none =>
      unfold relaxTo; rw [hc]
      refine ⟨r', ⟨h1.by_, h1.le, h1.no, fun i c0 x hc0 hu0 hx hr => h1.try_ i c0 x hc0 hu0 hx ?_, h1.cyc⟩, h2⟩
      have hi := (List.getElem?_eq_some_iff.1 hc0).1
      have hk := List.getElem?_eq_none_iff.1 hc
      rw [if_pos (by omega)] at hr ⊢; exact hr
    | some c =>
      rw [relaxTo_succ hc]
      rcases step_cases use k c (relaxTo use l s k) with ⟨he, hk⟩ | ⟨a, hu, ha, hlt, he⟩
      · rw [he]; exact ⟨r', inv_keep h1 hc hk, h2⟩
      · rw [he]
        exact ⟨_, inv_upd h1 hR hc hu ha hlt, fun _ => ⟨c, a + c.b, by simpa using hc, if_pos rfl, by show lookK KZ (setK KZ _ _ _) _ = _; rw [lset, if_pos rfl]⟩⟩
theorem back_all {l : List Con} {B : ZM} {v : Int} {J : Nat} (hmem : ∀ i, nxN l B i v ∈ nodes l) (h : ∀ i, i < J → (lookK KZ B (nxN l B i v)).isSome = true) (hJ : (nodes l).length ≤ J) : ∀ t, (lookK KZ B (nxN l B t v)).isSome = true := by
  obtain ⟨p, q, hpq, hq, he⟩ : ∃ p q : Nat, p < q ∧ q ≤ (nodes l).length ∧ nxN l B p v = nxN l B q v := Classical.byContradiction fun hno => by
    have hnod : ((List.range ((nodes l).length + 1)).map fun i => nxN l B i v).Nodup := by
      rw [List.Nodup, List.pairwise_map]
      refine List.pairwise_lt_range.imp_of_mem fun {a b} _ hb hab => ?_
      have := List.mem_range.1 hb
      exact fun e => hno ⟨a, b, hab, by omega, e⟩
    have := nodup_le hnod (b := nodes l) fun y hy => by
      obtain ⟨i, _, rfl⟩ := List.mem_map.1 hy
      exact hmem i
    simp at this; omega
  intro t
  induction t using Nat.strongRecOn with
  | ind t ih =>
    by_cases ht : t < J
    · exact h t ht
    · have e : nxN l B t v = nxN l B (p + (t - q)) v := by
        rw [nxN_add, he, ← nxN_add, show q + (t - q) = t by omega]
      rw [e]; exact ih _ (by omega)
/-- Where there is a conflict, the way back from the last change never ends. -/
theorem conf_back {l : List Con} (h : ¬ (srch l).2 < 0) : ∃ (R k : Nat) (r : Int → Nat) (c : Con), Inv (fun _ => true) l (nodes l) R k (srch l).1 r ∧ l[(srch l).2.toNat]? = some c ∧ ∀ t, (lookK KZ (srch l).1.B (nxN l (srch l).1.B t c.t)).isSome = true := by
  obtain ⟨r, hI⟩ := inv_sq (fun _ => true) l (nodes l) ((nodes l).length + (nodes l).length)
  obtain ⟨r', h1, h2⟩ := inv_relaxTo2 (by omega) hI l.length
  have he : srch l = relaxTo (fun _ => true) l (Sq (fun _ => true) l ⟨startM (nodes l), []⟩ ((nodes l).length + (nodes l).length)) l.length := search_eq (fun _ => true) l (nodes l)
  rw [← he] at h1 h2
  obtain ⟨c, y, hc, hr, hy⟩ := h2 (by omega)
  refine ⟨_, _, r', c, h1, hc, ?_⟩
  have hn0 : 0 < l.length := by have := (List.getElem?_eq_some_iff.1 hc).1; omega
  have hidx := idx_search (use := fun _ => true) (l := l) (fr := nodes l)
  obtain ⟨u, n, hp⟩ := pth_back h1 ((nodes l).length + (nodes l).length + 1) c.t y hy (by omega)
  refine back_all (J := (nodes l).length + (nodes l).length + 1) (fun i => ?_) (fun i hi => ?_) (by omega)
  · cases i with
    | zero => exact mem_nodes.2 ⟨c, List.mem_of_getElem? hc, .inr rfl⟩
    | succ i => exact nx_mem hidx hn0 _
  · obtain ⟨m, n1, n2, h3, h4, _⟩ := pth_split i (j := (nodes l).length + (nodes l).length + 1 - i) (by rw [show i + ((nodes l).length + (nodes l).length + 1 - i) = (nodes l).length + (nodes l).length + 1 by omega]; exact hp)
    rw [← pth_nx h3]
    rw [show (nodes l).length + (nodes l).length + 1 - i = ((nodes l).length + (nodes l).length - i) + 1 by omega] at h4
    cases h4 with
    | step hb _ _ => rw [hb]; rfl
theorem pth_snoc {l : List Con} {B : ZM} {v u n : Int} {j i : Nat} {c : Con} (h : Pth l B v j u n) (hb : lookK KZ B u = some (i : Int)) (hc : l[i]? = some c) : Pth l B v (j + 1) c.f (n + c.b) := by
  induction h with
  | nil v => have := Pth.step hb hc (.nil c.f); rwa [Int.zero_add] at this ⊢
  | @step v u n i' j c' hb' hc' hp ih =>
    have := Pth.step hb' hc' (ih hb)
    rwa [show n + c.b + c'.b = n + c'.b + c.b by omega] at this
/-- The sum along the way back. -/
def bS (l : List Con) (B : ZM) (q : Int) : Nat → Int
  | 0 => 0
  | t + 1 => bS l B q t + (l.getD (byI B (nxN l B t q)) ⟨0, 0, 0⟩).b
/-- What a cycle of last constraints is. -/
structure CycF (l : List Con) (B : ZM) (q : Int) (p : Nat) : Prop where
  per : Per l B q p
  con : ∀ t, ∃ c, l[byI B (nxN l B t q)]? = some c ∧ c.t = nxN l B t q ∧ c.f = nxN l B (t + 1) q
  neg : bS l B q p < 0
theorem cycF_of {use : Nat → Bool} {l : List Con} {fr : List Int} {R k : Nat} {s : St} {r : Int → Nat} (h : Inv use l fr R k s r) {q : Int} {p : Nat} (hp : Per l s.B q p) (hb : ∀ t, (lookK KZ s.B (nxN l s.B t q)).isSome = true) : CycF l s.B q p := by
  have hcon : ∀ t, ∃ (c : Con), lookK KZ s.B (nxN l s.B t q) = some ((byI s.B (nxN l s.B t q) : Nat) : Int) ∧ l[byI s.B (nxN l s.B t q)]? = some c ∧ c.t = nxN l s.B t q ∧ c.f = nxN l s.B (t + 1) q := fun t => by
    obtain ⟨z, hz⟩ := Option.isSome_iff_exists.1 (hb t)
    obtain ⟨i, c, _, _, rfl, hi, _, ht, _⟩ := h.by_ _ z hz
    have hby : byI s.B (nxN l s.B t q) = i := by unfold byI; rw [hz]; simp
    refine ⟨c, by rw [hz, hby], by rw [hby]; exact hi, ht, ?_⟩
    show _ = nx l s.B _
    unfold nx; rw [hby, List.getD_eq_getElem?_getD, hi]; rfl
  refine ⟨hp, fun t => by obtain ⟨c, _, h2⟩ := hcon t; exact ⟨c, h2⟩, ?_⟩
  have hall : ∀ j, Pth l s.B q j (nxN l s.B j q) (bS l s.B q j) := by
    intro j
    induction j with
    | zero => exact .nil q
    | succ j ih =>
      obtain ⟨c, h1, h2, _, h4⟩ := hcon j
      have := pth_snoc ih h1 h2
      rw [h4] at this
      have e : bS l s.B q (j + 1) = bS l s.B q j + c.b := by
        show _ + (l.getD _ _).b = _; rw [List.getD_eq_getElem?_getD, h2]; rfl
      rw [e]; exact this
  have h1 := hall p
  rw [hp.back] at h1
  have hpos := hp.pos
  rw [show p = (p - 1) + 1 by omega] at h1 ⊢
  exact h.cyc _ _ _ h1
theorem per_distinct {l : List Con} {B : ZM} {q : Int} {p : Nat} (h : Per l B q p) {i j : Nat} (hij : i < j) (hj : j < p) : nxN l B i q ≠ nxN l B j q := fun e => by
  have h1 : nxN l B (i + (p - j)) q = nxN l B (j + (p - j)) q := by rw [nxN_add, e, ← nxN_add]
  rw [show j + (p - j) = p by omega, h.back] at h1
  exact h.least _ (by omega) (by omega) h1
/-- The constraints from step m of the way back on, in the order of a chain. -/
def revL (l : List Con) (B : ZM) (q : Int) (m j : Nat) : List Int := (List.range j).map fun u => (byI B (nxN l B (m - 1 - u) q) : Int)
theorem revL_succ (l : List Con) (B : ZM) (q : Int) (m j : Nat) : revL l B q m (j + 1) = revL l B q m j ++ [(byI B (nxN l B (m - 1 - j) q) : Int)] := by unfold revL; rw [List.range_succ, List.map_append]; rfl
theorem revL_len (l : List Con) (B : ZM) (q : Int) (m j : Nat) : (revL l B q m j).length = j := by simp [revL]
section
variable {l : List Con} {B : ZM} {q : Int} {p : Nat}
theorem chain_run (h : CycF l B q p) (n0 : Int) (m : Nat) : ∀ j, j ≤ m → (revL l B q m j).foldl (stepL l) (some (n0, nxN l B m q)) = some (n0 + bS l B q m - bS l B q (m - j), nxN l B (m - j) q)
  | 0, _ => by simp [revL]
  | j + 1, hj => by
    rw [revL_succ, foldl_snoc, chain_run h n0 m j (by omega)]
    obtain ⟨c, h1, h2, h3⟩ := h.con (m - 1 - j)
    have hlt := (List.getElem?_eq_some_iff.1 h1).1
    rw [step_good (c := c) (by rw [Int.toNat_natCast]; exact h1) ⟨by omega, by omega⟩ (by rw [h3, show m - 1 - j + 1 = m - j by omega])]
    have e : bS l B q (m - j) = bS l B q (m - (j + 1)) + c.b := by
      rw [show m - j = (m - (j + 1)) + 1 by omega]
      show _ + (l.getD _ _).b = _
      rw [show m - (j + 1) = m - 1 - j by omega, List.getD_eq_getElem?_getD, h1]; rfl
    rw [h2, show m - 1 - j = m - (j + 1) by omega]
    congr 2; omega
theorem cycO_rev (l : List Con) (B : ZM) (q : Int) (p : Nat) : (cycO l B q p).reverse = revL l B q p p := by
  apply List.ext_getElem?
  intro i
  by_cases hi : i < p
  · rw [List.getElem?_reverse (by simpa [cycO] using hi)]
    simp only [cycO, revL, List.length_map, List.length_range, List.getElem?_map]
    rw [List.getElem?_range (by omega), List.getElem?_range hi]; rfl
  · rw [List.getElem?_eq_none (by simp [cycO]; omega), List.getElem?_eq_none (by simp [revL]; omega)]
theorem revL_take (k : Nat) (hk : k ≤ p) : (revL l B q p p).take k = revL l B q p k := by
  unfold revL; rw [← List.map_take, List.take_range, Nat.min_eq_left hk]
theorem revL_drop (k : Nat) (hk : k ≤ p) : (revL l B q p p).drop k = revL l B q (p - k) (p - k) := by
  apply List.ext_getElem?
  intro i
  rw [List.getElem?_drop]
  simp only [revL, List.getElem?_map]
  by_cases hi : i < p - k
  · rw [List.getElem?_range (by omega), List.getElem?_range hi]
    show some ((byI B (nxN l B (p - 1 - (k + i)) q) : Nat) : Int) = some ((byI B (nxN l B (p - k - 1 - i) q) : Nat) : Int)
    rw [show p - 1 - (k + i) = p - k - 1 - i by omega]
  · rw [List.getElem?_eq_none (by simp; omega), List.getElem?_eq_none (by simp; omega)]; rfl
/-- The turned cycle is a chain from a node to itself, of negative length. -/
theorem len_turned (h : CycF l B q p) {k : Nat} (hk : k < p) : lenL l ((revL l B q p p).drop k ++ (revL l B q p p).take k) (nxN l B (p - k) q) (nxN l B (p - k) q) = some (bS l B q p) := by
  rw [revL_take k (by omega), revL_drop k (by omega)]
  unfold lenL chainL
  rw [List.foldl_append, chain_run h 0 (p - k) (p - k) (Nat.le_refl _)]
  have e0 : nxN l B (p - k - (p - k)) q = nxN l B p q := by rw [Nat.sub_self, h.per.back]; rfl
  rw [e0, chain_run h _ p k (by omega)]
  simp only [Nat.sub_self, if_true]
  show some _ = some _
  congr 1
  show 0 + bS l B q (p - k) - 0 + bS l B q p - bS l B q (p - k) = _
  omega
theorem byI_inj (h : CycF l B q p) {i j : Nat} (hij : i < j) (hj : j < p) : byI B (nxN l B i q) ≠ byI B (nxN l B j q) := fun e => by
  obtain ⟨c, h1, h2, _⟩ := h.con i
  obtain ⟨d, h3, h4, _⟩ := h.con j
  rw [e, h3] at h1
  simp only [Option.some.injEq] at h1
  subst h1
  exact per_distinct h.per hij hj (by rw [← h2, ← h4])
theorem revL_nodup (h : CycF l B q p) : (revL l B q p p).Nodup := by
  rw [← cycO_rev]; refine (List.reverse_perm _).nodup_iff.2 ?_
  unfold cycO
  rw [List.Nodup, List.pairwise_map]
  refine List.pairwise_lt_range.imp_of_mem fun {a b} _ hb hab => ?_
  have := List.mem_range.1 hb
  exact fun e => byI_inj h hab this (by omega)
/-- The node that a constraint comes from. -/
def frI (l : List Con) (i : Int) : Int := (l.getD i.toNat ⟨0, 0, 0⟩).f
theorem revL_fr (h : CycF l B q p) : ((revL l B q p p).map (frI l)).Nodup := by
  rw [← cycO_rev, List.map_reverse]; refine (List.reverse_perm _).nodup_iff.2 ?_
  unfold cycO
  rw [List.map_map, List.Nodup, List.pairwise_map]
  refine List.pairwise_lt_range.imp_of_mem fun {a b} _ hb hab => ?_
  have hbp := List.mem_range.1 hb
  have hf : ∀ t, frI l ((byI B (nxN l B t q) : Nat) : Int) = nxN l B (t + 1) q := fun t => by
    obtain ⟨c, h1, _, h3⟩ := h.con t
    unfold frI; rw [Int.toNat_natCast, List.getD_eq_getElem?_getD, h1]; exact h3
  intro e
  simp only [Function.comp] at e
  rw [hf, hf] at e
  by_cases hb1 : b + 1 < p
  · exact per_distinct h.per (by omega) hb1 e
  · have : b + 1 = p := by omega
    rw [this, h.per.back] at e
    exact h.per.least (a + 1) (by omega) (by omega) e
theorem revL_get (h : CycF l B q p) {k : Nat} (hk : k < p) : ∃ c, (revL l B q p p)[k]? = some ((byI B (nxN l B (p - 1 - k) q) : Nat) : Int) ∧ l[byI B (nxN l B (p - 1 - k) q)]? = some c ∧ c.f = nxN l B (p - k) q := by
  obtain ⟨c, h1, _, h3⟩ := h.con (p - 1 - k)
  refine ⟨c, ?_, h1, by rw [h3, show p - 1 - k + 1 = p - k by omega]⟩
  unfold revL
  rw [List.getElem?_map, List.getElem?_range hk]; rfl
end
theorem min_le {l : List Int} {x : Int} (h : x ∈ l) : minL l ≤ x := by
  unfold minL
  have key : ∀ (t : List Int) (y : Int), t.foldl min y ≤ y ∧ ∀ x ∈ t, t.foldl min y ≤ x := by
    intro t
    induction t with
    | nil => intro y; exact ⟨Int.le_refl _, by simp⟩
    | cons z t ih =>
      intro y
      obtain ⟨h1, h2⟩ := ih (min y z)
      rw [List.foldl_cons]
      refine ⟨by omega, fun x hx => ?_⟩
      rcases List.mem_cons.1 hx with rfl | hx
      · omega
      · exact h2 x hx
  cases l with
  | nil => simp at h
  | cons y t =>
    simp only [List.tail_cons, List.headD_cons]
    rcases List.mem_cons.1 h with rfl | h
    · exact (key t x).1
    · exact (key t y).2 x h
/-- What a conflict is. -/
structure Cnf (l : List Con) (o : List Int) : Prop where
  ne : o ≠ []
  inr : ∀ x ∈ o, 0 ≤ x ∧ x < l.length
  len : ∃ n, n < 0 ∧ ∀ x, o[0]? = some x → lenL l o (frI l x) (frI l x) = some n
  fst : ∀ (i : Nat) x y, o[0]? = some x → 1 ≤ i → o[i]? = some y → x < y
  smp : (o.map (frI l)).Nodup
theorem cnf_ok {l : List Con} (h : ¬ (srch l).2 < 0) {o : List Int} (ho : IsCyc l (srch l) o) : Cnf l o := by
  obtain ⟨p, hp, rfl⟩ := ho.ex
  obtain ⟨R, k0, r, c0, hI, hc0, hall⟩ := conf_back h
  have hx1 : l.getD (srch l).2.toNat ⟨0, 0, 0⟩ = c0 := by rw [List.getD_eq_getElem?_getD, hc0]; rfl
  rw [hx1] at hp ⊢
  generalize hq : nxN l (srch l).1.B (l.length + (nodes l).length) c0.t = q at hp ⊢
  have hC : CycF l (srch l).1.B q p := cycF_of hI hp fun t => by rw [← hq, ← nxN_add]; exact hall _
  generalize (srch l).1.B = B at hC hp ⊢
  rw [cycO_rev]
  have hp1 := hp.pos
  have hne : revL l B q p p ≠ [] := fun e => by have := congrArg List.length e; rw [revL_len] at this; simp at this; omega
  have hmin := min_mem hne
  obtain ⟨k, hk, hfk⟩ : ∃ k, k < p ∧ (revL l B q p p).findIdx? (fun y => decide (y = minL (revL l B q p p))) = some k := by
    cases hf : (revL l B q p p).findIdx? (fun y => decide (y = minL (revL l B q p p))) with
    | none => rw [List.findIdx?_eq_none_iff] at hf; have := hf _ hmin; simp at this
    | some k =>
      obtain ⟨h1, _⟩ := List.findIdx?_eq_some_iff_getElem.1 hf
      rw [revL_len] at h1; exact ⟨k, h1, rfl⟩
  have ht : turned (revL l B q p p) = (revL l B q p p).drop k ++ (revL l B q p p).take k := by unfold turned; rw [hfk]
  obtain ⟨hk1, hk2, _⟩ := List.findIdx?_eq_some_iff_getElem.1 hfk
  simp only [decide_eq_true_eq] at hk2
  obtain ⟨c, hg1, hg2, hg3⟩ := revL_get hC hk
  have hperm : (turned (revL l B q p p)).Perm (revL l B q p p) := by
    rw [ht]
    refine List.perm_append_comm.trans ?_
    rw [List.take_append_drop]
  have h0 : (turned (revL l B q p p))[0]? = some ((byI B (nxN l B (p - 1 - k) q) : Nat) : Int) := by
    rw [ht, List.getElem?_append_left (by rw [List.length_drop, revL_len]; omega), List.getElem?_drop, Nat.add_zero, hg1]
  have hx0 : ((byI B (nxN l B (p - 1 - k) q) : Nat) : Int) = minL (revL l B q p p) := by
    rw [← hk2]
    have := List.getElem?_eq_getElem hk1
    rw [hg1] at this; simpa using this
  have hfr : frI l ((byI B (nxN l B (p - 1 - k) q) : Nat) : Int) = nxN l B (p - k) q := by
    unfold frI; rw [Int.toNat_natCast, List.getD_eq_getElem?_getD, hg2]; exact hg3
  refine ⟨fun e => by rw [e] at h0; simp at h0, fun x hx => ?_, ⟨bS l B q p, hC.neg, fun x hx => ?_⟩, fun i x y hx hi hy => ?_, ?_⟩
  · have hx := hperm.mem_iff.1 hx
    unfold revL at hx
    obtain ⟨u, hu, rfl⟩ := List.mem_map.1 hx
    obtain ⟨c, h1, _⟩ := hC.con (p - 1 - u)
    have := (List.getElem?_eq_some_iff.1 h1).1
    omega
  · rw [h0] at hx; simp only [Option.some.injEq] at hx; subst hx
    rw [hfr, ht]; exact len_turned hC hk
  · rw [h0] at hx; simp only [Option.some.injEq] at hx; subst hx
    have hym := hperm.mem_iff.1 (List.mem_of_getElem? hy)
    have h1 := min_le hym
    rw [← hx0] at h1
    have h2 : ((byI B (nxN l B (p - 1 - k) q) : Nat) : Int) ≠ y := fun e => by
      have hnd := (hperm.nodup_iff).2 (revL_nodup hC)
      have ha := List.getElem?_eq_some_iff.1 h0
      have hb := List.getElem?_eq_some_iff.1 hy
      obtain ⟨a1, a2⟩ := ha
      obtain ⟨b1, b2⟩ := hb
      exact List.pairwise_iff_getElem.1 hnd 0 i a1 b1 (by omega) (by rw [a2, b2]; exact e)
    omega
  · exact ((hperm.map _).nodup_iff).2 (revL_fr hC)
/-- A chain's length is no less than the difference of a potential. -/
theorem chain_pot {l : List Con} {φ : Int → Int} {x : Int} : ∀ (ch : List Int) {n q : Int}, (∀ k ∈ ch, ∀ c, l[k.toNat]? = some c → φ c.t ≤ φ c.f + c.b) → chainL l ch x = some (n, q) → φ q ≤ φ x + n := by
  intro ch
  generalize hr : ch.reverse = r
  induction r generalizing ch with
  | nil =>
    intro n q _ h
    have : ch = [] := by simpa using hr
    subst this
    simp [chainL] at h
    obtain ⟨rfl, rfl⟩ := h; omega
  | cons k r ih =>
    intro n q hp h
    have hch : ch = r.reverse ++ [k] := by rw [← List.reverse_reverse ch, hr, List.reverse_cons]
    subst hch
    unfold chainL at h
    rw [foldl_snoc] at h
    cases hc : chainL l r.reverse x with
    | none => unfold chainL at hc; rw [hc] at h; simp [stepL] at h
    | some z =>
      obtain ⟨n0, q0⟩ := z
      have h1 := ih r.reverse (by simp) (fun k hk => hp k (List.mem_append_left _ hk)) hc
      unfold chainL at hc
      rw [hc] at h
      unfold stepL at h
      simp only at h
      split at h
      · rename_i hk
        obtain ⟨hk1, hk2, hk3⟩ := hk
        have hlt : k.toNat < l.length := by omega
        have hg : l[k.toNat]? = some (l.getD k.toNat ⟨0, 0, 0⟩) := by rw [List.getD_eq_getElem?_getD, List.getElem?_eq_getElem hlt]; rfl
        have h2 := hp k (by simp) _ hg
        simp only [Option.some.injEq, Prod.mk.injEq] at h
        obtain ⟨h3, h4⟩ := h
        rw [hk3] at h2
        rw [← h4]; omega
      · simp at h
/-- A cycle without one of its constraints has a potential. -/
theorem cyc_drop {l : List Con} {B : ZM} {q : Int} {p : Nat} (h : CycF l B q p) {m : Nat} (hm : m < p) : ∃ φ : Int → Int, ∀ t, t < p → t ≠ m → ∀ c, l[byI B (nxN l B t q)]? = some c → φ c.t ≤ φ c.f + c.b := by
  have hper : ∀ t, nxN l B (t + p) q = nxN l B t q := fun t => by rw [Nat.add_comm, nxN_add, h.per.back]
  have huniq : ∀ i j, m + 1 ≤ i → i < j → j ≤ m + p → nxN l B i q ≠ nxN l B j q := fun i j hi hij hj e => by
    have h1 : nxN l B (i + (p + p - i)) q = nxN l B (j + (p + p - i)) q := by rw [nxN_add, e, ← nxN_add]
    rw [show i + (p + p - i) = (0 + p) + p by omega, hper, hper, show j + (p + p - i) = ((j - i) + p) + p by omega, hper, hper] at h1
    exact h.per.least (j - i) (by omega) (by omega) h1.symm
  classical
  refine ⟨fun v => if hv : ∃ t, m + 1 ≤ t ∧ t ≤ m + p ∧ nxN l B t q = v then - bS l B q (Classical.choose hv) else 0, ?_⟩
  have hφ : ∀ t, m + 1 ≤ t → t ≤ m + p → (if hv : ∃ t', m + 1 ≤ t' ∧ t' ≤ m + p ∧ nxN l B t' q = nxN l B t q then - bS l B q (Classical.choose hv) else 0) = - bS l B q t := fun t h1 h2 => by
    have hv : ∃ t', m + 1 ≤ t' ∧ t' ≤ m + p ∧ nxN l B t' q = nxN l B t q := ⟨t, h1, h2, rfl⟩
    rw [dif_pos hv]
    obtain ⟨a1, a2, a3⟩ := Classical.choose_spec hv
    have : Classical.choose hv = t := by
      rcases Nat.lt_trichotomy (Classical.choose hv) t with hlt | he | hlt
      · exact absurd a3 (huniq _ _ a1 hlt h2)
      · exact he
      · exact absurd a3.symm (huniq _ _ h1 hlt a2)
    rw [this]
  intro t ht htm c hc
  obtain ⟨c', h1, h2, h3⟩ := h.con t
  rw [hc] at h1; simp only [Option.some.injEq] at h1; subst h1
  have key : ∀ t', m + 1 ≤ t' → t' + 1 ≤ m + p → nxN l B t' q = nxN l B t q → nxN l B (t' + 1) q = nxN l B (t + 1) q → (if hv : ∃ t', m + 1 ≤ t' ∧ t' ≤ m + p ∧ nxN l B t' q = c.t then - bS l B q (Classical.choose hv) else 0) ≤ (if hv : ∃ t', m + 1 ≤ t' ∧ t' ≤ m + p ∧ nxN l B t' q = c.f then - bS l B q (Classical.choose hv) else 0) + c.b := fun t' g1 g2 g3 g4 => by
    have e1 := hφ t' g1 (by omega)
    have e2 := hφ (t' + 1) (by omega) g2
    rw [g3, ← h2] at e1
    rw [g4, ← h3] at e2
    rw [e1, e2]
    have e3 : bS l B q (t' + 1) = bS l B q t' + c.b := by
      show _ + (l.getD (byI B (nxN l B t' q)) _).b = _
      rw [g3, List.getD_eq_getElem?_getD, hc]; rfl
    rw [e3]; omega
  rcases Nat.lt_or_gt_of_ne htm with hlt | hgt
  · refine key (t + p) (by omega) (by omega) (hper t) ?_
    rw [show t + p + 1 = (t + 1) + p by omega]; exact hper (t + 1)
  · exact key t (by omega) (by omega) rfl rfl
theorem cnf_drop {l : List Con} (h : ¬ (srch l).2 < 0) {o : List Int} (ho : IsCyc l (srch l) o) : ∀ x ∈ o, ∃ φ : Int → Int, ∀ y ∈ o, y ≠ x → ∀ c, l[y.toNat]? = some c → φ c.t ≤ φ c.f + c.b := by
  obtain ⟨p, hp, rfl⟩ := ho.ex
  obtain ⟨R, k0, r, c0, hI, hc0, hall⟩ := conf_back h
  have hx1 : l.getD (srch l).2.toNat ⟨0, 0, 0⟩ = c0 := by rw [List.getD_eq_getElem?_getD, hc0]; rfl
  rw [hx1] at hp ⊢
  generalize hq : nxN l (srch l).1.B (l.length + (nodes l).length) c0.t = q at hp ⊢
  have hC : CycF l (srch l).1.B q p := cycF_of hI hp fun t => by rw [← hq, ← nxN_add]; exact hall _
  generalize (srch l).1.B = B at hC hp ⊢
  rw [cycO_rev]
  have hmem : ∀ x, x ∈ turned (revL l B q p p) → ∃ t, t < p ∧ x = ((byI B (nxN l B t q) : Nat) : Int) := fun x hx => by
    have hx : x ∈ revL l B q p p := by
      unfold turned at hx
      split at hx
      · rcases List.mem_append.1 hx with hx | hx
        · exact List.mem_of_mem_drop hx
        · exact List.mem_of_mem_take hx
      · simp at hx
    unfold revL at hx
    obtain ⟨u, hu, rfl⟩ := List.mem_map.1 hx
    have := List.mem_range.1 hu
    exact ⟨p - 1 - u, by omega, rfl⟩
  intro x hx
  obtain ⟨m, hm, rfl⟩ := hmem x hx
  obtain ⟨φ, hφ⟩ := cyc_drop hC hm
  refine ⟨φ, fun y hy hne c hc => ?_⟩
  obtain ⟨t, ht, rfl⟩ := hmem y hy
  exact hφ t ht (fun e => hne (by rw [e])) c (by simpa using hc)
end Go.ConM
namespace Go.Proofs.Ytgdjnjbipemdcaa
open Go Go.SL Go.RowKit Go.ConM
set_option linter.unusedVariables false
set_option linter.unusedSimpArgs false
theorem tF34_0u : fieldB Try.prog 34 0 0 = true := by kernel_rfl
theorem tMixu : Try.prog.follows .mixedOrders = true := by kernel_rfl
theorem tO3u : oneB Try.prog 3 = true := by kernel_rfl
theorem tS24u : sliceB Try.prog 24 34 3 = true := by kernel_rfl
theorem tS26u : sliceB Try.prog 26 3 1 = true := by kernel_rfl

theorem nodup_snoc {L : List Int} {x : Int} (h : L.Nodup) (hx : ∀ y ∈ L, y ≠ x) : (L ++ [x]).Nodup := List.nodup_append.2 ⟨h, by simp, fun a ha b hb => by simp at hb; subst hb; exact hx a ha⟩
theorem fr_of {l : List Con} {k : Int} {e : Con} (h : l[k.toNat]? = some e) : frI l k = e.f := by unfold frI; rw [List.getD_eq_getElem?_getD, h]; rfl
set_option maxHeartbeats 2000000 in
set_option maxRecDepth 100000 in
theorem simple_any {σ : World} {F : List Res} {a b : Option Addr} {c d : Nat} {l : List Con} {ch : List Int} (h : Sl σ F encC 3 (.slice a l.length c) l) (g : Sl σ F SL.encZ 1 (.slice b ch.length d) ch) (hr : ∀ x ∈ ch, 0 ≤ x ∧ x < l.length) :
    FnT Try.prog σ F 21 [.slice a l.length c, .slice b ch.length d] [] (fun u ρ => u = .bool (decide ((ch.map (frI l)).Nodup)) ∧ ρ = []) := by
  refine fn_of 35 Try.func21 rfl Try.ntmps21 rfl ?_
  have hle := h.i64
  have gle := g.i64
  refine w_seq ?_
  refine w_region ?_
  refine wl_det rfl rfl rfl (op_assign rfl) ?_
  refine wl_nil ?_
  refine st_tn ?_
  refine w_seq ?_
  refine w_seq ?_
  refine w_region ?_
  refine wl_det rfl rfl rfl (op_assign rfl) ?_
  refine wl_nil ?_
  refine st_tn ?_
  refine w_block ?_
  refine w_loopQ (X := Nat) (fun z => z ≤ ch.length ∧ ((ch.take z).map (frI l)).Nodup) (fun z => [(5, .int .i64 (z))]) (fun _ => []) (fun z => ch.length - z) (0) [(0, _), (1, _)] [] [] rfl (rfl) (.cons rfl (.nil _)) (.cons rfl (.cons rfl (.nil _))) (by
      try dsimp only
      exact ⟨Nat.zero_le _, by simp⟩) ?_
  rintro i ⟨hi, hn⟩
  refine w_norm2 (by dsimp only [List.cons_append, List.nil_append]) (by dsimp only [List.cons_append, List.nil_append]) ?_
  try dsimp only at hi hn ⊢
  refine w_seq ?_
  refine w_seq ?_
  refine w_region ?_
  refine wl_det rfl rfl rfl (op_move rfl) ?_
  refine wl_det rfl rfl rfl (op_move rfl) ?_
  refine wl_det rfl rfl rfl (op_lenT rfl tS26u (Sl.ent (by first | exact Sl.app (by assumption) _ | exact Sl.app (Sl.app (by assumption) _) _))) ?_
  refine wl_det rfl rfl rfl (op_lss rfl rfl) ?_
  refine wl_nil ?_
  refine st_tn ?_
  refine w_cond_d rfl (fun hc10 => ?_) (fun hc10 => ?_)
  · -- c10.t
    obtain ⟨k, hk⟩ := getE (l := ch) (i := i) (by omega)
    have hlt := ltE hk
    have hkr := hr k (List.mem_of_getElem? hk)
    obtain ⟨e, he⟩ := getE (l := l) (i := k.toNat) (by omega)
    refine w_skip ?_
    refine st_tn ?_
    refine w_seq ?_
    refine w_block ?_
    refine w_seq ?_
    refine w_region ?_
    refine wl_det rfl rfl rfl (op_assign rfl) ?_
    refine wl_nil ?_
    refine st_tn ?_
    refine w_block ?_
    refine w_loopQ (X := Nat) (fun z => z ≤ i ∧ ∀ y ∈ ch.take z, frI l y ≠ frI l k) (fun z => [(6, .int .i64 (z))]) (fun _ => []) (fun z => i - z) (0) [(0, _), (1, _), (5, _)] [] [] rfl (rfl) (.cons rfl (.nil _)) (.cons rfl (.cons rfl (.cons rfl (.nil _)))) (by
        try dsimp only
        exact ⟨Nat.zero_le _, by simp⟩) ?_
    rintro j ⟨hj, hno⟩
    refine w_norm2 (by dsimp only [List.cons_append, List.nil_append]) (by dsimp only [List.cons_append, List.nil_append]) ?_
    try dsimp only at hj hno ⊢
    refine w_seq ?_
    refine w_seq ?_
    refine w_region ?_
    refine wl_det rfl rfl rfl (op_move rfl) ?_
    refine wl_det rfl rfl rfl (op_move rfl) ?_
    refine wl_det rfl rfl rfl (op_lss rfl rfl) ?_
    refine wl_nil ?_
    refine st_tn ?_
    refine w_cond_d rfl (fun hc15 => ?_) (fun hc15 => ?_)
    · -- c15.t
      obtain ⟨k2, hk2⟩ := getE (l := ch) (i := j) (by omega)
      have hlt2 := ltE hk2
      have hkr2 := hr k2 (List.mem_of_getElem? hk2)
      obtain ⟨e2, he2⟩ := getE (l := l) (i := k2.toNat) (by omega)
      refine w_skip ?_
      refine st_tn ?_
      refine w_seq ?_
      refine w_block ?_
      refine w_seq ?_
      refine w_drawW (fun β => [⟨18, [], [], [], noW (_), false, [], []⟩, ⟨19, [], [], [], noW (_), false, [], []⟩, ⟨20, [], [], [], noW (_), false, [], []⟩, ⟨21, [1, 2], [], [], noW (_), false, [], []⟩, ⟨22, [3], [], [], noW (_), false, [], []⟩, ⟨23, [0, 4], [], [], noW (_), false, [], []⟩, ⟨24, [5], [], [], noW (_), false, [], []⟩, ⟨25, [6], [], [], noW (_), false, [], []⟩, ⟨26, [], [], [], noW (_), false, [], []⟩, ⟨27, [], [], [], noW (_), false, [], []⟩, ⟨28, [], [], [], noW (_), false, [], []⟩, ⟨29, [9, 10], [], [], noW (_), false, [], []⟩, ⟨30, [11], [], [], noW (_), false, [], []⟩, ⟨31, [8, 12], [], [], noW (_), false, [], []⟩, ⟨32, [13], [], [], noW (_), false, [], []⟩, ⟨33, [14], [], [], noW (_), false, [], []⟩]) [] [0, 1, 5, 6] [⟨18, [], [], false, [], []⟩, ⟨19, [], [], false, [], []⟩, ⟨20, [], [], false, [], []⟩, ⟨21, [1, 2], [], false, [], []⟩, ⟨22, [3], [], false, [], []⟩, ⟨23, [0, 4], [], false, [], []⟩, ⟨24, [5], [], false, [], []⟩, ⟨25, [6], [], false, [], []⟩, ⟨26, [], [], false, [], []⟩, ⟨27, [], [], false, [], []⟩, ⟨28, [], [], false, [], []⟩, ⟨29, [9, 10], [], false, [], []⟩, ⟨30, [11], [], false, [], []⟩, ⟨31, [8, 12], [], false, [], []⟩, ⟨32, [13], [], false, [], []⟩, ⟨33, [14], [], false, [], []⟩] [[], [], [], [], [], [], [], [], [], [], [], [], [], [], [], []] [[], [], [], [], [], [], [], [], [], [], [], [], [], [], [], []] tMixu (fun _ => by rfl) (fun _ => by rfl) (by kernel_rfl) (by kernel_rfl) (by rfl) (by rfl)
          (fun β => ⟨.p rfl (by intro X; exact op_move rfl),
          ⟨.p rfl (by intro X; exact op_move rfl),
          ⟨.p rfl (by intro X; exact op_move rfl),
          ⟨.p rfl (by intro X; rintro _ _ ⟨rfl, rfl⟩ _ _ ⟨rfl, rfl⟩; exact op_idx rfl rfl tS26u (Sl.ent (Sl.app (Sl.app g X) _)) (by omega)),
          ⟨.p rfl (by intro X; rintro _ _ ⟨rfl, rfl⟩; exact op_ldx rfl tO3u (Sl.app (Sl.app g X) _) (by assumption) (by rfl)),
          ⟨.p rfl (by intro X; rintro _ _ ⟨rfl, rfl⟩ _ _ ⟨rfl, rfl⟩; exact op_idxZ rfl rfl tS24u (Sl.ent (Sl.app (Sl.app h X) _)) (by omega) (by omega)),
          ⟨.p rfl (by intro X; rintro _ _ ⟨rfl, rfl⟩; exact op_fieldAddr (off := 0) rfl tF34_0u),
          ⟨.p rfl (by intro X; rintro _ _ ⟨rfl, rfl⟩; exact op_ldxf rfl tO3u (Sl.app (Sl.app h X) _) (by assumption) (by rfl)),
          ⟨.p rfl (by intro X; exact op_move rfl),
          ⟨.p rfl (by intro X; exact op_move rfl),
          ⟨.p rfl (by intro X; exact op_move rfl),
          ⟨.p rfl (by intro X; rintro _ _ ⟨rfl, rfl⟩ _ _ ⟨rfl, rfl⟩; exact op_idx rfl rfl tS26u (Sl.ent (Sl.app (Sl.app g X) _)) (by omega)),
          ⟨.p rfl (by intro X; rintro _ _ ⟨rfl, rfl⟩; exact op_ldx rfl tO3u (Sl.app (Sl.app g X) _) (by assumption) (by rfl)),
          ⟨.p rfl (by intro X; rintro _ _ ⟨rfl, rfl⟩ _ _ ⟨rfl, rfl⟩; exact op_idxZ rfl rfl tS24u (Sl.ent (Sl.app (Sl.app h X) _)) (by omega) (by omega)),
          ⟨.p rfl (by intro X; rintro _ _ ⟨rfl, rfl⟩; exact op_fieldAddr (off := 0) rfl tF34_0u),
          ⟨.p rfl (by intro X; rintro _ _ ⟨rfl, rfl⟩; exact op_ldxf rfl tO3u (Sl.app (Sl.app h X) _) (by assumption) (by rfl)),
          trivial⟩⟩⟩⟩⟩⟩⟩⟩⟩⟩⟩⟩⟩⟩⟩⟩)
          (fun β β' => ⟨fun _ => by rfl, ⟨fun _ => by rfl, ⟨fun _ => by rfl, ⟨fun _ => by rfl, ⟨fun _ => by rfl, ⟨fun _ => by rfl, ⟨fun _ => by rfl, ⟨fun _ => by rfl, ⟨fun _ => by rfl, ⟨fun _ => by rfl, ⟨fun _ => by rfl, ⟨fun _ => by rfl, ⟨fun _ => by rfl, ⟨fun _ => by rfl, ⟨fun _ => by rfl, ⟨fun _ => by rfl, trivial⟩⟩⟩⟩⟩⟩⟩⟩⟩⟩⟩⟩⟩⟩⟩⟩) ?_
      intro β
      rintro _ _ ⟨rfl, rfl⟩ _ _ ⟨rfl, rfl⟩ _ _ ⟨rfl, rfl⟩ _ _ ⟨rfl, rfl⟩ _ _ ⟨rfl, rfl⟩ _ _ ⟨rfl, rfl⟩ _ _ ⟨rfl, rfl⟩ _ _ ⟨rfl, rfl⟩ _ _ ⟨rfl, rfl⟩ _ _ ⟨rfl, rfl⟩ _ _ ⟨rfl, rfl⟩ _ _ ⟨rfl, rfl⟩ _ _ ⟨rfl, rfl⟩ _ _ ⟨rfl, rfl⟩ _ _ ⟨rfl, rfl⟩ _ _ ⟨rfl, rfl⟩
      refine wl_norm (e' := [(0, _), (1, _), (5, _), (6, _), (25, _), (33, _)]) (.cons rfl (.cons rfl (.cons rfl (.cons rfl (.cons rfl (.cons rfl (.nil _))))))) (by dsimp only [cond_false, cond_true, List.nil_append, List.cons_append]) ?_
      refine wl_det rfl rfl rfl (op_eql rfl rfl) ?_
      refine wl_nil ?_
      refine st_tn ?_
      refine w_cond_d rfl (fun hc34 => ?_) (fun hc34 => ?_)
      · -- c34.t
        refine w_seq ?_
        refine w_region ?_
        refine wl_det rfl rfl rfl (op_assign rfl) ?_
        refine wl_nil ?_
        refine st_tn ?_
        refine w_ret ?_
        refine st_br ?_
        refine st_tr ?_
        refine st_tr ?_
        refine st_br ?_
        refine st_br ?_
        refine st_tr ?_
        refine st_tr ?_
        refine st_br ?_
        refine st_tr ?_
        refine st_ret (vs := [_]) [] Try.results21 ⟨rfl, trivial⟩ rfl ?_
        refine ⟨_, rfl, ?_⟩
        refine ⟨?_, rfl⟩
        have : ¬ (ch.map (frI l)).Nodup := fun hnd => by
          have h1 : (ch.map (frI l))[i]? = some e.f := by rw [List.getElem?_map, hk]; show some _ = _; rw [fr_of he]
          have h2 : (ch.map (frI l))[j]? = some e.f := by rw [List.getElem?_map, hk2]; show some _ = _; rw [fr_of he2, ← hc34]
          obtain ⟨a1, a2⟩ := List.getElem?_eq_some_iff.1 h1
          obtain ⟨b1, b2⟩ := List.getElem?_eq_some_iff.1 h2
          exact List.pairwise_iff_getElem.1 hnd j i b1 a1 (by omega) (by rw [a2, b2])
        simp [retv, this]
      · -- c34.f
        refine w_skip ?_
        refine st_bn ?_
        refine st_tn ?_
        refine w_region ?_
        refine wl_det rfl rfl rfl (op_move rfl) ?_
        refine wl_det rfl rfl rfl (op_add' rfl rfl (by omega)) ?_
        refine wl_det rfl rfl rfl (op_assign rfl) ?_
        refine wl_nil ?_
        refine st_roundQ (x := j) (j + 1) [] rfl (rfl) (.cons rfl (.nil _)) (.cons rfl (.cons rfl (.cons rfl (.nil _)))) (by
            try dsimp only
            refine ⟨by omega, ?_⟩
            rw [take_snoc hk2]
            intro y hy
            rcases List.mem_append.1 hy with hy | hy
            · exact hno y hy
            · simp only [List.mem_singleton] at hy; subst hy
              rw [fr_of he2, fr_of he]; exact fun e => hc34 e.symm) (by
            try dsimp only
            omega) 
    · -- c15.f
      refine w_exit ?_
      refine st_te ?_
      refine st_te ?_
      refine st_be ?_
      refine st_bn ?_
      refine st_tn ?_
      refine w_region ?_
      refine wl_det rfl rfl rfl (op_move rfl) ?_
      refine wl_det rfl rfl rfl (op_add' rfl rfl (by omega)) ?_
      refine wl_det rfl rfl rfl (op_assign rfl) ?_
      refine wl_nil ?_
      refine st_roundQ (x := i) (i + 1) [] rfl (rfl) (.cons rfl (.nil _)) (.cons rfl (.cons rfl (.nil _))) (by
          try dsimp only
          refine ⟨by omega, ?_⟩
          rw [take_snoc hk, List.map_append]
          refine nodup_snoc hn fun y hy => ?_
          obtain ⟨z, hz, rfl⟩ := List.mem_map.1 hy
          exact hno z (by rwa [show j = i by omega])) (by
          try dsimp only
          omega) 
  · -- c10.f
    refine w_exit ?_
    refine st_te ?_
    refine st_te ?_
    refine st_be ?_
    refine st_tn ?_
    refine w_seq ?_
    refine w_region ?_
    refine wl_det rfl rfl rfl (op_assign rfl) ?_
    refine wl_nil ?_
    refine st_tn ?_
    refine w_ret ?_
    refine st_ret (vs := [_]) [] Try.results21 ⟨rfl, trivial⟩ rfl ?_
    refine ⟨_, rfl, ?_⟩
    rw [take_all (by omega)] at hn; exact ⟨by simp [retv, hn], rfl⟩

theorem cnf_spec {l : List Con} (h : ¬ solE l = 0) : Cnf l (cnfL l) := by
  have hs : ¬ (srch l).2 < 0 := fun hh => h (by unfold solE; exact if_neg (by show ¬ 0 ≤ (srch l).2; omega))
  obtain ⟨R, k0, r, c0, hI, hc0, hall⟩ := conf_back hs
  have hn0 : 0 < l.length := by have := (List.getElem?_eq_some_iff.1 hc0).1; omega
  obtain ⟨p, hp, _⟩ := per_exists (cyc_exists (idx_search (use := fun _ => true) (l := l) (fr := nodes l)) hn0 (l.getD (srch l).2.toNat ⟨0, 0, 0⟩).t (K := l.length + (nodes l).length) (by omega))
  have ho : IsCyc l (srch l) (turned (cycO l (srch l).1.B (nxN l (srch l).1.B (l.length + (nodes l).length) (l.getD (srch l).2.toNat ⟨0, 0, 0⟩).t) p).reverse) := ⟨p, hp, rfl⟩
  rw [cnf_of hs ho]
  exact cnf_ok hs ho
theorem cnf_none {l : List Con} (h : solE l = 0) : cnfL l = [] := cnf_nil (by
  unfold solE at h
  split at h
  · omega
  · rename_i hh; exact Int.not_le.1 hh)
theorem cnf_nod {l : List Con} {o : List Int} (h : Cnf l o) : o.Nodup := by
  have := h.smp
  rw [List.Nodup, List.pairwise_map] at this
  exact this.imp fun hne e => hne (by rw [e])
theorem cnf_len (l : List Con) : (cnfL l).length ≤ l.length := by
  by_cases h : solE l = 0
  · rw [cnf_none h]; simp
  · have hC := cnf_spec h
    have := nodup_le (cnf_nod hC) (b := (List.range l.length).map fun i : Nat => (i : Int)) fun y hy => by
      have := hC.inr y hy
      exact List.mem_map.2 ⟨y.toNat, List.mem_range.2 (by omega), by omega⟩
    simpa using this
set_option maxHeartbeats 4000000 in
set_option maxRecDepth 100000 in
theorem lawConflicts_any {σ : World} {F : List Res} {a : Option Addr} {c : Nat} {s : List Arc} (h : Sl σ F encA 3 (.slice a s.length c) s) (hs : OkA s) :
    FnT Try.prog σ F 3 [.slice a s.length c] [] (fun u ρ => u = .bool true ∧ ρ = []) := by
  refine fn_of 110 Try.func3 rfl Try.ntmps3 rfl ?_
  have hle := h.i64
  obtain ⟨hfew, hsm, hin, hno, hbn⟩ := sys_ok hs
  obtain ⟨l, hl⟩ : ∃ l, l = sysL s := ⟨_, rfl⟩
  rw [← hl] at hfew hsm hin hno hbn
  have hcl := cnf_len l
  refine w_seq ?_
  refine w_region ?_
  refine wl_det rfl rfl rfl (op_assign rfl) ?_
  refine wl_nil ?_
  refine st_tn ?_
  refine w_seq ?_
  refine w_seq ?_
  refine w_region ?_
  refine wl_det rfl rfl rfl (op_fn Try.func15 rfl rfl rfl (known_any)) ?_
  refine wl_det rfl rfl rfl (op_not_t rfl) ?_
  refine wl_nil ?_
  refine st_tn ?_
  refine w_cond_f (rfl) ?_
  refine w_skip ?_
  refine st_tn ?_
  refine w_seq ?_
  refine w_region ?_
  refine wl_det rfl rfl rfl (op_move rfl) ?_
  refine wl_op [] rfl rfl rfl rfl (op_fn Try.func16 rfl rfl rfl (sys_any 14 (by first | exact Sl.app (by assumption) _ | exact Sl.app (Sl.app (by assumption) _) _) (by assumption))) ?_
  rintro _ _ ⟨a14, c14, rfl, rfl⟩
  refine wl_det rfl rfl rfl (op_assign rfl) ?_
  refine wl_nil ?_
  refine st_tn ?_
  refine w_seq ?_
  rw [← hl]
  have hnl := len_nodes l
  have hsf := sol_feas l
  refine w_region ?_
  refine wl_det rfl rfl rfl (op_move rfl) ?_
  refine wl_op [] rfl rfl rfl rfl (op_fn Try.func17 rfl rfl rfl (conf_any 17 (Sl.lab 14 rfl (by first | (unfold maxLen; omega) | (simp [maxLen]; done))) (by assumption) (by assumption))) ?_
  rintro _ _ ⟨a17, c17, rfl, rfl⟩
  refine wl_det rfl rfl rfl (op_move rfl) ?_
  refine wl_det rfl rfl rfl (op_extract rfl rfl) ?_
  refine wl_det rfl rfl rfl (op_extract rfl rfl) ?_
  refine wl_det rfl rfl rfl (op_assign rfl) ?_
  refine wl_det rfl rfl rfl (op_assign rfl) ?_
  refine wl_nil ?_
  refine st_tn ?_
  refine w_seq ?_
  refine w_region ?_
  refine wl_det rfl rfl rfl (op_move rfl) ?_
  refine wl_op [] rfl rfl rfl rfl (op_fn Try.func16 rfl rfl rfl (show FnT _ _ _ _ _ _ (fun u ρ => ∃ a c, u = .slice a l.length c ∧ ρ = [(22, slW 34 encC 3 (.slice a l.length c) l)]) from hl ▸ sys_any 22 (Sl.app h _) (by assumption))) ?_
  rintro _ _ ⟨a22, c22, rfl, rfl⟩
  refine wl_op [] rfl rfl rfl rfl (op_fn Try.func17 rfl rfl rfl (conf_any 23 (Sl.lab 22 rfl (by first | (unfold maxLen; omega) | (simp [maxLen]; done))) (by assumption) (by assumption))) ?_
  rintro _ _ ⟨a23, c23, rfl, rfl⟩
  refine wl_det rfl rfl rfl (op_move rfl) ?_
  refine wl_det rfl rfl rfl (op_extract rfl rfl) ?_
  refine wl_det rfl rfl rfl (op_extract rfl rfl) ?_
  refine wl_det rfl rfl rfl (op_assign rfl) ?_
  refine wl_det rfl rfl rfl (op_assign rfl) ?_
  refine wl_nil ?_
  refine st_tn ?_
  refine w_seq ?_
  refine w_seq ?_
  by_cases hE : solE l = 0
  · -- hE+
    have hFe := hsf.1 hE
    have hc0 := cnf_none hE
    refine w_region ?_
    refine wl_det rfl rfl rfl (op_move rfl) ?_
    refine wl_det rfl rfl rfl (op_move rfl) ?_
    refine wl_det rfl rfl rfl (op_val (v' := .bool false) (by simp) (op_neB rfl rfl Try.underlying4)) ?_
    refine wl_det rfl rfl rfl (op_move rfl) ?_
    refine wl_wanted_det rfl rfl rfl rfl rfl rfl rfl (op_move rfl) ?_
    refine wl_wanted_det rfl rfl rfl rfl rfl rfl rfl (op_move rfl) ?_
    refine wl_wanted_det rfl rfl rfl rfl rfl rfl rfl (op_val (v' := .bool true) (by simp) (op_fn Try.func18 rfl rfl rfl (same_any (Sl.lab 17 rfl (by first | (unfold maxLen; omega) | (simp [maxLen]; done))) (Sl.lab 23 rfl (by first | (unfold maxLen; omega) | (simp [maxLen]; done)))))) ?_
    refine wl_wanted_det rfl rfl rfl rfl rfl rfl rfl (op_not_t rfl) ?_
    refine wl_det rfl rfl rfl (op_pick_f rfl rfl) ?_
    refine wl_det rfl rfl rfl (op_move rfl) ?_
    refine wl_wanted_det rfl rfl rfl rfl rfl rfl rfl (op_move rfl) ?_
    refine wl_wanted_det rfl rfl rfl rfl rfl rfl rfl (op_move rfl) ?_
    refine wl_wanted_det rfl rfl rfl rfl rfl rfl rfl (op_fn Try.func19 rfl rfl rfl (feas_any (Sl.lab 14 rfl (by first | (unfold maxLen; omega) | (simp [maxLen]; done))) (by assumption) (by assumption))) ?_
    refine wl_wanted_det rfl rfl rfl rfl rfl rfl rfl (op_val (v' := .bool false) (by simp [hE, hFe]) (op_eqB rfl rfl Try.underlying4)) ?_
    refine wl_det rfl rfl rfl (op_pick_f rfl rfl) ?_
    refine wl_nil ?_
    refine st_tn ?_
    refine w_cond_f (rfl) ?_
    refine w_skip ?_
    refine st_tn ?_
    refine w_seq ?_
    refine w_seq ?_
    refine w_region ?_
    refine wl_det rfl rfl rfl (op_move rfl) ?_
    refine wl_det rfl rfl rfl (op_val (v' := .bool true) (by simp [hE]) (op_not_d rfl)) ?_
    refine wl_nil ?_
    refine st_tn ?_
    refine w_cond_t (rfl) ?_
    refine w_seq ?_
    refine w_region ?_
    refine wl_det rfl rfl rfl (op_move rfl) ?_
    refine wl_det rfl rfl rfl (op_lenT rfl tS26u (Sl.ent (Sl.lab 17 rfl (by first | (unfold maxLen; omega) | (simp [maxLen]; done))))) ?_
    refine wl_det rfl rfl rfl (op_val (v' := .bool true) (by rw [hc0]; rfl) (op_eql rfl rfl)) ?_
    refine wl_det rfl rfl rfl (op_assign rfl) ?_
    refine wl_nil ?_
    refine st_tn ?_
    refine w_ret ?_
    refine st_tr ?_
    refine st_ret (vs := [_]) [] Try.results3 ⟨rfl, trivial⟩ rfl ?_
    refine ⟨_, rfl, ?_⟩
    exact ⟨rfl, rfl⟩
  · -- hE-
    have hFe : ¬ Feas l := fun hf => hE (hsf.2 hf)
    have hC := cnf_spec hE
    obtain ⟨x0, hx0⟩ : ∃ x0, (cnfL l)[0]? = some x0 := getE (List.length_pos_iff.2 hC.ne)
    have hlt0 := ltE hx0
    have hxr := hC.inr x0 (List.mem_of_getElem? hx0)
    obtain ⟨e0, he0⟩ := getE (l := l) (i := x0.toNat) (by omega)
    have hf0 := fr_of he0
    obtain ⟨n0, hn0, hlen0⟩ := hC.len
    have hln := hlen0 x0 hx0
    rw [hf0] at hln
    have hin2 := hC.inr
    refine w_region ?_
    refine wl_det rfl rfl rfl (op_move rfl) ?_
    refine wl_det rfl rfl rfl (op_move rfl) ?_
    refine wl_det rfl rfl rfl (op_val (v' := .bool false) (by simp) (op_neB rfl rfl Try.underlying4)) ?_
    refine wl_det rfl rfl rfl (op_move rfl) ?_
    refine wl_wanted_det rfl rfl rfl rfl rfl rfl rfl (op_move rfl) ?_
    refine wl_wanted_det rfl rfl rfl rfl rfl rfl rfl (op_move rfl) ?_
    refine wl_wanted_det rfl rfl rfl rfl rfl rfl rfl (op_val (v' := .bool true) (by simp) (op_fn Try.func18 rfl rfl rfl (same_any (Sl.lab 17 rfl (by first | (unfold maxLen; omega) | (simp [maxLen]; done))) (Sl.lab 23 rfl (by first | (unfold maxLen; omega) | (simp [maxLen]; done)))))) ?_
    refine wl_wanted_det rfl rfl rfl rfl rfl rfl rfl (op_not_t rfl) ?_
    refine wl_det rfl rfl rfl (op_pick_f rfl rfl) ?_
    refine wl_det rfl rfl rfl (op_move rfl) ?_
    refine wl_wanted_det rfl rfl rfl rfl rfl rfl rfl (op_move rfl) ?_
    refine wl_wanted_det rfl rfl rfl rfl rfl rfl rfl (op_move rfl) ?_
    refine wl_wanted_det rfl rfl rfl rfl rfl rfl rfl (op_fn Try.func19 rfl rfl rfl (feas_any (Sl.lab 14 rfl (by first | (unfold maxLen; omega) | (simp [maxLen]; done))) (by assumption) (by assumption))) ?_
    refine wl_wanted_det rfl rfl rfl rfl rfl rfl rfl (op_val (v' := .bool false) (by simp [hE, hFe]) (op_eqB rfl rfl Try.underlying4)) ?_
    refine wl_det rfl rfl rfl (op_pick_f rfl rfl) ?_
    refine wl_nil ?_
    refine st_tn ?_
    refine w_cond_f (rfl) ?_
    refine w_skip ?_
    refine st_tn ?_
    refine w_seq ?_
    refine w_seq ?_
    refine w_region ?_
    refine wl_det rfl rfl rfl (op_move rfl) ?_
    refine wl_det rfl rfl rfl (op_val (v' := .bool false) (by simp [hE]) (op_not_d rfl)) ?_
    refine wl_nil ?_
    refine st_tn ?_
    refine w_cond_f (rfl) ?_
    refine w_skip ?_
    refine st_tn ?_
    refine w_seq ?_
    refine w_seq ?_
    refine w_region ?_
    refine wl_det rfl rfl rfl (op_move rfl) ?_
    refine wl_det rfl rfl rfl (op_lenT rfl tS26u (Sl.ent (Sl.lab 17 rfl (by first | (unfold maxLen; omega) | (simp [maxLen]; done))))) ?_
    refine wl_det rfl rfl rfl (op_val (v' := .bool false) (by simp; exact hC.ne) (op_eql rfl rfl)) ?_
    refine wl_det rfl rfl rfl (op_move rfl) ?_
    refine wl_wanted_det rfl rfl rfl rfl rfl rfl rfl (op_move rfl) ?_
    refine wl_wanted_det rfl rfl rfl rfl rfl rfl rfl (op_idx (i := 0) rfl rfl tS26u (Sl.ent (Sl.lab 17 rfl (by unfold maxLen; omega))) (by omega)) ?_
    refine wl_wanted_det rfl rfl rfl rfl rfl rfl rfl (op_ldx rfl tO3u (Sl.lab 17 rfl (by first | (unfold maxLen; omega) | (simp [maxLen]; done))) (by assumption) (by rfl)) ?_
    refine wl_wanted_det rfl rfl rfl rfl rfl rfl rfl (op_val (v' := .bool false) (by simp; omega) (op_lss rfl rfl)) ?_
    refine wl_det rfl rfl rfl (op_pick_f rfl rfl) ?_
    refine wl_det rfl rfl rfl (op_move rfl) ?_
    refine wl_wanted_det rfl rfl rfl rfl rfl rfl rfl (op_move rfl) ?_
    refine wl_wanted_det rfl rfl rfl rfl rfl rfl rfl (op_idx (i := 0) rfl rfl tS26u (Sl.ent (Sl.lab 17 rfl (by unfold maxLen; omega))) (by omega)) ?_
    refine wl_wanted_det rfl rfl rfl rfl rfl rfl rfl (op_ldx rfl tO3u (Sl.lab 17 rfl (by first | (unfold maxLen; omega) | (simp [maxLen]; done))) (by assumption) (by rfl)) ?_
    refine wl_wanted_det rfl rfl rfl rfl rfl rfl rfl (op_move rfl) ?_
    refine wl_wanted_det rfl rfl rfl rfl rfl rfl rfl (op_lenT rfl tS24u (Sl.ent (Sl.lab 14 rfl (by first | (unfold maxLen; omega) | (simp [maxLen]; done))))) ?_
    refine wl_wanted_det rfl rfl rfl rfl rfl rfl rfl (op_val (v' := .bool false) (by simp; omega) (op_geq rfl rfl)) ?_
    refine wl_det rfl rfl rfl (op_pick_f rfl rfl) ?_
    refine wl_nil ?_
    refine st_tn ?_
    refine w_cond_f (rfl) ?_
    refine w_skip ?_
    refine st_tn ?_
    refine w_seq ?_
    refine w_drawW (fun β => [⟨64, [], [], [], noW (_), false, [], []⟩, ⟨65, [], [], [], noW (_), false, [], []⟩, ⟨66, [], [], [], noW (_), false, [], []⟩, ⟨67, [], [], [], noW (_), false, [], []⟩, ⟨68, [3], [], [], noW (_), false, [], []⟩, ⟨69, [4], [], [], noW (_), false, [], []⟩, ⟨70, [2, 5], [], [], noW (_), false, [], []⟩, ⟨71, [6], [], [], noW (_), false, [], []⟩, ⟨72, [7], [], [], noW (_), false, [], []⟩, ⟨73, [], [], [], noW (_), false, [], []⟩, ⟨74, [], [], [], noW (_), false, [], []⟩, ⟨75, [10], [], [], noW (_), false, [], []⟩, ⟨76, [11], [], [], noW (_), false, [], []⟩, ⟨77, [9, 12], [], [], noW (_), false, [], []⟩, ⟨78, [13], [], [], noW (_), false, [], []⟩, ⟨79, [14], [], [], noW (_), false, [], []⟩, ⟨80, [0, 1, 8, 15], [], [], noW (_), false, [], []⟩, ⟨63, [16], [], [], noW (_), false, [], []⟩, ⟨81, [17], [], [], noW (_), false, [], []⟩, ⟨82, [17], [], [], noW (_), false, [], []⟩, ⟨8, [18], [], [], noW (_), false, [], []⟩]) [] [3, 4] [⟨64, [], [], false, [], []⟩, ⟨65, [], [], false, [], []⟩, ⟨66, [], [], false, [], []⟩, ⟨67, [], [], false, [], []⟩, ⟨68, [3], [], false, [], []⟩, ⟨69, [4], [], false, [], []⟩, ⟨70, [2, 5], [], false, [], []⟩, ⟨71, [6], [], false, [], []⟩, ⟨72, [7], [], false, [], []⟩, ⟨73, [], [], false, [], []⟩, ⟨74, [], [], false, [], []⟩, ⟨75, [10], [], false, [], []⟩, ⟨76, [11], [], false, [], []⟩, ⟨77, [9, 12], [], false, [], []⟩, ⟨78, [13], [], false, [], []⟩, ⟨79, [14], [], false, [], []⟩, ⟨80, [0, 1, 8, 15], [], false, [], []⟩, ⟨63, [16], [], false, [], []⟩, ⟨81, [17], [], false, [], []⟩, ⟨82, [17], [], false, [], []⟩, ⟨8, [18], [], false, [], []⟩] [[], [], [], [], [], [], [], [], [], [], [], [], [], [], [], [], [], [], [], [], []] [[], [], [], [], [], [], [], [], [], [], [], [], [], [], [], [], [], [], [], [], []] tMixu (fun _ => by rfl) (fun _ => by rfl) (by kernel_rfl) (by kernel_rfl) (by rfl) (by rfl)
        (fun β => ⟨.p rfl (by intro X; exact op_move rfl),
        ⟨.p rfl (by intro X; exact op_move rfl),
        ⟨.p rfl (by intro X; exact op_move rfl),
        ⟨.p rfl (by intro X; exact op_move rfl),
        ⟨.p rfl (by intro X; rintro _ _ ⟨rfl, rfl⟩; exact op_idx (i := 0) rfl rfl tS26u (Sl.ent (Sl.lab 17 rfl (by unfold maxLen; omega))) (by omega)),
        ⟨.p rfl (by intro X; rintro _ _ ⟨rfl, rfl⟩; exact op_ldx rfl tO3u (Sl.lab 17 rfl (by first | (unfold maxLen; omega) | (simp [maxLen]; done))) (by assumption) (by rfl)),
        ⟨.p rfl (by intro X; rintro _ _ ⟨rfl, rfl⟩ _ _ ⟨rfl, rfl⟩; exact op_idxZ rfl rfl tS24u (Sl.ent (Sl.lab 14 rfl (by first | (unfold maxLen; omega) | (simp [maxLen]; done)))) (by omega) (by omega)),
        ⟨.p rfl (by intro X; rintro _ _ ⟨rfl, rfl⟩; exact op_fieldAddr (off := 0) rfl tF34_0u),
        ⟨.p rfl (by intro X; rintro _ _ ⟨rfl, rfl⟩; exact op_ldxf rfl tO3u (Sl.lab 14 rfl (by first | (unfold maxLen; omega) | (simp [maxLen]; done))) (by assumption) (by rfl)),
        ⟨.p rfl (by intro X; exact op_move rfl),
        ⟨.p rfl (by intro X; exact op_move rfl),
        ⟨.p rfl (by intro X; rintro _ _ ⟨rfl, rfl⟩; exact op_idx (i := 0) rfl rfl tS26u (Sl.ent (Sl.lab 17 rfl (by unfold maxLen; omega))) (by omega)),
        ⟨.p rfl (by intro X; rintro _ _ ⟨rfl, rfl⟩; exact op_ldx rfl tO3u (Sl.lab 17 rfl (by first | (unfold maxLen; omega) | (simp [maxLen]; done))) (by assumption) (by rfl)),
        ⟨.p rfl (by intro X; rintro _ _ ⟨rfl, rfl⟩ _ _ ⟨rfl, rfl⟩; exact op_idxZ rfl rfl tS24u (Sl.ent (Sl.lab 14 rfl (by first | (unfold maxLen; omega) | (simp [maxLen]; done)))) (by omega) (by omega)),
        ⟨.p rfl (by intro X; rintro _ _ ⟨rfl, rfl⟩; exact op_fieldAddr (off := 0) rfl tF34_0u),
        ⟨.p rfl (by intro X; rintro _ _ ⟨rfl, rfl⟩; exact op_ldxf rfl tO3u (Sl.lab 14 rfl (by first | (unfold maxLen; omega) | (simp [maxLen]; done))) (by assumption) (by rfl)),
        ⟨.p rfl (by intro X; rintro _ _ ⟨rfl, rfl⟩ _ _ ⟨rfl, rfl⟩ _ _ ⟨rfl, rfl⟩ _ _ ⟨rfl, rfl⟩; exact op_val (v' := .tuple #[.int .i64 n0, .bool true]) (by rw [hln]; simp) (op_fn Try.func20 rfl rfl rfl (rlength_any _ _ (Sl.lab 14 rfl (by first | (unfold maxLen; omega) | (simp [maxLen]; done))) (Sl.lab 17 rfl (by first | (unfold maxLen; omega) | (simp [maxLen]; done))) (by assumption) (by omega)))),
        ⟨.p rfl (by intro X; rintro _ _ ⟨rfl, rfl⟩; exact op_move rfl),
        ⟨.p rfl (by intro X; rintro _ _ ⟨rfl, rfl⟩; exact op_extract rfl rfl),
        ⟨.p rfl (by intro X; rintro _ _ ⟨rfl, rfl⟩; exact op_extract rfl rfl),
        ⟨.p rfl (by intro X; rintro _ _ ⟨rfl, rfl⟩; exact op_assign rfl),
        trivial⟩⟩⟩⟩⟩⟩⟩⟩⟩⟩⟩⟩⟩⟩⟩⟩⟩⟩⟩⟩⟩)
        (fun β β' => ⟨fun _ => by rfl, ⟨fun _ => by rfl, ⟨fun _ => by rfl, ⟨fun _ => by rfl, ⟨fun _ => by rfl, ⟨fun _ => by rfl, ⟨fun _ => by rfl, ⟨fun _ => by rfl, ⟨fun _ => by rfl, ⟨fun _ => by rfl, ⟨fun _ => by rfl, ⟨fun _ => by rfl, ⟨fun _ => by rfl, ⟨fun _ => by rfl, ⟨fun _ => by rfl, ⟨fun _ => by rfl, ⟨fun _ => by rfl, ⟨fun _ => by rfl, ⟨fun _ => by rfl, ⟨fun _ => by rfl, ⟨fun _ => by rfl, trivial⟩⟩⟩⟩⟩⟩⟩⟩⟩⟩⟩⟩⟩⟩⟩⟩⟩⟩⟩⟩⟩) ?_
    intro β
    rintro _ _ ⟨rfl, rfl⟩ _ _ ⟨rfl, rfl⟩ _ _ ⟨rfl, rfl⟩ _ _ ⟨rfl, rfl⟩ _ _ ⟨rfl, rfl⟩ _ _ ⟨rfl, rfl⟩ _ _ ⟨rfl, rfl⟩ _ _ ⟨rfl, rfl⟩ _ _ ⟨rfl, rfl⟩ _ _ ⟨rfl, rfl⟩ _ _ ⟨rfl, rfl⟩ _ _ ⟨rfl, rfl⟩ _ _ ⟨rfl, rfl⟩ _ _ ⟨rfl, rfl⟩ _ _ ⟨rfl, rfl⟩ _ _ ⟨rfl, rfl⟩ _ _ ⟨rfl, rfl⟩ _ _ ⟨rfl, rfl⟩ _ _ ⟨rfl, rfl⟩ _ _ ⟨rfl, rfl⟩ _ _ ⟨rfl, rfl⟩
    refine wl_norm (e' := [(3, _), (4, _), (8, _), (82, _)]) (.cons rfl (.cons rfl (.cons rfl (.cons rfl (.nil _))))) (by dsimp only [cond_false, cond_true, List.nil_append, List.cons_append]) ?_
    refine wl_det rfl rfl rfl (op_assign rfl) ?_
    refine wl_nil ?_
    refine st_tn ?_
    refine w_seq ?_
    refine w_seq ?_
    refine w_region ?_
    refine wl_det rfl rfl rfl (op_assign rfl) ?_
    refine wl_nil ?_
    refine st_tn ?_
    refine w_block ?_
    refine w_loopQ (X := Nat) (fun z => 1 ≤ z ∧ z ≤ (cnfL l).length) (fun z => [(10, .int .i64 (z))]) (fun _ => []) (fun z => (cnfL l).length - z) (1) [(3, _), (4, _), (8, _), (9, _)] [(14, _), (17, _), (22, _), (23, _)] [14, 17, 22, 23] rfl (rfl) (.cons rfl (.nil _)) (.cons rfl (.cons rfl (.cons rfl (.cons rfl (.nil _))))) (by
        try dsimp only
        exact ⟨by omega, by omega⟩) ?_
    rintro i ⟨hi1, hi⟩
    refine w_norm2 (by dsimp only [List.cons_append, List.nil_append]) (by dsimp only [List.cons_append, List.nil_append]) ?_
    try dsimp only at hi1 hi ⊢
    refine w_seq ?_
    refine w_seq ?_
    refine w_region ?_
    refine wl_det rfl rfl rfl (op_move rfl) ?_
    refine wl_det rfl rfl rfl (op_move rfl) ?_
    refine wl_det rfl rfl rfl (op_lenT rfl tS26u (Sl.ent (Sl.lab 17 rfl (by first | (unfold maxLen; omega) | (simp [maxLen]; done))))) ?_
    refine wl_det rfl rfl rfl (op_lss rfl rfl) ?_
    refine wl_det rfl rfl rfl (op_move rfl) ?_
    refine wl_gsplit (t := 87) rfl (fun hg87 => ?_) (fun hg87 => ?_)
    · -- 87 is True
      obtain ⟨y, hy⟩ := getE (l := cnfL l) (i := i) (by omega)
      have hxy := hC.fst i x0 y hx0 hi1 hy
      refine wl_wanted_det rfl rfl rfl rfl rfl rfl rfl (op_move rfl) ?_
      refine wl_det rfl rfl rfl (op_pick_t rfl rfl) ?_
      refine wl_nil ?_
      refine st_tn ?_
      refine w_cond_t (rfl) ?_
      refine w_skip ?_
      refine st_tn ?_
      refine w_seq ?_
      refine w_block ?_
      refine w_seq ?_
      refine w_drawW (fun β => [⟨92, [], [], [], noW (_), false, [], []⟩, ⟨93, [], [], [], noW (_), false, [], []⟩, ⟨94, [0, 1], [], [], noW (_), false, [], []⟩, ⟨95, [2], [], [], noW (_), false, [], []⟩, ⟨96, [], [], [], noW (_), false, [], []⟩, ⟨97, [4], [], [], noW (_), false, [], []⟩, ⟨98, [5], [], [], noW (_), false, [], []⟩]) [] [4, 10] [⟨92, [], [], false, [], []⟩, ⟨93, [], [], false, [], []⟩, ⟨94, [0, 1], [], false, [], []⟩, ⟨95, [2], [], false, [], []⟩, ⟨96, [], [], false, [], []⟩, ⟨97, [4], [], false, [], []⟩, ⟨98, [5], [], false, [], []⟩] [[], [], [], [], [], [], []] [[], [], [], [], [], [], []] tMixu (fun _ => by rfl) (fun _ => by rfl) (by kernel_rfl) (by kernel_rfl) (by rfl) (by rfl)
          (fun β => ⟨.p rfl (by intro X; exact op_move rfl),
          ⟨.p rfl (by intro X; exact op_move rfl),
          ⟨.p rfl (by intro X; rintro _ _ ⟨rfl, rfl⟩ _ _ ⟨rfl, rfl⟩; exact op_idx rfl rfl tS26u (Sl.ent (Sl.lab 17 rfl (by first | (unfold maxLen; omega) | (simp [maxLen]; done)))) (by omega)),
          ⟨.p rfl (by intro X; rintro _ _ ⟨rfl, rfl⟩; exact op_ldx rfl tO3u (Sl.lab 17 rfl (by first | (unfold maxLen; omega) | (simp [maxLen]; done))) (by assumption) (by rfl)),
          ⟨.p rfl (by intro X; exact op_move rfl),
          ⟨.p rfl (by intro X; rintro _ _ ⟨rfl, rfl⟩; exact op_idx (i := 0) rfl rfl tS26u (Sl.ent (Sl.lab 17 rfl (by unfold maxLen; omega))) (by omega)),
          ⟨.p rfl (by intro X; rintro _ _ ⟨rfl, rfl⟩; exact op_ldx rfl tO3u (Sl.lab 17 rfl (by unfold maxLen; omega)) hx0 (by rfl)),
          trivial⟩⟩⟩⟩⟩⟩⟩)
          (fun β β' => ⟨fun _ => by rfl, ⟨fun _ => by rfl, ⟨fun _ => by rfl, ⟨fun _ => by rfl, ⟨fun _ => by rfl, ⟨fun _ => by rfl, ⟨fun _ => by rfl, trivial⟩⟩⟩⟩⟩⟩⟩) ?_
      intro β
      rintro _ _ ⟨rfl, rfl⟩ _ _ ⟨rfl, rfl⟩ _ _ ⟨rfl, rfl⟩ _ _ ⟨rfl, rfl⟩ _ _ ⟨rfl, rfl⟩ _ _ ⟨rfl, rfl⟩ _ _ ⟨rfl, rfl⟩
      refine wl_norm (e' := [(3, _), (4, _), (8, _), (9, _), (10, _), (95, _), (98, _)]) (.cons rfl (.cons rfl (.cons rfl (.cons rfl (.cons rfl (.cons rfl (.cons rfl (.nil _)))))))) (by dsimp only [cond_false, cond_true, List.nil_append, List.cons_append]) ?_
      refine wl_det rfl rfl rfl (op_val (v' := .bool false) (by simp; omega) (op_leq rfl rfl)) ?_
      refine wl_nil ?_
      refine st_tn ?_
      refine w_cond_f (rfl) ?_
      refine w_skip ?_
      refine st_bn ?_
      refine st_tn ?_
      refine w_region ?_
      refine wl_det rfl rfl rfl (op_move rfl) ?_
      refine wl_det rfl rfl rfl (op_add' rfl rfl (by omega)) ?_
      refine wl_det rfl rfl rfl (op_assign rfl) ?_
      refine wl_nil ?_
      refine st_roundQ (x := i) (i + 1) [14, 17, 22, 23] rfl (rfl) (.cons rfl (.nil _)) (.cons rfl (.cons rfl (.cons rfl (.cons rfl (.nil _))))) (by
          try dsimp only
          exact ⟨by omega, by omega⟩) (by
          try dsimp only
          omega) 
    · -- 87 is False
      refine wl_unwanted rfl rfl rfl rfl rfl rfl rfl rfl ?_
      refine wl_det rfl rfl rfl (op_pick_f rfl rfl) ?_
      refine wl_nil ?_
      refine st_tn ?_
      refine w_cond_f (rfl) ?_
      refine w_exit ?_
      refine st_te ?_
      refine st_te ?_
      refine st_be ?_
      refine st_tn ?_
      refine w_seq ?_
      refine w_region ?_
      refine wl_det rfl rfl rfl (op_move rfl) ?_
      refine wl_det rfl rfl rfl (op_move rfl) ?_
      refine wl_wanted_det rfl rfl rfl rfl rfl rfl rfl (op_move rfl) ?_
      refine wl_wanted_det rfl rfl rfl rfl rfl rfl rfl (op_val (v' := .bool true) (by simp; omega) (op_lss rfl rfl)) ?_
      refine wl_det rfl rfl rfl (op_pick_t rfl rfl) ?_
      refine wl_det rfl rfl rfl (op_move rfl) ?_
      refine wl_wanted_det rfl rfl rfl rfl rfl rfl rfl (op_move rfl) ?_
      refine wl_wanted_det rfl rfl rfl rfl rfl rfl rfl (op_move rfl) ?_
      refine wl_wanted_det rfl rfl rfl rfl rfl rfl rfl (op_val (v' := .bool true) (by simp; exact hC.smp) (op_fn Try.func21 rfl rfl rfl (simple_any (Sl.lab 14 rfl (by first | (unfold maxLen; omega) | (simp [maxLen]; done))) (Sl.lab 17 rfl (by first | (unfold maxLen; omega) | (simp [maxLen]; done))) (by assumption)))) ?_
      refine wl_det rfl rfl rfl (op_pick_t rfl rfl) ?_
      refine wl_det rfl rfl rfl (op_assign rfl) ?_
      refine wl_nil ?_
      refine st_tn ?_
      refine w_ret ?_
      refine st_ret (vs := [_]) [] Try.results3 ⟨rfl, trivial⟩ rfl ?_
      refine ⟨_, rfl, ?_⟩
      exact ⟨rfl, rfl⟩

end Go.Proofs.Ytgdjnjbipemdcaa
namespace Go.Proofs.Ytgdjnjbipemdcaa
open Go Go.SL Go.RowKit Go.ConM
set_option linter.unusedVariables false
set_option linter.unusedSimpArgs false
theorem tA34v : aggB Try.prog 34 3 = true := by kernel_rfl
theorem tL24_1v : zerosB Try.prog 24 34 3 1 = some [Value.int .i64 0, Value.int .i64 0, Value.int .i64 0] := by kernel_rfl
theorem tMixv : Try.prog.follows .mixedOrders = true := by kernel_rfl
theorem tO3v : oneB Try.prog 3 = true := by kernel_rfl
theorem tP24v : appB Try.prog 24 34 3 24 = true := by kernel_rfl
theorem tS24v : sliceB Try.prog 24 34 3 = true := by kernel_rfl
theorem tS26v : sliceB Try.prog 26 3 1 = true := by kernel_rfl

theorem cnf_pot {l : List Con} {o : List Int} (hC : Cnf l o) {φ : Int → Int} (h : ∀ k ∈ o, ∀ c, l[k.toNat]? = some c → φ c.t ≤ φ c.f + c.b) : False := by
  obtain ⟨x0, hx0⟩ : ∃ x0, o[0]? = some x0 := getE (List.length_pos_iff.2 hC.ne)
  obtain ⟨n, hn, hl⟩ := hC.len
  have h1 := hl x0 hx0
  unfold lenL at h1
  cases hc : chainL l o (frI l x0) with
  | none => rw [hc] at h1; simp at h1
  | some z =>
    obtain ⟨n1, q1⟩ := z
    rw [hc] at h1
    simp only at h1
    split at h1
    · rename_i hq
      simp only [Option.some.injEq] at h1
      have := chain_pot o h hc
      rw [hq] at this; omega
    · simp at h1
theorem feas_of_pot {l : List Con} {φ : Int → Int} (h : ∀ c ∈ l, φ c.t ≤ φ c.f + c.b) : Feas l := Classical.byContradiction fun hF => by
  have hE : ¬ solE l = 0 := fun e => hF ((sol_feas l).1 e)
  exact cnf_pot (cnf_spec hE) fun k _ c hc => h c (List.mem_of_getElem? hc)
theorem feas_pot {l : List Con} (h : Feas l) : ∃ φ : Int → Int, ∀ c ∈ l, φ c.t ≤ φ c.f + c.b := by
  refine ⟨fun k => (potF l k).getD 0, fun c hc => ?_⟩
  obtain ⟨x, hx⟩ := Option.isSome_iff_exists.1 (potF_lab (nodes_in c hc).1)
  obtain ⟨y, hy⟩ := Option.isSome_iff_exists.1 (potF_lab (nodes_in c hc).2)
  have := stF_holds h hc hx hy
  show (potF l c.t).getD 0 ≤ (potF l c.f).getD 0 + c.b
  rw [hx, hy]; exact this
/-- The constraints of a minimal contradiction, in order. -/
noncomputable def minC (l : List Con) : List Int := srt (cnfL l)
def someC (l : List Con) (o : List Int) : List Con := o.map fun k => l.getD k.toNat ⟨0, 0, 0⟩
theorem min_len (l : List Con) : (minC l).length ≤ l.length := by unfold minC; rw [length_srt]; exact cnf_len l
theorem min_inc {l : List Con} (h : ¬ solE l = 0) {i : Nat} {x y : Int} (hx : (minC l)[i]? = some x) (hy : (minC l)[i + 1]? = some y) : x < y := by
  have hnd : (minC l).Nodup := (srt_perm (cnfL l)).nodup_iff.2 (cnf_nod (cnf_spec h))
  have hs : (minC l).Pairwise (fun a b => decide (a ≤ b) = true) := List.pairwise_mergeSort (fun a b c h1 h2 => by simp only [decide_eq_true_eq] at *; omega) (fun a b => by simp only [Bool.or_eq_true, decide_eq_true_eq]; omega) _
  obtain ⟨a1, a2⟩ := List.getElem?_eq_some_iff.1 hx
  obtain ⟨b1, b2⟩ := List.getElem?_eq_some_iff.1 hy
  have h1 := List.pairwise_iff_getElem.1 hs i (i + 1) a1 b1 (by omega)
  have h2 := List.pairwise_iff_getElem.1 hnd i (i + 1) a1 b1 (by omega)
  rw [a2, b2] at h1 h2
  simp only [decide_eq_true_eq] at h1
  omega
theorem min_in {l : List Con} (h : ¬ solE l = 0) : ∀ x ∈ minC l, 0 ≤ x ∧ x < l.length := fun x hx => (cnf_spec h).inr x ((srt_perm _).mem_iff.1 hx)
theorem min_no {l : List Con} (h : ¬ solE l = 0) : ¬ Feas (someC l (minC l)) := fun hF => by
  obtain ⟨φ, hφ⟩ := feas_pot hF
  refine cnf_pot (cnf_spec h) (φ := φ) fun k hk c hc => hφ c ?_
  refine List.mem_map.2 ⟨k, (srt_perm _).mem_iff.2 hk, ?_⟩
  rw [List.getD_eq_getElem?_getD, hc]; rfl
def wthL {α : Type} (l : List α) (i : Nat) : List α := l.take i ++ l.drop (i + 1)
theorem min_drop {l : List Con} (h : ¬ solE l = 0) {i : Nat} (hi : i < (minC l).length) : Feas (wthL (someC l (minC l)) i) := by
  have hs : ¬ (srch l).2 < 0 := fun hh => h (by unfold solE; exact if_neg (by show ¬ 0 ≤ (srch l).2; omega))
  obtain ⟨x, hx⟩ := getE hi
  have hnd : (minC l).Nodup := (srt_perm (cnfL l)).nodup_iff.2 (cnf_nod (cnf_spec h))
  have ho : ∃ o, IsCyc l (srch l) o ∧ cnfL l = o := by
    obtain ⟨R, k0, r, c0, hI, hc0, hall⟩ := conf_back hs
    have hn0 : 0 < l.length := by have := (List.getElem?_eq_some_iff.1 hc0).1; omega
    obtain ⟨p, hp, _⟩ := per_exists (cyc_exists (idx_search (use := fun _ => true) (l := l) (fr := nodes l)) hn0 (l.getD (srch l).2.toNat ⟨0, 0, 0⟩).t (K := l.length + (nodes l).length) (by omega))
    have ho : IsCyc l (srch l) (turned (cycO l (srch l).1.B (nxN l (srch l).1.B (l.length + (nodes l).length) (l.getD (srch l).2.toNat ⟨0, 0, 0⟩).t) p).reverse) := ⟨p, hp, rfl⟩
    exact ⟨_, ho, cnf_of hs ho⟩
  obtain ⟨o, ho1, ho2⟩ := ho
  obtain ⟨φ, hφ⟩ := cnf_drop hs ho1 x (by rw [← ho2]; exact (srt_perm _).mem_iff.1 (List.mem_of_getElem? hx))
  refine feas_of_pot (φ := φ) fun c hc => ?_
  obtain ⟨j, y, hj, hy, rfl⟩ : ∃ (j : Nat) (y : Int), j ≠ i ∧ (minC l)[j]? = some y ∧ c = l.getD y.toNat ⟨0, 0, 0⟩ := by
    unfold wthL someC at hc
    rcases List.mem_append.1 hc with hc | hc
    · obtain ⟨j, hj⟩ := List.mem_iff_getElem?.1 hc
      rw [List.getElem?_take] at hj
      split at hj
      · rw [List.getElem?_map] at hj
        cases hy : (minC l)[j]? with
        | none => rw [hy] at hj; simp at hj
        | some y => rw [hy] at hj; simp only [Option.map_some, Option.some.injEq] at hj; exact ⟨j, y, by omega, hy, hj.symm⟩
      · simp at hj
    · obtain ⟨j, hj⟩ := List.mem_iff_getElem?.1 hc
      rw [List.getElem?_drop, List.getElem?_map] at hj
      cases hy : (minC l)[i + 1 + j]? with
      | none => rw [hy] at hj; simp at hj
      | some y => rw [hy] at hj; simp only [Option.map_some, Option.some.injEq] at hj; exact ⟨i + 1 + j, y, by omega, hy, hj.symm⟩
  have hyo : y ∈ o := by rw [← ho2]; exact (srt_perm _).mem_iff.1 (List.mem_of_getElem? hy)
  have hyr := min_in h y (List.mem_of_getElem? hy)
  refine hφ y hyo (fun e => ?_) _ (by rw [List.getD_eq_getElem?_getD, List.getElem?_eq_getElem (show y.toNat < l.length by omega)]; rfl)
  subst e
  obtain ⟨a1, a2⟩ := List.getElem?_eq_some_iff.1 hx
  obtain ⟨b1, b2⟩ := List.getElem?_eq_some_iff.1 hy
  rcases Nat.lt_or_gt_of_ne hj with hlt | hgt
  · exact List.pairwise_iff_getElem.1 hnd j i b1 a1 hlt (by rw [a2, b2])
  · exact List.pairwise_iff_getElem.1 hnd i j a1 b1 hgt (by rw [a2, b2])
set_option maxHeartbeats 1000000 in
set_option maxRecDepth 100000 in
theorem minimal_any {σ : World} {F : List Res} {a : Option Addr} {c : Nat} {l : List Con} (lab : Nat) (h : Sl σ F encC 3 (.slice a l.length c) l) (hl : Small l) (hb : InB l) :
    FnT Try.prog σ F 25 [.slice a l.length c] [] (fun u ρ => ∃ a c, u = .tuple #[.slice a (minC l).length c, .bool (decide (¬ solE l = 0))] ∧ ρ = [(lab, slW 3 SL.encZ 1 (.slice a (minC l).length c) (minC l))]) := by
  refine fn_of 16 Try.func25 rfl Try.ntmps25 rfl ?_
  have hle := h.i64
  have hcl := cnf_len l
  have hl2 := hl.2
  refine w_seq ?_
  refine w_region ?_
  refine wl_det rfl rfl rfl (op_assign rfl) ?_
  refine wl_det rfl rfl rfl (op_assign rfl) ?_
  refine wl_nil ?_
  refine st_tn ?_
  refine w_seq ?_
  refine w_region ?_
  refine wl_det rfl rfl rfl (op_move rfl) ?_
  refine wl_op [] rfl rfl rfl rfl (op_fn Try.func17 rfl rfl rfl (conf_any 8 (by first | exact Sl.app (by assumption) _ | exact Sl.app (Sl.app (by assumption) _) _) (by assumption) (by assumption))) ?_
  rintro _ _ ⟨a8, c8, rfl, rfl⟩
  refine wl_det rfl rfl rfl (op_move rfl) ?_
  refine wl_det rfl rfl rfl (op_extract rfl rfl) ?_
  refine wl_det rfl rfl rfl (op_extract rfl rfl) ?_
  refine wl_det rfl rfl rfl (op_assign rfl) ?_
  refine wl_det rfl rfl rfl (op_assign rfl) ?_
  refine wl_nil ?_
  refine st_tn ?_
  refine w_seq ?_
  refine w_seq ?_
  by_cases hE : solE l = 0
  · -- hE+
    have hcn := cnf_none hE
    refine w_region ?_
    refine wl_det rfl rfl rfl (op_move rfl) ?_
    refine wl_det rfl rfl rfl (op_val (v' := .bool true) (by simp [hE]) (op_not_d rfl)) ?_
    refine wl_nil ?_
    refine st_tn ?_
    refine w_cond_t (rfl) ?_
    refine w_seq ?_
    refine w_emp 77 (slO_nil 3 1) ?_
    refine w_region ?_
    refine wl_det rfl rfl rfl (op_assign rfl) ?_
    refine wl_det rfl rfl rfl (op_assign rfl) ?_
    refine wl_nil ?_
    refine st_tn ?_
    refine w_ret ?_
    refine st_tr ?_
    refine st_ret (vs := [_, _]) [77] Try.results25 ⟨rfl, ⟨rfl, trivial⟩⟩ rfl ?_
    refine ⟨[(lab, _)], rfl, ?_⟩
    have : minC l = [] := by unfold minC; rw [hcn]; simp [srt]
    rw [this]; exact ⟨none, 0, by simp [retv, hE], rfl⟩
  · -- hE-
    refine w_region ?_
    refine wl_det rfl rfl rfl (op_move rfl) ?_
    refine wl_det rfl rfl rfl (op_val (v' := .bool false) (by simp [hE]) (op_not_d rfl)) ?_
    refine wl_nil ?_
    refine st_tn ?_
    refine w_cond_f (rfl) ?_
    refine w_skip ?_
    refine st_tn ?_
    refine w_seq ?_
    refine w_region ?_
    refine wl_det rfl rfl rfl (op_move rfl) ?_
    refine wl_op [8] rfl rfl rfl rfl (op_fn Try.func54 rfl rfl rfl (sort_any 8 (by omega))) ?_
    rintro _ _ ⟨rfl, rfl⟩
    refine wl_nil ?_
    refine st_tn ?_
    refine w_seq ?_
    refine w_region ?_
    refine wl_det rfl rfl rfl (op_move rfl) ?_
    refine wl_det rfl rfl rfl (op_assign rfl) ?_
    refine wl_det rfl rfl rfl (op_assign rfl) ?_
    refine wl_nil ?_
    refine st_tn ?_
    refine w_ret ?_
    refine st_ret (vs := [_, _]) [8] Try.results25 ⟨rfl, ⟨rfl, trivial⟩⟩ rfl ?_
    refine ⟨[(lab, _)], rfl, ?_⟩
    have hln : (minC l).length = (cnfL l).length := by unfold minC; exact length_srt _
    rw [hln]; exact ⟨a8, c8, by simp [retv, hE], rfl⟩

set_option maxHeartbeats 1000000 in
set_option maxRecDepth 100000 in
theorem without_any {σ : World} {F : List Res} {a : Option Addr} {c : Nat} {l : List Con} (lab : Nat) (i : Nat) (h : Sl σ F encC 3 (.slice a l.length c) l) (hi : i < l.length) (hl : l.length ≤ 1048576) :
    FnT Try.prog σ F 26 [.slice a l.length c, .int .i64 i] [] (fun u ρ => ∃ a c, u = .slice a (wthL l i).length c ∧ ρ = [(lab, slW 34 encC 3 (.slice a (wthL l i).length c) (wthL l i))]) := by
  refine fn_of 15 Try.func26 rfl Try.ntmps26 rfl ?_
  refine w_seq ?_
  refine w_region ?_
  refine wl_det rfl rfl rfl (op_assign rfl) ?_
  refine wl_nil ?_
  refine st_tn ?_
  refine w_seq ?_
  refine w_drawW (fun β => [⟨5, [], [], [], fun w => DetW _ _, true, [], []⟩, ⟨6, [], [], [], noW (_), false, [], []⟩, ⟨7, [], [], [], noW (_), false, [], []⟩, ⟨8, [1, 2], [], [], noW (_), false, [], []⟩, ⟨9, [3], [0], [], fun w => DetW _ _, false, [], []⟩, ⟨10, [], [], [], noW (_), false, [], []⟩, ⟨11, [], [], [], noW (_), false, [], []⟩, ⟨12, [6], [], [], noW (_), false, [], []⟩, ⟨13, [5, 7], [], [], noW (_), false, [], []⟩]) [] [0, 1] [⟨5, [], [], true, [], []⟩, ⟨6, [], [], false, [], []⟩, ⟨7, [], [], false, [], []⟩, ⟨8, [1, 2], [], false, [], []⟩, ⟨9, [3], [0], false, [], []⟩, ⟨10, [], [], false, [], []⟩, ⟨11, [], [], false, [], []⟩, ⟨12, [6], [], false, [], []⟩, ⟨13, [5, 7], [], false, [], []⟩] [[], [], [], [], [0], [], [], [], []] [[], [], [], [], [], [], [], [], []] tMixv (fun _ => by rfl) (fun _ => by rfl) (by kernel_rfl) (by kernel_rfl) (by rfl) (by rfl)
      (fun β => ⟨.px rfl (by intro X; refine OpT.mono (op_lit0 (enc := encC) (lab := 5) tS24v) ?_; rintro _ _ ⟨a5, c5, rfl, rfl⟩; obtain ⟨w, rfl, rfl⟩ : ∃ w : Wt, w.a = a5 ∧ w.c = c5 := ⟨{ a := a5, c := c5 }, rfl, rfl⟩; exact ⟨w, rfl, rfl⟩),
      ⟨.p rfl (by intro X; exact op_move rfl),
      ⟨.p rfl (by intro X; exact op_move rfl),
      ⟨.p rfl (by intro X; rintro _ _ ⟨rfl, rfl⟩ _ _ ⟨rfl, rfl⟩; exact op_sliceR rfl rfl tS24v (Sl.app (Sl.app h X) _) (by omega)),
      ⟨.px rfl (by intro X; rintro _ _ ⟨rfl, rfl⟩ _ _ ⟨rfl, rfl⟩; show OpT _ _ _ _ _ _ [(_, _)] _; refine OpT.mono (op_append (lab := 5) (lab' := 9) rfl rfl tP24v enc1C (by first | exact Sl.takeR (Sl.app (Sl.app h X) _) (Nat.le_of_lt hi) | exact Sl.takeR (Sl.app h _) (Nat.le_of_lt hi)) (by simp; omega) (by simp; omega)) ?_; rintro _ _ ⟨a9, c9, rfl, rfl⟩; obtain ⟨w, rfl, rfl⟩ : ∃ w : Wt, w.a = a9 ∧ w.c = c9 := ⟨{ a := a9, c := c9 }, rfl, rfl⟩; exact ⟨w, rfl, rfl⟩),
      ⟨.p rfl (by intro X; exact op_move rfl),
      ⟨.p rfl (by intro X; exact op_move rfl),
      ⟨.p rfl (by intro X; rintro _ _ ⟨rfl, rfl⟩; exact op_val (v' := .int .i64 ((i + 1 : Nat) : Int)) (by rfl) (op_add' rfl rfl (by omega))),
      ⟨.p rfl (by intro X; rintro _ _ ⟨rfl, rfl⟩ _ _ ⟨rfl, rfl⟩; exact op_sliceL rfl rfl tS24v (Sl.app (Sl.app h X) _) (by omega)),
      trivial⟩⟩⟩⟩⟩⟩⟩⟩⟩)
      (fun β β' => ⟨fun _ => by rfl, ⟨fun _ => by rfl, ⟨fun _ => by rfl, ⟨fun _ => by rfl, ⟨fun h => by first | rfl | (simp only [h 0 (by decide)]), ⟨fun _ => by rfl, ⟨fun _ => by rfl, ⟨fun _ => by rfl, ⟨fun _ => by rfl, trivial⟩⟩⟩⟩⟩⟩⟩⟩⟩) ?_
  intro β
  rintro _ _ ⟨rfl, rfl⟩ _ _ ⟨rfl, rfl⟩ _ _ ⟨rfl, rfl⟩ _ _ ⟨rfl, rfl⟩ _ _ ⟨rfl, rfl⟩ _ _ ⟨rfl, rfl⟩ _ _ ⟨rfl, rfl⟩ _ _ ⟨rfl, rfl⟩ _ _ ⟨rfl, rfl⟩
  generalize (β 0).a = a5
  generalize (β 0).c = c5
  generalize (β 4).a = a9
  generalize (β 4).c = c9
  refine wl_norm (e' := [(9, _), (13, _)]) (.cons rfl (.cons rfl (.nil _))) (by dsimp only [cond_false, cond_true, List.nil_append, List.cons_append]) ?_
  refine wl_op [9] rfl rfl rfl rfl (op_append (lab := 9) (lab' := 14) rfl rfl tP24v enc1C (by first | exact Sl.dropL (Sl.app (Sl.app h X) _) hi | exact Sl.dropL (Sl.app h _) hi) (by simp; omega) (by simp; omega)) ?_
  rintro _ _ ⟨a14, c14, rfl, rfl⟩
  refine wl_det rfl rfl rfl (op_assign rfl) ?_
  refine wl_nil ?_
  refine st_tn ?_
  refine w_ret ?_
  refine st_ret (vs := [_]) [14] Try.results26 ⟨rfl, trivial⟩ rfl ?_
  refine ⟨[(lab, _)], rfl, ?_⟩
  exact ⟨_, _, rfl, rfl⟩

theorem some_snoc {l : List Con} {o : List Int} {i : Nat} {k : Int} {e : Con} (hk : o[i]? = some k) (he : l[k.toNat]? = some e) : someC l (o.take (i + 1)) = someC l (o.take i) ++ [e] := by
  rw [take_snoc hk]; unfold someC; rw [List.map_append, List.map_singleton, List.getD_eq_getElem?_getD, he]; rfl
theorem some_len (l : List Con) (o : List Int) : (someC l o).length = o.length := by simp [someC]
theorem mem_some {l : List Con} {o : List Int} (hr : ∀ x ∈ o, 0 ≤ x ∧ x < l.length) : ∀ c ∈ someC l o, c ∈ l := fun c hc => by
  obtain ⟨k, hk, rfl⟩ := List.mem_map.1 hc
  have := hr k hk
  rw [List.getD_eq_getElem?_getD, List.getElem?_eq_getElem (show k.toNat < l.length by omega)]
  exact List.getElem_mem _
theorem mem_wth {α : Type} {l : List α} {i : Nat} {x : α} (h : x ∈ wthL l i) : x ∈ l := by
  rcases List.mem_append.1 h with h | h
  · exact List.mem_of_mem_take h
  · exact List.mem_of_mem_drop h
theorem wth_len {α : Type} (l : List α) (i : Nat) : (wthL l i).length ≤ l.length := by
  unfold wthL; rw [List.length_append, List.length_take, List.length_drop]; omega
set_option maxHeartbeats 4000000 in
set_option maxRecDepth 100000 in
theorem lawMinimal_any {σ : World} {F : List Res} {a : Option Addr} {c : Nat} {s : List Arc} (h : Sl σ F encA 3 (.slice a s.length c) s) (hs : OkA s) :
    FnT Try.prog σ F 6 [.slice a s.length c] [] (fun u ρ => u = .bool true ∧ ρ = []) := by
  refine fn_of 87 Try.func6 rfl Try.ntmps6 rfl ?_
  have hle := h.i64
  obtain ⟨hfew, hsm, hin, hno, hbn⟩ := sys_ok hs
  obtain ⟨l, hl⟩ : ∃ l, l = sysL s := ⟨_, rfl⟩
  rw [← hl] at hfew hsm hin hno hbn
  have hml := min_len l
  refine w_seq ?_
  refine w_region ?_
  refine wl_det rfl rfl rfl (op_assign rfl) ?_
  refine wl_nil ?_
  refine st_tn ?_
  refine w_seq ?_
  refine w_seq ?_
  refine w_region ?_
  refine wl_det rfl rfl rfl (op_fn Try.func15 rfl rfl rfl (known_any)) ?_
  refine wl_det rfl rfl rfl (op_not_t rfl) ?_
  refine wl_nil ?_
  refine st_tn ?_
  refine w_cond_f (rfl) ?_
  refine w_skip ?_
  refine st_tn ?_
  refine w_seq ?_
  refine w_region ?_
  refine wl_det rfl rfl rfl (op_move rfl) ?_
  refine wl_op [] rfl rfl rfl rfl (op_fn Try.func16 rfl rfl rfl (sys_any 12 (by first | exact Sl.app (by assumption) _ | exact Sl.app (Sl.app (by assumption) _) _) (by assumption))) ?_
  rintro _ _ ⟨a12, c12, rfl, rfl⟩
  refine wl_det rfl rfl rfl (op_assign rfl) ?_
  refine wl_nil ?_
  refine st_tn ?_
  refine w_seq ?_
  rw [← hl]
  have hnl := len_nodes l
  have hsf := sol_feas l
  refine w_region ?_
  refine wl_det rfl rfl rfl (op_move rfl) ?_
  refine wl_op [] rfl rfl rfl rfl (op_fn Try.func25 rfl rfl rfl (minimal_any 15 (Sl.lab 12 rfl (by first | (unfold maxLen; omega) | (simp [maxLen]; done))) (by assumption) (by assumption))) ?_
  rintro _ _ ⟨a15, c15, rfl, rfl⟩
  refine wl_det rfl rfl rfl (op_move rfl) ?_
  refine wl_det rfl rfl rfl (op_extract rfl rfl) ?_
  refine wl_det rfl rfl rfl (op_extract rfl rfl) ?_
  refine wl_det rfl rfl rfl (op_assign rfl) ?_
  refine wl_det rfl rfl rfl (op_assign rfl) ?_
  refine wl_nil ?_
  refine st_tn ?_
  refine w_seq ?_
  refine w_seq ?_
  by_cases hE : solE l = 0
  · -- hE+
    have hFe := hsf.1 hE
    have hc0 : minC l = [] := by unfold minC; rw [cnf_none hE]; simp [srt]
    have hl0 : (minC l).length = 0 := by rw [hc0]; rfl
    have hinr : ∀ x ∈ minC l, 0 ≤ x ∧ x < l.length := by rw [hc0]; simp
    refine w_region ?_
    refine wl_det rfl rfl rfl (op_move rfl) ?_
    refine wl_det rfl rfl rfl (op_move rfl) ?_
    refine wl_det rfl rfl rfl (op_fn Try.func19 rfl rfl rfl (feas_any (Sl.lab 12 rfl (by first | (unfold maxLen; omega) | (simp [maxLen]; done))) (by assumption) (by assumption))) ?_
    refine wl_det rfl rfl rfl (op_val (v' := .bool false) (by simp [hE, hFe]) (op_eqB rfl rfl Try.underlying4)) ?_
    refine wl_nil ?_
    refine st_tn ?_
    refine w_cond_f (rfl) ?_
    refine w_skip ?_
    refine st_tn ?_
    refine w_seq ?_
    refine w_region ?_
    refine wl_det rfl rfl rfl (op_assign rfl) ?_
    refine wl_nil ?_
    refine st_tn ?_
    refine w_seq ?_
    refine w_seq ?_
    refine w_region ?_
    refine wl_det rfl rfl rfl (op_assign rfl) ?_
    refine wl_nil ?_
    refine st_tn ?_
    refine w_block ?_
    refine w_emp 6 (slO_nil 34 3) ?_
    refine w_loopQ (X := List Con × Option Addr × Nat × Nat) (fun z => z.2.2.2 ≤ (minC l).length ∧ z.1 = someC l ((minC l).take z.2.2.2)) (fun z => [(6, .slice (z.2.1) (z.1).length (z.2.2.1)), (7, .int .i64 (z.2.2.2))]) (fun z => [(6, slW 34 encC 3 (.slice (z.2.1) (z.1).length (z.2.2.1)) (z.1))]) (fun z => (minC l).length - z.2.2.2) (([], none, 0, 0)) [(3, _), (4, _), (5, _)] [(12, _), (15, _)] [6, 12, 15] rfl (rfl) (.cons rfl (.cons rfl (.nil _))) (.cons rfl (.cons rfl (.cons rfl (.nil _)))) (by
        try dsimp only
        exact ⟨Nat.zero_le _, by simp [someC]⟩) ?_
    rintro ⟨M, a_M, c_M, i⟩ ⟨hi, hM⟩
    refine w_norm2 (by dsimp only [List.cons_append, List.nil_append]) (by dsimp only [List.cons_append, List.nil_append]) ?_
    try dsimp only at hi hM ⊢
    refine w_seq ?_
    refine w_seq ?_
    refine w_region ?_
    refine wl_det rfl rfl rfl (op_move rfl) ?_
    refine wl_det rfl rfl rfl (op_move rfl) ?_
    refine wl_det rfl rfl rfl (op_lenT rfl tS26v (Sl.ent (Sl.lab 15 rfl (by first | (unfold maxLen; omega) | (simp [maxLen]; done))))) ?_
    refine wl_det rfl rfl rfl (op_lss rfl rfl) ?_
    refine wl_nil ?_
    refine st_tn ?_
    refine w_cond_d rfl (fun hc25 => ?_) (fun hc25 => ?_)
    · -- c25.t
      obtain ⟨k, hk⟩ := getE (l := minC l) (i := i) (by omega)
      have hlt := ltE hk
      have hkr := hinr k (List.mem_of_getElem? hk)
      obtain ⟨e, he⟩ := getE (l := l) (i := k.toNat) (by omega)
      have hMl : M.length = i := by rw [hM, some_len, List.length_take]; omega
      refine w_skip ?_
      refine st_tn ?_
      refine w_seq ?_
      refine w_block ?_
      refine w_seq ?_
      refine w_seq ?_
      by_cases h0 : (i : Int) > 0
      · -- h0+
        obtain ⟨k0, hk0⟩ := getE (l := minC l) (i := i - 1) (by omega)
        have hinc : k0 < k := min_inc (by first | exact hE | (exfalso; omega)) hk0 (by rw [show i - 1 + 1 = i by omega]; exact hk)
        refine w_drawW (fun β => (⟨28, [], [], [], noW (_), false, [], []⟩ :: ⟨29, [], [], [], noW (_), false, [], []⟩ :: ⟨30, [0, 1], [], [], noW (_), false, [], []⟩ :: ⟨31, [2], [], [], noW (_), false, [], []⟩ :: ⟨32, [3], [], [], noW (_), false, [], []⟩ :: ⟨33, [4], [], [], noW (_), false, [], []⟩ :: ⟨34, [], [], [], noW (_), false, [], []⟩ :: ⟨35, [], [], [], noW (_), false, [], []⟩ :: ⟨36, [6, 7], [], [], noW (_), false, [], []⟩ :: ⟨37, [8], [], [], noW (_), false, [], []⟩ :: ⟨38, [], [], [], noW (_), false, [], []⟩ :: ⟨39, [10], [], [], noW (_), false, [], []⟩ :: ⟨40, [9, 11], [], [], noW (_), false, [], []⟩ :: ⟨41, [5, 12], [], [], noW (_), false, [], []⟩ :: ⟨42, [13], [], [], noW (_), false, [], []⟩ :: ⟨43, [], [], [], noW (_), false, [], []⟩ :: ⟨44, [15], [], [], noW (_), false, [], []⟩ :: ⟨45, [16], [], [], noW (_), false, [], []⟩ :: ⟨46, [], [], [], noW (_), false, [], []⟩ :: ⟨47, [], [], [], noW (_), false, [], []⟩ :: ⟨48, [18, 19], [], [], noW (_), false, [], []⟩ :: ⟨49, [20], [], [], noW (_), false, [], []⟩ :: ⟨50, [], [], [], noW (_), false, [], []⟩ :: ⟨51, [], [], [], noW (_), false, [], []⟩ :: ⟨52, [23], [], [], noW (_), false, [], []⟩ :: ⟨53, [22, 24], [], [], noW (_), false, [], []⟩ :: ⟨54, [25], [], [], noW (_), false, [], []⟩ :: ⟨55, [21, 26], [], [], noW (_), false, [], []⟩ :: ⟨56, [17, 27], [], [], noW (_), false, [], []⟩ :: ⟨57, [14, 28], [], [], noW (_), false, [], []⟩ :: [])) [] [4, 7, 3] (⟨28, [], [], false, [], []⟩ :: ⟨29, [], [], false, [], []⟩ :: ⟨30, [0, 1], [], false, [], []⟩ :: ⟨31, [2], [], false, [], []⟩ :: ⟨32, [3], [], false, [], []⟩ :: ⟨33, [4], [], false, [], []⟩ :: ⟨34, [], [], false, [], []⟩ :: ⟨35, [], [], false, [], []⟩ :: ⟨36, [6, 7], [], false, [], []⟩ :: ⟨37, [8], [], false, [], []⟩ :: ⟨38, [], [], false, [], []⟩ :: ⟨39, [10], [], false, [], []⟩ :: ⟨40, [9, 11], [], false, [], []⟩ :: ⟨41, [5, 12], [], false, [], []⟩ :: ⟨42, [13], [], false, [], []⟩ :: ⟨43, [], [], false, [], []⟩ :: ⟨44, [15], [], false, [], []⟩ :: ⟨45, [16], [], false, [], []⟩ :: ⟨46, [], [], false, [], []⟩ :: ⟨47, [], [], false, [], []⟩ :: ⟨48, [18, 19], [], false, [], []⟩ :: ⟨49, [20], [], false, [], []⟩ :: ⟨50, [], [], false, [], []⟩ :: ⟨51, [], [], false, [], []⟩ :: ⟨52, [23], [], false, [], []⟩ :: ⟨53, [22, 24], [], false, [], []⟩ :: ⟨54, [25], [], false, [], []⟩ :: ⟨55, [21, 26], [], false, [], []⟩ :: ⟨56, [17, 27], [], false, [], []⟩ :: ⟨57, [14, 28], [], false, [], []⟩ :: []) ([] :: [] :: [] :: [] :: [] :: [] :: [] :: [] :: [] :: [] :: [] :: [] :: [] :: [] :: [] :: [] :: [] :: [] :: [] :: [] :: [] :: [] :: [] :: [] :: [] :: [] :: [] :: [] :: [] :: [] :: []) ([] :: [] :: [] :: [] :: [] :: [] :: [] :: [] :: [] :: [] :: [] :: [] :: [] :: [] :: [] :: [] :: [] :: [] :: [] :: [] :: [] :: [] :: [] :: [] :: [] :: [] :: [] :: [] :: [] :: [] :: []) tMixv (fun _ => by rfl) (fun _ => by rfl) (by kernel_rfl) (by kernel_rfl) (by rfl) (by rfl)
            (fun β => ⟨.p rfl (by intro X; exact op_move rfl),
            ⟨.p rfl (by intro X; exact op_move rfl),
            ⟨.p rfl (by intro X; rintro _ _ ⟨rfl, rfl⟩ _ _ ⟨rfl, rfl⟩; exact op_idx rfl rfl tS26v (Sl.ent (Sl.lab 15 rfl (by first | (unfold maxLen; omega) | (simp [maxLen]; done)))) (by omega)),
            ⟨.p rfl (by intro X; rintro _ _ ⟨rfl, rfl⟩; exact op_ldx rfl tO3v (Sl.lab 15 rfl (by first | (unfold maxLen; omega) | (simp [maxLen]; done))) (by assumption) (by rfl)),
            ⟨.p rfl (by intro X; rintro _ _ ⟨rfl, rfl⟩; exact op_val (v' := .bool false) (by simp; omega) (op_lss rfl rfl)),
            ⟨.p rfl (by intro X; rintro _ _ ⟨rfl, rfl⟩; exact op_move rfl),
            ⟨.w rfl rfl rfl (by rintro _ _ ⟨rfl, rfl⟩; rfl) (by intro X; exact op_move rfl),
            ⟨.w rfl rfl rfl (by rintro _ _ ⟨rfl, rfl⟩; rfl) (by intro X; exact op_move rfl),
            ⟨.w rfl rfl rfl (by rintro _ _ ⟨rfl, rfl⟩; rfl) (by intro X; rintro _ _ ⟨rfl, rfl⟩ _ _ ⟨rfl, rfl⟩; exact op_idx rfl rfl tS26v (Sl.ent (Sl.lab 15 rfl (by first | (unfold maxLen; omega) | (simp [maxLen]; done)))) (by omega)),
            ⟨.w rfl rfl rfl (by rintro _ _ ⟨rfl, rfl⟩; rfl) (by intro X; rintro _ _ ⟨rfl, rfl⟩; exact op_ldx rfl tO3v (Sl.lab 15 rfl (by first | (unfold maxLen; omega) | (simp [maxLen]; done))) (by assumption) (by rfl)),
            ⟨.w rfl rfl rfl (by rintro _ _ ⟨rfl, rfl⟩; rfl) (by intro X; exact op_move rfl),
            ⟨.w rfl rfl rfl (by rintro _ _ ⟨rfl, rfl⟩; rfl) (by intro X; rintro _ _ ⟨rfl, rfl⟩; exact op_lenT rfl tS24v (Sl.ent (Sl.lab 12 rfl (by first | (unfold maxLen; omega) | (simp [maxLen]; done))))),
            ⟨.w rfl rfl rfl (by rintro _ _ ⟨rfl, rfl⟩; rfl) (by intro X; rintro _ _ ⟨rfl, rfl⟩ _ _ ⟨rfl, rfl⟩; exact op_val (v' := .bool false) (by simp; omega) (op_geq rfl rfl)),
            ⟨.p rfl (by intro X; rintro _ _ ⟨rfl, rfl⟩ _ _ ⟨rfl, rfl⟩; exact op_pick_f rfl rfl),
            ⟨.p rfl (by intro X; rintro _ _ ⟨rfl, rfl⟩; exact op_move rfl),
            ⟨.w rfl rfl rfl (by rintro _ _ ⟨rfl, rfl⟩; rfl) (by intro X; exact op_move rfl),
            ⟨.w rfl rfl rfl (by rintro _ _ ⟨rfl, rfl⟩; rfl) (by intro X; rintro _ _ ⟨rfl, rfl⟩; exact op_val (v' := .bool true) (by simp; omega) (op_gtr rfl rfl)),
            ⟨.w rfl rfl rfl (by rintro _ _ ⟨rfl, rfl⟩; rfl) (by intro X; rintro _ _ ⟨rfl, rfl⟩; exact op_move rfl),
            ⟨.w rfl rfl rfl (by rintro _ _ ⟨rfl, rfl⟩; rfl) (by intro X; exact op_move rfl),
            ⟨.w rfl rfl rfl (by rintro _ _ ⟨rfl, rfl⟩; rfl) (by intro X; exact op_move rfl),
            ⟨.w rfl rfl rfl (by rintro _ _ ⟨rfl, rfl⟩; rfl) (by intro X; rintro _ _ ⟨rfl, rfl⟩ _ _ ⟨rfl, rfl⟩; exact op_idx rfl rfl tS26v (Sl.ent (Sl.lab 15 rfl (by first | (unfold maxLen; omega) | (simp [maxLen]; done)))) (by omega)),
            ⟨.w rfl rfl rfl (by rintro _ _ ⟨rfl, rfl⟩; rfl) (by intro X; rintro _ _ ⟨rfl, rfl⟩; exact op_ldx rfl tO3v (Sl.lab 15 rfl (by first | (unfold maxLen; omega) | (simp [maxLen]; done))) (by assumption) (by rfl)),
            ⟨.w rfl rfl rfl (by rintro _ _ ⟨rfl, rfl⟩; rfl) (by intro X; exact op_move rfl),
            ⟨.w rfl rfl rfl (by rintro _ _ ⟨rfl, rfl⟩; rfl) (by intro X; exact op_move rfl),
            ⟨.w rfl rfl rfl (by rintro _ _ ⟨rfl, rfl⟩; rfl) (by intro X; rintro _ _ ⟨rfl, rfl⟩; exact op_val (v' := .int .i64 ((i - 1 : Nat) : Int)) (by congr 1; omega) (op_sub' rfl rfl (by omega))),
            ⟨.w rfl rfl rfl (by rintro _ _ ⟨rfl, rfl⟩; rfl) (by intro X; rintro _ _ ⟨rfl, rfl⟩ _ _ ⟨rfl, rfl⟩; exact op_idx rfl rfl tS26v (Sl.ent (Sl.lab 15 rfl (by unfold maxLen; omega))) (by omega)),
            ⟨.w rfl rfl rfl (by rintro _ _ ⟨rfl, rfl⟩; rfl) (by intro X; rintro _ _ ⟨rfl, rfl⟩; exact op_ldx rfl tO3v (Sl.lab 15 rfl (by first | (unfold maxLen; omega) | (simp [maxLen]; done))) (by assumption) (by rfl)),
            ⟨.w rfl rfl rfl (by rintro _ _ ⟨rfl, rfl⟩; rfl) (by intro X; rintro _ _ ⟨rfl, rfl⟩ _ _ ⟨rfl, rfl⟩; exact op_val (v' := .bool false) (by simp; omega) (op_leq rfl rfl)),
            ⟨.w rfl rfl rfl (by rintro _ _ ⟨rfl, rfl⟩; rfl) (by intro X; rintro _ _ ⟨rfl, rfl⟩ _ _ ⟨rfl, rfl⟩; exact op_pick_t rfl rfl),
            ⟨.p rfl (by intro X; rintro _ _ ⟨rfl, rfl⟩ _ _ ⟨rfl, rfl⟩; exact op_pick_f rfl rfl),
            trivial⟩⟩⟩⟩⟩⟩⟩⟩⟩⟩⟩⟩⟩⟩⟩⟩⟩⟩⟩⟩⟩⟩⟩⟩⟩⟩⟩⟩⟩⟩)
            (fun β β' => ⟨fun _ => by rfl, ⟨fun _ => by rfl, ⟨fun _ => by rfl, ⟨fun _ => by rfl, ⟨fun _ => by rfl, ⟨fun _ => by rfl, ⟨fun _ => by rfl, ⟨fun _ => by rfl, ⟨fun _ => by rfl, ⟨fun _ => by rfl, ⟨fun _ => by rfl, ⟨fun _ => by rfl, ⟨fun _ => by rfl, ⟨fun _ => by rfl, ⟨fun _ => by rfl, ⟨fun _ => by rfl, ⟨fun _ => by rfl, ⟨fun _ => by rfl, ⟨fun _ => by rfl, ⟨fun _ => by rfl, ⟨fun _ => by rfl, ⟨fun _ => by rfl, ⟨fun _ => by rfl, ⟨fun _ => by rfl, ⟨fun _ => by rfl, ⟨fun _ => by rfl, ⟨fun _ => by rfl, ⟨fun _ => by rfl, ⟨fun _ => by rfl, ⟨fun _ => by rfl, trivial⟩⟩⟩⟩⟩⟩⟩⟩⟩⟩⟩⟩⟩⟩⟩⟩⟩⟩⟩⟩⟩⟩⟩⟩⟩⟩⟩⟩⟩⟩) ?_
        intro β
        rintro _ _ ⟨rfl, rfl⟩ _ _ ⟨rfl, rfl⟩ _ _ ⟨rfl, rfl⟩ _ _ ⟨rfl, rfl⟩ _ _ ⟨rfl, rfl⟩ _ _ ⟨rfl, rfl⟩ _ _ ⟨rfl, rfl⟩ _ _ ⟨rfl, rfl⟩ _ _ ⟨rfl, rfl⟩ _ _ ⟨rfl, rfl⟩ _ _ ⟨rfl, rfl⟩ _ _ ⟨rfl, rfl⟩ _ _ ⟨rfl, rfl⟩ _ _ ⟨rfl, rfl⟩ _ _ ⟨rfl, rfl⟩ _ _ ⟨rfl, rfl⟩ _ _ ⟨rfl, rfl⟩ _ _ ⟨rfl, rfl⟩ _ _ ⟨rfl, rfl⟩ _ _ ⟨rfl, rfl⟩ _ _ ⟨rfl, rfl⟩ _ _ ⟨rfl, rfl⟩ _ _ ⟨rfl, rfl⟩ _ _ ⟨rfl, rfl⟩ _ _ ⟨rfl, rfl⟩ _ _ ⟨rfl, rfl⟩ _ _ ⟨rfl, rfl⟩ _ _ ⟨rfl, rfl⟩ _ _ ⟨rfl, rfl⟩ _ _ ⟨rfl, rfl⟩
        refine wl_norm (e' := [(3, _), (4, _), (5, _), (6, _), (7, _), (57, _)]) (.cons rfl (.cons rfl (.cons rfl (.cons rfl (.cons rfl (.cons rfl (.nil _))))))) (by dsimp only [cond_false, cond_true, List.nil_append, List.cons_append]) ?_
        refine wl_nil ?_
        refine st_tn ?_
        refine w_cond_f (rfl) ?_
        refine w_skip ?_
        refine st_tn ?_
        refine w_region ?_
        refine wl_det rfl rfl rfl (op_move rfl) ?_
        refine wl_det rfl rfl rfl (op_move rfl) ?_
        refine wl_det rfl rfl rfl (op_move rfl) ?_
        refine wl_det rfl rfl rfl (op_move rfl) ?_
        refine wl_det rfl rfl rfl (op_idx rfl rfl tS26v (Sl.ent (Sl.lab 15 rfl (by unfold maxLen; omega))) (by omega)) ?_
        refine wl_det rfl rfl rfl (op_ldx rfl tO3v (Sl.lab 15 rfl (by unfold maxLen; omega)) (by assumption) (by rfl)) ?_
        refine wl_det rfl rfl rfl (op_idxZ rfl rfl tS24v (Sl.ent (Sl.lab 12 rfl (by first | (unfold maxLen; omega) | (simp [maxLen]; done)))) (by omega) (by omega)) ?_
        refine wl_det rfl rfl rfl (op_ldxA rfl tA34v (Sl.lab 12 rfl (by first | (unfold maxLen; omega) | (simp [maxLen]; done))) (by assumption) (by rfl) (by rfl)) ?_
        refine wl_op [] rfl rfl rfl rfl (op_buildSlice (enc := encC) (l := [e]) (lab := 66) tL24_1v rfl rfl (fun _ => rfl) rfl) ?_
        rintro _ _ ⟨a66, c66, rfl, rfl⟩
        refine wl_op [6] rfl rfl rfl rfl (op_append (lab := 6) (lab' := 67) rfl rfl tP24v enc1C (Sl.lab 66 rfl (by simp [maxLen])) (by simp; omega) (by simp; omega)) ?_
        rintro _ _ ⟨a67, c67, rfl, rfl⟩
        refine wl_det rfl rfl rfl (op_assign rfl) ?_
        refine wl_nil ?_
        refine st_bn ?_
        refine st_tn ?_
        refine w_region ?_
        refine wl_det rfl rfl rfl (op_move rfl) ?_
        refine wl_det rfl rfl rfl (op_add' rfl rfl (by omega)) ?_
        refine wl_det rfl rfl rfl (op_assign rfl) ?_
        refine wl_nil ?_
        refine st_roundQ (x := (M, a_M, c_M, i)) ((M ++ [e], _, _, i + 1)) [67, 12, 15] rfl (rfl) (.cons rfl (.cons rfl (.nil _))) (.cons rfl (.cons rfl (.cons rfl (.nil _)))) (by
            try dsimp only
            exact ⟨by omega, by rw [some_snoc hk he, hM]⟩) (by
            try dsimp only
            omega) 
      · -- h0-
        refine w_drawW (fun β => (⟨28, [], [], [], noW (_), false, [], []⟩ :: ⟨29, [], [], [], noW (_), false, [], []⟩ :: ⟨30, [0, 1], [], [], noW (_), false, [], []⟩ :: ⟨31, [2], [], [], noW (_), false, [], []⟩ :: ⟨32, [3], [], [], noW (_), false, [], []⟩ :: ⟨33, [4], [], [], noW (_), false, [], []⟩ :: ⟨34, [], [], [], noW (_), false, [], []⟩ :: ⟨35, [], [], [], noW (_), false, [], []⟩ :: ⟨36, [6, 7], [], [], noW (_), false, [], []⟩ :: ⟨37, [8], [], [], noW (_), false, [], []⟩ :: ⟨38, [], [], [], noW (_), false, [], []⟩ :: ⟨39, [10], [], [], noW (_), false, [], []⟩ :: ⟨40, [9, 11], [], [], noW (_), false, [], []⟩ :: ⟨41, [5, 12], [], [], noW (_), false, [], []⟩ :: ⟨42, [13], [], [], noW (_), false, [], []⟩ :: ⟨43, [], [], [], noW (_), false, [], []⟩ :: ⟨44, [15], [], [], noW (_), false, [], []⟩ :: ⟨45, [16], [], [], noW (_), false, [], []⟩ :: ⟨46, [], [], [], noW (Det undef), false, [], []⟩ :: ⟨47, [], [], [], noW (Det undef), false, [], []⟩ :: ⟨48, [], [], [], noW (Det undef), false, [], []⟩ :: ⟨49, [], [], [], noW (Det undef), false, [], []⟩ :: ⟨50, [], [], [], noW (Det undef), false, [], []⟩ :: ⟨51, [], [], [], noW (Det undef), false, [], []⟩ :: ⟨52, [], [], [], noW (Det undef), false, [], []⟩ :: ⟨53, [], [], [], noW (Det undef), false, [], []⟩ :: ⟨54, [], [], [], noW (Det undef), false, [], []⟩ :: ⟨55, [], [], [], noW (Det undef), false, [], []⟩ :: ⟨56, [17, 27], [], [], noW (_), false, [], []⟩ :: ⟨57, [14, 28], [], [], noW (_), false, [], []⟩ :: [])) [] [4, 7, 3] (⟨28, [], [], false, [], []⟩ :: ⟨29, [], [], false, [], []⟩ :: ⟨30, [0, 1], [], false, [], []⟩ :: ⟨31, [2], [], false, [], []⟩ :: ⟨32, [3], [], false, [], []⟩ :: ⟨33, [4], [], false, [], []⟩ :: ⟨34, [], [], false, [], []⟩ :: ⟨35, [], [], false, [], []⟩ :: ⟨36, [6, 7], [], false, [], []⟩ :: ⟨37, [8], [], false, [], []⟩ :: ⟨38, [], [], false, [], []⟩ :: ⟨39, [10], [], false, [], []⟩ :: ⟨40, [9, 11], [], false, [], []⟩ :: ⟨41, [5, 12], [], false, [], []⟩ :: ⟨42, [13], [], false, [], []⟩ :: ⟨43, [], [], false, [], []⟩ :: ⟨44, [15], [], false, [], []⟩ :: ⟨45, [16], [], false, [], []⟩ :: ⟨46, [], [], false, [], []⟩ :: ⟨47, [], [], false, [], []⟩ :: ⟨48, [], [], false, [], []⟩ :: ⟨49, [], [], false, [], []⟩ :: ⟨50, [], [], false, [], []⟩ :: ⟨51, [], [], false, [], []⟩ :: ⟨52, [], [], false, [], []⟩ :: ⟨53, [], [], false, [], []⟩ :: ⟨54, [], [], false, [], []⟩ :: ⟨55, [], [], false, [], []⟩ :: ⟨56, [17, 27], [], false, [], []⟩ :: ⟨57, [14, 28], [], false, [], []⟩ :: []) ([] :: [] :: [] :: [] :: [] :: [] :: [] :: [] :: [] :: [] :: [] :: [] :: [] :: [] :: [] :: [] :: [] :: [] :: [] :: [] :: [] :: [] :: [] :: [] :: [] :: [] :: [] :: [] :: [] :: [] :: []) ([] :: [] :: [] :: [] :: [] :: [] :: [] :: [] :: [] :: [] :: [] :: [] :: [] :: [] :: [] :: [] :: [] :: [] :: [] :: [] :: [] :: [] :: [] :: [] :: [] :: [] :: [] :: [] :: [] :: [] :: []) tMixv (fun _ => by rfl) (fun _ => by rfl) (by kernel_rfl) (by kernel_rfl) (by rfl) (by rfl)
            (fun β => ⟨.p rfl (by intro X; exact op_move rfl),
            ⟨.p rfl (by intro X; exact op_move rfl),
            ⟨.p rfl (by intro X; rintro _ _ ⟨rfl, rfl⟩ _ _ ⟨rfl, rfl⟩; exact op_idx rfl rfl tS26v (Sl.ent (Sl.lab 15 rfl (by first | (unfold maxLen; omega) | (simp [maxLen]; done)))) (by omega)),
            ⟨.p rfl (by intro X; rintro _ _ ⟨rfl, rfl⟩; exact op_ldx rfl tO3v (Sl.lab 15 rfl (by first | (unfold maxLen; omega) | (simp [maxLen]; done))) (by assumption) (by rfl)),
            ⟨.p rfl (by intro X; rintro _ _ ⟨rfl, rfl⟩; exact op_val (v' := .bool false) (by simp; omega) (op_lss rfl rfl)),
            ⟨.p rfl (by intro X; rintro _ _ ⟨rfl, rfl⟩; exact op_move rfl),
            ⟨.w rfl rfl rfl (by rintro _ _ ⟨rfl, rfl⟩; rfl) (by intro X; exact op_move rfl),
            ⟨.w rfl rfl rfl (by rintro _ _ ⟨rfl, rfl⟩; rfl) (by intro X; exact op_move rfl),
            ⟨.w rfl rfl rfl (by rintro _ _ ⟨rfl, rfl⟩; rfl) (by intro X; rintro _ _ ⟨rfl, rfl⟩ _ _ ⟨rfl, rfl⟩; exact op_idx rfl rfl tS26v (Sl.ent (Sl.lab 15 rfl (by first | (unfold maxLen; omega) | (simp [maxLen]; done)))) (by omega)),
            ⟨.w rfl rfl rfl (by rintro _ _ ⟨rfl, rfl⟩; rfl) (by intro X; rintro _ _ ⟨rfl, rfl⟩; exact op_ldx rfl tO3v (Sl.lab 15 rfl (by first | (unfold maxLen; omega) | (simp [maxLen]; done))) (by assumption) (by rfl)),
            ⟨.w rfl rfl rfl (by rintro _ _ ⟨rfl, rfl⟩; rfl) (by intro X; exact op_move rfl),
            ⟨.w rfl rfl rfl (by rintro _ _ ⟨rfl, rfl⟩; rfl) (by intro X; rintro _ _ ⟨rfl, rfl⟩; exact op_lenT rfl tS24v (Sl.ent (Sl.lab 12 rfl (by first | (unfold maxLen; omega) | (simp [maxLen]; done))))),
            ⟨.w rfl rfl rfl (by rintro _ _ ⟨rfl, rfl⟩; rfl) (by intro X; rintro _ _ ⟨rfl, rfl⟩ _ _ ⟨rfl, rfl⟩; exact op_val (v' := .bool false) (by simp; omega) (op_geq rfl rfl)),
            ⟨.p rfl (by intro X; rintro _ _ ⟨rfl, rfl⟩ _ _ ⟨rfl, rfl⟩; exact op_pick_f rfl rfl),
            ⟨.p rfl (by intro X; rintro _ _ ⟨rfl, rfl⟩; exact op_move rfl),
            ⟨.w rfl rfl rfl (by rintro _ _ ⟨rfl, rfl⟩; rfl) (by intro X; exact op_move rfl),
            ⟨.w rfl rfl rfl (by rintro _ _ ⟨rfl, rfl⟩; rfl) (by intro X; rintro _ _ ⟨rfl, rfl⟩; exact op_val (v' := .bool false) (by simp; omega) (op_gtr rfl rfl)),
            ⟨.w rfl rfl rfl (by rintro _ _ ⟨rfl, rfl⟩; rfl) (by intro X; rintro _ _ ⟨rfl, rfl⟩; exact op_move rfl),
            ⟨.u rfl rfl rfl (by rintro _ _ ⟨rfl, rfl⟩; exact congrArg (offB true) (by rfl : _ = Value.bool false)) ⟨rfl, rfl⟩ rfl rfl,
            ⟨.u rfl rfl rfl (by rintro _ _ ⟨rfl, rfl⟩; exact congrArg (offB true) (by rfl : _ = Value.bool false)) ⟨rfl, rfl⟩ rfl rfl,
            ⟨.u rfl rfl rfl (by rintro _ _ ⟨rfl, rfl⟩; exact congrArg (offB true) (by rfl : _ = Value.bool false)) ⟨rfl, rfl⟩ rfl rfl,
            ⟨.u rfl rfl rfl (by rintro _ _ ⟨rfl, rfl⟩; exact congrArg (offB true) (by rfl : _ = Value.bool false)) ⟨rfl, rfl⟩ rfl rfl,
            ⟨.u rfl rfl rfl (by rintro _ _ ⟨rfl, rfl⟩; exact congrArg (offB true) (by rfl : _ = Value.bool false)) ⟨rfl, rfl⟩ rfl rfl,
            ⟨.u rfl rfl rfl (by rintro _ _ ⟨rfl, rfl⟩; exact congrArg (offB true) (by rfl : _ = Value.bool false)) ⟨rfl, rfl⟩ rfl rfl,
            ⟨.u rfl rfl rfl (by rintro _ _ ⟨rfl, rfl⟩; exact congrArg (offB true) (by rfl : _ = Value.bool false)) ⟨rfl, rfl⟩ rfl rfl,
            ⟨.u rfl rfl rfl (by rintro _ _ ⟨rfl, rfl⟩; exact congrArg (offB true) (by rfl : _ = Value.bool false)) ⟨rfl, rfl⟩ rfl rfl,
            ⟨.u rfl rfl rfl (by rintro _ _ ⟨rfl, rfl⟩; exact congrArg (offB true) (by rfl : _ = Value.bool false)) ⟨rfl, rfl⟩ rfl rfl,
            ⟨.u rfl rfl rfl (by rintro _ _ ⟨rfl, rfl⟩; exact congrArg (offB true) (by rfl : _ = Value.bool false)) ⟨rfl, rfl⟩ rfl rfl,
            ⟨.w rfl rfl rfl (by rintro _ _ ⟨rfl, rfl⟩; rfl) (by intro X; rintro _ _ ⟨rfl, rfl⟩ _ _ ⟨rfl, rfl⟩; exact op_pick_f rfl rfl),
            ⟨.p rfl (by intro X; rintro _ _ ⟨rfl, rfl⟩ _ _ ⟨rfl, rfl⟩; exact op_pick_f rfl rfl),
            trivial⟩⟩⟩⟩⟩⟩⟩⟩⟩⟩⟩⟩⟩⟩⟩⟩⟩⟩⟩⟩⟩⟩⟩⟩⟩⟩⟩⟩⟩⟩)
            (fun β β' => ⟨fun _ => by rfl, ⟨fun _ => by rfl, ⟨fun _ => by rfl, ⟨fun _ => by rfl, ⟨fun _ => by rfl, ⟨fun _ => by rfl, ⟨fun _ => by rfl, ⟨fun _ => by rfl, ⟨fun _ => by rfl, ⟨fun _ => by rfl, ⟨fun _ => by rfl, ⟨fun _ => by rfl, ⟨fun _ => by rfl, ⟨fun _ => by rfl, ⟨fun _ => by rfl, ⟨fun _ => by rfl, ⟨fun _ => by rfl, ⟨fun _ => by rfl, ⟨fun _ => by rfl, ⟨fun _ => by rfl, ⟨fun _ => by rfl, ⟨fun _ => by rfl, ⟨fun _ => by rfl, ⟨fun _ => by rfl, ⟨fun _ => by rfl, ⟨fun _ => by rfl, ⟨fun _ => by rfl, ⟨fun _ => by rfl, ⟨fun _ => by rfl, ⟨fun _ => by rfl, trivial⟩⟩⟩⟩⟩⟩⟩⟩⟩⟩⟩⟩⟩⟩⟩⟩⟩⟩⟩⟩⟩⟩⟩⟩⟩⟩⟩⟩⟩⟩) ?_
        intro β
        rintro _ _ ⟨rfl, rfl⟩ _ _ ⟨rfl, rfl⟩ _ _ ⟨rfl, rfl⟩ _ _ ⟨rfl, rfl⟩ _ _ ⟨rfl, rfl⟩ _ _ ⟨rfl, rfl⟩ _ _ ⟨rfl, rfl⟩ _ _ ⟨rfl, rfl⟩ _ _ ⟨rfl, rfl⟩ _ _ ⟨rfl, rfl⟩ _ _ ⟨rfl, rfl⟩ _ _ ⟨rfl, rfl⟩ _ _ ⟨rfl, rfl⟩ _ _ ⟨rfl, rfl⟩ _ _ ⟨rfl, rfl⟩ _ _ ⟨rfl, rfl⟩ _ _ ⟨rfl, rfl⟩ _ _ ⟨rfl, rfl⟩ _ _ ⟨rfl, rfl⟩ _ _ ⟨rfl, rfl⟩ _ _ ⟨rfl, rfl⟩ _ _ ⟨rfl, rfl⟩ _ _ ⟨rfl, rfl⟩ _ _ ⟨rfl, rfl⟩ _ _ ⟨rfl, rfl⟩ _ _ ⟨rfl, rfl⟩ _ _ ⟨rfl, rfl⟩ _ _ ⟨rfl, rfl⟩ _ _ ⟨rfl, rfl⟩ _ _ ⟨rfl, rfl⟩
        refine wl_norm (e' := [(3, _), (4, _), (5, _), (6, _), (7, _), (57, _)]) (.cons rfl (.cons rfl (.cons rfl (.cons rfl (.cons rfl (.cons rfl (.nil _))))))) (by dsimp only [cond_false, cond_true, List.nil_append, List.cons_append]) ?_
        refine wl_nil ?_
        refine st_tn ?_
        refine w_cond_f (rfl) ?_
        refine w_skip ?_
        refine st_tn ?_
        refine w_region ?_
        refine wl_det rfl rfl rfl (op_move rfl) ?_
        refine wl_det rfl rfl rfl (op_move rfl) ?_
        refine wl_det rfl rfl rfl (op_move rfl) ?_
        refine wl_det rfl rfl rfl (op_move rfl) ?_
        refine wl_det rfl rfl rfl (op_idx rfl rfl tS26v (Sl.ent (Sl.lab 15 rfl (by unfold maxLen; omega))) (by omega)) ?_
        refine wl_det rfl rfl rfl (op_ldx rfl tO3v (Sl.lab 15 rfl (by unfold maxLen; omega)) (by assumption) (by rfl)) ?_
        refine wl_det rfl rfl rfl (op_idxZ rfl rfl tS24v (Sl.ent (Sl.lab 12 rfl (by first | (unfold maxLen; omega) | (simp [maxLen]; done)))) (by omega) (by omega)) ?_
        refine wl_det rfl rfl rfl (op_ldxA rfl tA34v (Sl.lab 12 rfl (by first | (unfold maxLen; omega) | (simp [maxLen]; done))) (by assumption) (by rfl) (by rfl)) ?_
        refine wl_op [] rfl rfl rfl rfl (op_buildSlice (enc := encC) (l := [e]) (lab := 66) tL24_1v rfl rfl (fun _ => rfl) rfl) ?_
        rintro _ _ ⟨a66, c66, rfl, rfl⟩
        refine wl_op [6] rfl rfl rfl rfl (op_append (lab := 6) (lab' := 67) rfl rfl tP24v enc1C (Sl.lab 66 rfl (by simp [maxLen])) (by simp; omega) (by simp; omega)) ?_
        rintro _ _ ⟨a67, c67, rfl, rfl⟩
        refine wl_det rfl rfl rfl (op_assign rfl) ?_
        refine wl_nil ?_
        refine st_bn ?_
        refine st_tn ?_
        refine w_region ?_
        refine wl_det rfl rfl rfl (op_move rfl) ?_
        refine wl_det rfl rfl rfl (op_add' rfl rfl (by omega)) ?_
        refine wl_det rfl rfl rfl (op_assign rfl) ?_
        refine wl_nil ?_
        refine st_roundQ (x := (M, a_M, c_M, i)) ((M ++ [e], _, _, i + 1)) [67, 12, 15] rfl (rfl) (.cons rfl (.cons rfl (.nil _))) (.cons rfl (.cons rfl (.cons rfl (.nil _)))) (by
            try dsimp only
            exact ⟨by omega, by rw [some_snoc hk he, hM]⟩) (by
            try dsimp only
            omega) 
    · -- c25.f
      refine w_exit ?_
      refine st_te ?_
      refine st_te ?_
      refine st_be ?_
      refine st_tn ?_
      refine w_seq ?_
      refine w_seq ?_
      refine w_region ?_
      refine wl_det rfl rfl rfl (op_move rfl) ?_
      refine wl_det rfl rfl rfl (op_val (v' := .bool true) (by simp [hE]) (op_not_d rfl)) ?_
      refine wl_nil ?_
      refine st_tn ?_
      refine w_cond_t (rfl) ?_
      refine w_seq ?_
      refine w_region ?_
      refine wl_det rfl rfl rfl (op_move rfl) ?_
      refine wl_det rfl rfl rfl (op_lenT rfl tS26v (Sl.ent (Sl.lab 15 rfl (by first | (unfold maxLen; omega) | (simp [maxLen]; done))))) ?_
      refine wl_det rfl rfl rfl (op_val (v' := .bool true) (by simp; exact hc0) (op_eql rfl rfl)) ?_
      refine wl_det rfl rfl rfl (op_assign rfl) ?_
      refine wl_nil ?_
      refine st_tn ?_
      refine w_ret ?_
      refine st_tr ?_
      refine st_ret (vs := [_]) [] Try.results6 ⟨rfl, trivial⟩ rfl ?_
      refine ⟨_, rfl, ?_⟩
      exact ⟨rfl, rfl⟩
  · -- hE-
    have hFe : ¬ Feas l := fun hf => hE (hsf.2 hf)
    have hinr := min_in hE
    refine w_region ?_
    refine wl_det rfl rfl rfl (op_move rfl) ?_
    refine wl_det rfl rfl rfl (op_move rfl) ?_
    refine wl_det rfl rfl rfl (op_fn Try.func19 rfl rfl rfl (feas_any (Sl.lab 12 rfl (by first | (unfold maxLen; omega) | (simp [maxLen]; done))) (by assumption) (by assumption))) ?_
    refine wl_det rfl rfl rfl (op_val (v' := .bool false) (by simp [hE, hFe]) (op_eqB rfl rfl Try.underlying4)) ?_
    refine wl_nil ?_
    refine st_tn ?_
    refine w_cond_f (rfl) ?_
    refine w_skip ?_
    refine st_tn ?_
    refine w_seq ?_
    refine w_region ?_
    refine wl_det rfl rfl rfl (op_assign rfl) ?_
    refine wl_nil ?_
    refine st_tn ?_
    refine w_seq ?_
    refine w_seq ?_
    refine w_region ?_
    refine wl_det rfl rfl rfl (op_assign rfl) ?_
    refine wl_nil ?_
    refine st_tn ?_
    refine w_block ?_
    refine w_emp 6 (slO_nil 34 3) ?_
    refine w_loopQ (X := List Con × Option Addr × Nat × Nat) (fun z => z.2.2.2 ≤ (minC l).length ∧ z.1 = someC l ((minC l).take z.2.2.2)) (fun z => [(6, .slice (z.2.1) (z.1).length (z.2.2.1)), (7, .int .i64 (z.2.2.2))]) (fun z => [(6, slW 34 encC 3 (.slice (z.2.1) (z.1).length (z.2.2.1)) (z.1))]) (fun z => (minC l).length - z.2.2.2) (([], none, 0, 0)) [(3, _), (4, _), (5, _)] [(12, _), (15, _)] [6, 12, 15] rfl (rfl) (.cons rfl (.cons rfl (.nil _))) (.cons rfl (.cons rfl (.cons rfl (.nil _)))) (by
        try dsimp only
        exact ⟨Nat.zero_le _, by simp [someC]⟩) ?_
    rintro ⟨M, a_M, c_M, i⟩ ⟨hi, hM⟩
    refine w_norm2 (by dsimp only [List.cons_append, List.nil_append]) (by dsimp only [List.cons_append, List.nil_append]) ?_
    try dsimp only at hi hM ⊢
    refine w_seq ?_
    refine w_seq ?_
    refine w_region ?_
    refine wl_det rfl rfl rfl (op_move rfl) ?_
    refine wl_det rfl rfl rfl (op_move rfl) ?_
    refine wl_det rfl rfl rfl (op_lenT rfl tS26v (Sl.ent (Sl.lab 15 rfl (by first | (unfold maxLen; omega) | (simp [maxLen]; done))))) ?_
    refine wl_det rfl rfl rfl (op_lss rfl rfl) ?_
    refine wl_nil ?_
    refine st_tn ?_
    refine w_cond_d rfl (fun hc25 => ?_) (fun hc25 => ?_)
    · -- c25.t
      obtain ⟨k, hk⟩ := getE (l := minC l) (i := i) (by omega)
      have hlt := ltE hk
      have hkr := hinr k (List.mem_of_getElem? hk)
      obtain ⟨e, he⟩ := getE (l := l) (i := k.toNat) (by omega)
      have hMl : M.length = i := by rw [hM, some_len, List.length_take]; omega
      refine w_skip ?_
      refine st_tn ?_
      refine w_seq ?_
      refine w_block ?_
      refine w_seq ?_
      refine w_seq ?_
      by_cases h0 : (i : Int) > 0
      · -- h0+
        obtain ⟨k0, hk0⟩ := getE (l := minC l) (i := i - 1) (by omega)
        have hinc : k0 < k := min_inc (by first | exact hE | (exfalso; omega)) hk0 (by rw [show i - 1 + 1 = i by omega]; exact hk)
        refine w_drawW (fun β => (⟨28, [], [], [], noW (_), false, [], []⟩ :: ⟨29, [], [], [], noW (_), false, [], []⟩ :: ⟨30, [0, 1], [], [], noW (_), false, [], []⟩ :: ⟨31, [2], [], [], noW (_), false, [], []⟩ :: ⟨32, [3], [], [], noW (_), false, [], []⟩ :: ⟨33, [4], [], [], noW (_), false, [], []⟩ :: ⟨34, [], [], [], noW (_), false, [], []⟩ :: ⟨35, [], [], [], noW (_), false, [], []⟩ :: ⟨36, [6, 7], [], [], noW (_), false, [], []⟩ :: ⟨37, [8], [], [], noW (_), false, [], []⟩ :: ⟨38, [], [], [], noW (_), false, [], []⟩ :: ⟨39, [10], [], [], noW (_), false, [], []⟩ :: ⟨40, [9, 11], [], [], noW (_), false, [], []⟩ :: ⟨41, [5, 12], [], [], noW (_), false, [], []⟩ :: ⟨42, [13], [], [], noW (_), false, [], []⟩ :: ⟨43, [], [], [], noW (_), false, [], []⟩ :: ⟨44, [15], [], [], noW (_), false, [], []⟩ :: ⟨45, [16], [], [], noW (_), false, [], []⟩ :: ⟨46, [], [], [], noW (_), false, [], []⟩ :: ⟨47, [], [], [], noW (_), false, [], []⟩ :: ⟨48, [18, 19], [], [], noW (_), false, [], []⟩ :: ⟨49, [20], [], [], noW (_), false, [], []⟩ :: ⟨50, [], [], [], noW (_), false, [], []⟩ :: ⟨51, [], [], [], noW (_), false, [], []⟩ :: ⟨52, [23], [], [], noW (_), false, [], []⟩ :: ⟨53, [22, 24], [], [], noW (_), false, [], []⟩ :: ⟨54, [25], [], [], noW (_), false, [], []⟩ :: ⟨55, [21, 26], [], [], noW (_), false, [], []⟩ :: ⟨56, [17, 27], [], [], noW (_), false, [], []⟩ :: ⟨57, [14, 28], [], [], noW (_), false, [], []⟩ :: [])) [] [4, 7, 3] (⟨28, [], [], false, [], []⟩ :: ⟨29, [], [], false, [], []⟩ :: ⟨30, [0, 1], [], false, [], []⟩ :: ⟨31, [2], [], false, [], []⟩ :: ⟨32, [3], [], false, [], []⟩ :: ⟨33, [4], [], false, [], []⟩ :: ⟨34, [], [], false, [], []⟩ :: ⟨35, [], [], false, [], []⟩ :: ⟨36, [6, 7], [], false, [], []⟩ :: ⟨37, [8], [], false, [], []⟩ :: ⟨38, [], [], false, [], []⟩ :: ⟨39, [10], [], false, [], []⟩ :: ⟨40, [9, 11], [], false, [], []⟩ :: ⟨41, [5, 12], [], false, [], []⟩ :: ⟨42, [13], [], false, [], []⟩ :: ⟨43, [], [], false, [], []⟩ :: ⟨44, [15], [], false, [], []⟩ :: ⟨45, [16], [], false, [], []⟩ :: ⟨46, [], [], false, [], []⟩ :: ⟨47, [], [], false, [], []⟩ :: ⟨48, [18, 19], [], false, [], []⟩ :: ⟨49, [20], [], false, [], []⟩ :: ⟨50, [], [], false, [], []⟩ :: ⟨51, [], [], false, [], []⟩ :: ⟨52, [23], [], false, [], []⟩ :: ⟨53, [22, 24], [], false, [], []⟩ :: ⟨54, [25], [], false, [], []⟩ :: ⟨55, [21, 26], [], false, [], []⟩ :: ⟨56, [17, 27], [], false, [], []⟩ :: ⟨57, [14, 28], [], false, [], []⟩ :: []) ([] :: [] :: [] :: [] :: [] :: [] :: [] :: [] :: [] :: [] :: [] :: [] :: [] :: [] :: [] :: [] :: [] :: [] :: [] :: [] :: [] :: [] :: [] :: [] :: [] :: [] :: [] :: [] :: [] :: [] :: []) ([] :: [] :: [] :: [] :: [] :: [] :: [] :: [] :: [] :: [] :: [] :: [] :: [] :: [] :: [] :: [] :: [] :: [] :: [] :: [] :: [] :: [] :: [] :: [] :: [] :: [] :: [] :: [] :: [] :: [] :: []) tMixv (fun _ => by rfl) (fun _ => by rfl) (by kernel_rfl) (by kernel_rfl) (by rfl) (by rfl)
            (fun β => ⟨.p rfl (by intro X; exact op_move rfl),
            ⟨.p rfl (by intro X; exact op_move rfl),
            ⟨.p rfl (by intro X; rintro _ _ ⟨rfl, rfl⟩ _ _ ⟨rfl, rfl⟩; exact op_idx rfl rfl tS26v (Sl.ent (Sl.lab 15 rfl (by first | (unfold maxLen; omega) | (simp [maxLen]; done)))) (by omega)),
            ⟨.p rfl (by intro X; rintro _ _ ⟨rfl, rfl⟩; exact op_ldx rfl tO3v (Sl.lab 15 rfl (by first | (unfold maxLen; omega) | (simp [maxLen]; done))) (by assumption) (by rfl)),
            ⟨.p rfl (by intro X; rintro _ _ ⟨rfl, rfl⟩; exact op_val (v' := .bool false) (by simp; omega) (op_lss rfl rfl)),
            ⟨.p rfl (by intro X; rintro _ _ ⟨rfl, rfl⟩; exact op_move rfl),
            ⟨.w rfl rfl rfl (by rintro _ _ ⟨rfl, rfl⟩; rfl) (by intro X; exact op_move rfl),
            ⟨.w rfl rfl rfl (by rintro _ _ ⟨rfl, rfl⟩; rfl) (by intro X; exact op_move rfl),
            ⟨.w rfl rfl rfl (by rintro _ _ ⟨rfl, rfl⟩; rfl) (by intro X; rintro _ _ ⟨rfl, rfl⟩ _ _ ⟨rfl, rfl⟩; exact op_idx rfl rfl tS26v (Sl.ent (Sl.lab 15 rfl (by first | (unfold maxLen; omega) | (simp [maxLen]; done)))) (by omega)),
            ⟨.w rfl rfl rfl (by rintro _ _ ⟨rfl, rfl⟩; rfl) (by intro X; rintro _ _ ⟨rfl, rfl⟩; exact op_ldx rfl tO3v (Sl.lab 15 rfl (by first | (unfold maxLen; omega) | (simp [maxLen]; done))) (by assumption) (by rfl)),
            ⟨.w rfl rfl rfl (by rintro _ _ ⟨rfl, rfl⟩; rfl) (by intro X; exact op_move rfl),
            ⟨.w rfl rfl rfl (by rintro _ _ ⟨rfl, rfl⟩; rfl) (by intro X; rintro _ _ ⟨rfl, rfl⟩; exact op_lenT rfl tS24v (Sl.ent (Sl.lab 12 rfl (by first | (unfold maxLen; omega) | (simp [maxLen]; done))))),
            ⟨.w rfl rfl rfl (by rintro _ _ ⟨rfl, rfl⟩; rfl) (by intro X; rintro _ _ ⟨rfl, rfl⟩ _ _ ⟨rfl, rfl⟩; exact op_val (v' := .bool false) (by simp; omega) (op_geq rfl rfl)),
            ⟨.p rfl (by intro X; rintro _ _ ⟨rfl, rfl⟩ _ _ ⟨rfl, rfl⟩; exact op_pick_f rfl rfl),
            ⟨.p rfl (by intro X; rintro _ _ ⟨rfl, rfl⟩; exact op_move rfl),
            ⟨.w rfl rfl rfl (by rintro _ _ ⟨rfl, rfl⟩; rfl) (by intro X; exact op_move rfl),
            ⟨.w rfl rfl rfl (by rintro _ _ ⟨rfl, rfl⟩; rfl) (by intro X; rintro _ _ ⟨rfl, rfl⟩; exact op_val (v' := .bool true) (by simp; omega) (op_gtr rfl rfl)),
            ⟨.w rfl rfl rfl (by rintro _ _ ⟨rfl, rfl⟩; rfl) (by intro X; rintro _ _ ⟨rfl, rfl⟩; exact op_move rfl),
            ⟨.w rfl rfl rfl (by rintro _ _ ⟨rfl, rfl⟩; rfl) (by intro X; exact op_move rfl),
            ⟨.w rfl rfl rfl (by rintro _ _ ⟨rfl, rfl⟩; rfl) (by intro X; exact op_move rfl),
            ⟨.w rfl rfl rfl (by rintro _ _ ⟨rfl, rfl⟩; rfl) (by intro X; rintro _ _ ⟨rfl, rfl⟩ _ _ ⟨rfl, rfl⟩; exact op_idx rfl rfl tS26v (Sl.ent (Sl.lab 15 rfl (by first | (unfold maxLen; omega) | (simp [maxLen]; done)))) (by omega)),
            ⟨.w rfl rfl rfl (by rintro _ _ ⟨rfl, rfl⟩; rfl) (by intro X; rintro _ _ ⟨rfl, rfl⟩; exact op_ldx rfl tO3v (Sl.lab 15 rfl (by first | (unfold maxLen; omega) | (simp [maxLen]; done))) (by assumption) (by rfl)),
            ⟨.w rfl rfl rfl (by rintro _ _ ⟨rfl, rfl⟩; rfl) (by intro X; exact op_move rfl),
            ⟨.w rfl rfl rfl (by rintro _ _ ⟨rfl, rfl⟩; rfl) (by intro X; exact op_move rfl),
            ⟨.w rfl rfl rfl (by rintro _ _ ⟨rfl, rfl⟩; rfl) (by intro X; rintro _ _ ⟨rfl, rfl⟩; exact op_val (v' := .int .i64 ((i - 1 : Nat) : Int)) (by congr 1; omega) (op_sub' rfl rfl (by omega))),
            ⟨.w rfl rfl rfl (by rintro _ _ ⟨rfl, rfl⟩; rfl) (by intro X; rintro _ _ ⟨rfl, rfl⟩ _ _ ⟨rfl, rfl⟩; exact op_idx rfl rfl tS26v (Sl.ent (Sl.lab 15 rfl (by unfold maxLen; omega))) (by omega)),
            ⟨.w rfl rfl rfl (by rintro _ _ ⟨rfl, rfl⟩; rfl) (by intro X; rintro _ _ ⟨rfl, rfl⟩; exact op_ldx rfl tO3v (Sl.lab 15 rfl (by first | (unfold maxLen; omega) | (simp [maxLen]; done))) (by assumption) (by rfl)),
            ⟨.w rfl rfl rfl (by rintro _ _ ⟨rfl, rfl⟩; rfl) (by intro X; rintro _ _ ⟨rfl, rfl⟩ _ _ ⟨rfl, rfl⟩; exact op_val (v' := .bool false) (by simp; omega) (op_leq rfl rfl)),
            ⟨.w rfl rfl rfl (by rintro _ _ ⟨rfl, rfl⟩; rfl) (by intro X; rintro _ _ ⟨rfl, rfl⟩ _ _ ⟨rfl, rfl⟩; exact op_pick_t rfl rfl),
            ⟨.p rfl (by intro X; rintro _ _ ⟨rfl, rfl⟩ _ _ ⟨rfl, rfl⟩; exact op_pick_f rfl rfl),
            trivial⟩⟩⟩⟩⟩⟩⟩⟩⟩⟩⟩⟩⟩⟩⟩⟩⟩⟩⟩⟩⟩⟩⟩⟩⟩⟩⟩⟩⟩⟩)
            (fun β β' => ⟨fun _ => by rfl, ⟨fun _ => by rfl, ⟨fun _ => by rfl, ⟨fun _ => by rfl, ⟨fun _ => by rfl, ⟨fun _ => by rfl, ⟨fun _ => by rfl, ⟨fun _ => by rfl, ⟨fun _ => by rfl, ⟨fun _ => by rfl, ⟨fun _ => by rfl, ⟨fun _ => by rfl, ⟨fun _ => by rfl, ⟨fun _ => by rfl, ⟨fun _ => by rfl, ⟨fun _ => by rfl, ⟨fun _ => by rfl, ⟨fun _ => by rfl, ⟨fun _ => by rfl, ⟨fun _ => by rfl, ⟨fun _ => by rfl, ⟨fun _ => by rfl, ⟨fun _ => by rfl, ⟨fun _ => by rfl, ⟨fun _ => by rfl, ⟨fun _ => by rfl, ⟨fun _ => by rfl, ⟨fun _ => by rfl, ⟨fun _ => by rfl, ⟨fun _ => by rfl, trivial⟩⟩⟩⟩⟩⟩⟩⟩⟩⟩⟩⟩⟩⟩⟩⟩⟩⟩⟩⟩⟩⟩⟩⟩⟩⟩⟩⟩⟩⟩) ?_
        intro β
        rintro _ _ ⟨rfl, rfl⟩ _ _ ⟨rfl, rfl⟩ _ _ ⟨rfl, rfl⟩ _ _ ⟨rfl, rfl⟩ _ _ ⟨rfl, rfl⟩ _ _ ⟨rfl, rfl⟩ _ _ ⟨rfl, rfl⟩ _ _ ⟨rfl, rfl⟩ _ _ ⟨rfl, rfl⟩ _ _ ⟨rfl, rfl⟩ _ _ ⟨rfl, rfl⟩ _ _ ⟨rfl, rfl⟩ _ _ ⟨rfl, rfl⟩ _ _ ⟨rfl, rfl⟩ _ _ ⟨rfl, rfl⟩ _ _ ⟨rfl, rfl⟩ _ _ ⟨rfl, rfl⟩ _ _ ⟨rfl, rfl⟩ _ _ ⟨rfl, rfl⟩ _ _ ⟨rfl, rfl⟩ _ _ ⟨rfl, rfl⟩ _ _ ⟨rfl, rfl⟩ _ _ ⟨rfl, rfl⟩ _ _ ⟨rfl, rfl⟩ _ _ ⟨rfl, rfl⟩ _ _ ⟨rfl, rfl⟩ _ _ ⟨rfl, rfl⟩ _ _ ⟨rfl, rfl⟩ _ _ ⟨rfl, rfl⟩ _ _ ⟨rfl, rfl⟩
        refine wl_norm (e' := [(3, _), (4, _), (5, _), (6, _), (7, _), (57, _)]) (.cons rfl (.cons rfl (.cons rfl (.cons rfl (.cons rfl (.cons rfl (.nil _))))))) (by dsimp only [cond_false, cond_true, List.nil_append, List.cons_append]) ?_
        refine wl_nil ?_
        refine st_tn ?_
        refine w_cond_f (rfl) ?_
        refine w_skip ?_
        refine st_tn ?_
        refine w_region ?_
        refine wl_det rfl rfl rfl (op_move rfl) ?_
        refine wl_det rfl rfl rfl (op_move rfl) ?_
        refine wl_det rfl rfl rfl (op_move rfl) ?_
        refine wl_det rfl rfl rfl (op_move rfl) ?_
        refine wl_det rfl rfl rfl (op_idx rfl rfl tS26v (Sl.ent (Sl.lab 15 rfl (by unfold maxLen; omega))) (by omega)) ?_
        refine wl_det rfl rfl rfl (op_ldx rfl tO3v (Sl.lab 15 rfl (by unfold maxLen; omega)) (by assumption) (by rfl)) ?_
        refine wl_det rfl rfl rfl (op_idxZ rfl rfl tS24v (Sl.ent (Sl.lab 12 rfl (by first | (unfold maxLen; omega) | (simp [maxLen]; done)))) (by omega) (by omega)) ?_
        refine wl_det rfl rfl rfl (op_ldxA rfl tA34v (Sl.lab 12 rfl (by first | (unfold maxLen; omega) | (simp [maxLen]; done))) (by assumption) (by rfl) (by rfl)) ?_
        refine wl_op [] rfl rfl rfl rfl (op_buildSlice (enc := encC) (l := [e]) (lab := 66) tL24_1v rfl rfl (fun _ => rfl) rfl) ?_
        rintro _ _ ⟨a66, c66, rfl, rfl⟩
        refine wl_op [6] rfl rfl rfl rfl (op_append (lab := 6) (lab' := 67) rfl rfl tP24v enc1C (Sl.lab 66 rfl (by simp [maxLen])) (by simp; omega) (by simp; omega)) ?_
        rintro _ _ ⟨a67, c67, rfl, rfl⟩
        refine wl_det rfl rfl rfl (op_assign rfl) ?_
        refine wl_nil ?_
        refine st_bn ?_
        refine st_tn ?_
        refine w_region ?_
        refine wl_det rfl rfl rfl (op_move rfl) ?_
        refine wl_det rfl rfl rfl (op_add' rfl rfl (by omega)) ?_
        refine wl_det rfl rfl rfl (op_assign rfl) ?_
        refine wl_nil ?_
        refine st_roundQ (x := (M, a_M, c_M, i)) ((M ++ [e], _, _, i + 1)) [67, 12, 15] rfl (rfl) (.cons rfl (.cons rfl (.nil _))) (.cons rfl (.cons rfl (.cons rfl (.nil _)))) (by
            try dsimp only
            exact ⟨by omega, by rw [some_snoc hk he, hM]⟩) (by
            try dsimp only
            omega) 
      · -- h0-
        refine w_drawW (fun β => (⟨28, [], [], [], noW (_), false, [], []⟩ :: ⟨29, [], [], [], noW (_), false, [], []⟩ :: ⟨30, [0, 1], [], [], noW (_), false, [], []⟩ :: ⟨31, [2], [], [], noW (_), false, [], []⟩ :: ⟨32, [3], [], [], noW (_), false, [], []⟩ :: ⟨33, [4], [], [], noW (_), false, [], []⟩ :: ⟨34, [], [], [], noW (_), false, [], []⟩ :: ⟨35, [], [], [], noW (_), false, [], []⟩ :: ⟨36, [6, 7], [], [], noW (_), false, [], []⟩ :: ⟨37, [8], [], [], noW (_), false, [], []⟩ :: ⟨38, [], [], [], noW (_), false, [], []⟩ :: ⟨39, [10], [], [], noW (_), false, [], []⟩ :: ⟨40, [9, 11], [], [], noW (_), false, [], []⟩ :: ⟨41, [5, 12], [], [], noW (_), false, [], []⟩ :: ⟨42, [13], [], [], noW (_), false, [], []⟩ :: ⟨43, [], [], [], noW (_), false, [], []⟩ :: ⟨44, [15], [], [], noW (_), false, [], []⟩ :: ⟨45, [16], [], [], noW (_), false, [], []⟩ :: ⟨46, [], [], [], noW (Det undef), false, [], []⟩ :: ⟨47, [], [], [], noW (Det undef), false, [], []⟩ :: ⟨48, [], [], [], noW (Det undef), false, [], []⟩ :: ⟨49, [], [], [], noW (Det undef), false, [], []⟩ :: ⟨50, [], [], [], noW (Det undef), false, [], []⟩ :: ⟨51, [], [], [], noW (Det undef), false, [], []⟩ :: ⟨52, [], [], [], noW (Det undef), false, [], []⟩ :: ⟨53, [], [], [], noW (Det undef), false, [], []⟩ :: ⟨54, [], [], [], noW (Det undef), false, [], []⟩ :: ⟨55, [], [], [], noW (Det undef), false, [], []⟩ :: ⟨56, [17, 27], [], [], noW (_), false, [], []⟩ :: ⟨57, [14, 28], [], [], noW (_), false, [], []⟩ :: [])) [] [4, 7, 3] (⟨28, [], [], false, [], []⟩ :: ⟨29, [], [], false, [], []⟩ :: ⟨30, [0, 1], [], false, [], []⟩ :: ⟨31, [2], [], false, [], []⟩ :: ⟨32, [3], [], false, [], []⟩ :: ⟨33, [4], [], false, [], []⟩ :: ⟨34, [], [], false, [], []⟩ :: ⟨35, [], [], false, [], []⟩ :: ⟨36, [6, 7], [], false, [], []⟩ :: ⟨37, [8], [], false, [], []⟩ :: ⟨38, [], [], false, [], []⟩ :: ⟨39, [10], [], false, [], []⟩ :: ⟨40, [9, 11], [], false, [], []⟩ :: ⟨41, [5, 12], [], false, [], []⟩ :: ⟨42, [13], [], false, [], []⟩ :: ⟨43, [], [], false, [], []⟩ :: ⟨44, [15], [], false, [], []⟩ :: ⟨45, [16], [], false, [], []⟩ :: ⟨46, [], [], false, [], []⟩ :: ⟨47, [], [], false, [], []⟩ :: ⟨48, [], [], false, [], []⟩ :: ⟨49, [], [], false, [], []⟩ :: ⟨50, [], [], false, [], []⟩ :: ⟨51, [], [], false, [], []⟩ :: ⟨52, [], [], false, [], []⟩ :: ⟨53, [], [], false, [], []⟩ :: ⟨54, [], [], false, [], []⟩ :: ⟨55, [], [], false, [], []⟩ :: ⟨56, [17, 27], [], false, [], []⟩ :: ⟨57, [14, 28], [], false, [], []⟩ :: []) ([] :: [] :: [] :: [] :: [] :: [] :: [] :: [] :: [] :: [] :: [] :: [] :: [] :: [] :: [] :: [] :: [] :: [] :: [] :: [] :: [] :: [] :: [] :: [] :: [] :: [] :: [] :: [] :: [] :: [] :: []) ([] :: [] :: [] :: [] :: [] :: [] :: [] :: [] :: [] :: [] :: [] :: [] :: [] :: [] :: [] :: [] :: [] :: [] :: [] :: [] :: [] :: [] :: [] :: [] :: [] :: [] :: [] :: [] :: [] :: [] :: []) tMixv (fun _ => by rfl) (fun _ => by rfl) (by kernel_rfl) (by kernel_rfl) (by rfl) (by rfl)
            (fun β => ⟨.p rfl (by intro X; exact op_move rfl),
            ⟨.p rfl (by intro X; exact op_move rfl),
            ⟨.p rfl (by intro X; rintro _ _ ⟨rfl, rfl⟩ _ _ ⟨rfl, rfl⟩; exact op_idx rfl rfl tS26v (Sl.ent (Sl.lab 15 rfl (by first | (unfold maxLen; omega) | (simp [maxLen]; done)))) (by omega)),
            ⟨.p rfl (by intro X; rintro _ _ ⟨rfl, rfl⟩; exact op_ldx rfl tO3v (Sl.lab 15 rfl (by first | (unfold maxLen; omega) | (simp [maxLen]; done))) (by assumption) (by rfl)),
            ⟨.p rfl (by intro X; rintro _ _ ⟨rfl, rfl⟩; exact op_val (v' := .bool false) (by simp; omega) (op_lss rfl rfl)),
            ⟨.p rfl (by intro X; rintro _ _ ⟨rfl, rfl⟩; exact op_move rfl),
            ⟨.w rfl rfl rfl (by rintro _ _ ⟨rfl, rfl⟩; rfl) (by intro X; exact op_move rfl),
            ⟨.w rfl rfl rfl (by rintro _ _ ⟨rfl, rfl⟩; rfl) (by intro X; exact op_move rfl),
            ⟨.w rfl rfl rfl (by rintro _ _ ⟨rfl, rfl⟩; rfl) (by intro X; rintro _ _ ⟨rfl, rfl⟩ _ _ ⟨rfl, rfl⟩; exact op_idx rfl rfl tS26v (Sl.ent (Sl.lab 15 rfl (by first | (unfold maxLen; omega) | (simp [maxLen]; done)))) (by omega)),
            ⟨.w rfl rfl rfl (by rintro _ _ ⟨rfl, rfl⟩; rfl) (by intro X; rintro _ _ ⟨rfl, rfl⟩; exact op_ldx rfl tO3v (Sl.lab 15 rfl (by first | (unfold maxLen; omega) | (simp [maxLen]; done))) (by assumption) (by rfl)),
            ⟨.w rfl rfl rfl (by rintro _ _ ⟨rfl, rfl⟩; rfl) (by intro X; exact op_move rfl),
            ⟨.w rfl rfl rfl (by rintro _ _ ⟨rfl, rfl⟩; rfl) (by intro X; rintro _ _ ⟨rfl, rfl⟩; exact op_lenT rfl tS24v (Sl.ent (Sl.lab 12 rfl (by first | (unfold maxLen; omega) | (simp [maxLen]; done))))),
            ⟨.w rfl rfl rfl (by rintro _ _ ⟨rfl, rfl⟩; rfl) (by intro X; rintro _ _ ⟨rfl, rfl⟩ _ _ ⟨rfl, rfl⟩; exact op_val (v' := .bool false) (by simp; omega) (op_geq rfl rfl)),
            ⟨.p rfl (by intro X; rintro _ _ ⟨rfl, rfl⟩ _ _ ⟨rfl, rfl⟩; exact op_pick_f rfl rfl),
            ⟨.p rfl (by intro X; rintro _ _ ⟨rfl, rfl⟩; exact op_move rfl),
            ⟨.w rfl rfl rfl (by rintro _ _ ⟨rfl, rfl⟩; rfl) (by intro X; exact op_move rfl),
            ⟨.w rfl rfl rfl (by rintro _ _ ⟨rfl, rfl⟩; rfl) (by intro X; rintro _ _ ⟨rfl, rfl⟩; exact op_val (v' := .bool false) (by simp; omega) (op_gtr rfl rfl)),
            ⟨.w rfl rfl rfl (by rintro _ _ ⟨rfl, rfl⟩; rfl) (by intro X; rintro _ _ ⟨rfl, rfl⟩; exact op_move rfl),
            ⟨.u rfl rfl rfl (by rintro _ _ ⟨rfl, rfl⟩; exact congrArg (offB true) (by rfl : _ = Value.bool false)) ⟨rfl, rfl⟩ rfl rfl,
            ⟨.u rfl rfl rfl (by rintro _ _ ⟨rfl, rfl⟩; exact congrArg (offB true) (by rfl : _ = Value.bool false)) ⟨rfl, rfl⟩ rfl rfl,
            ⟨.u rfl rfl rfl (by rintro _ _ ⟨rfl, rfl⟩; exact congrArg (offB true) (by rfl : _ = Value.bool false)) ⟨rfl, rfl⟩ rfl rfl,
            ⟨.u rfl rfl rfl (by rintro _ _ ⟨rfl, rfl⟩; exact congrArg (offB true) (by rfl : _ = Value.bool false)) ⟨rfl, rfl⟩ rfl rfl,
            ⟨.u rfl rfl rfl (by rintro _ _ ⟨rfl, rfl⟩; exact congrArg (offB true) (by rfl : _ = Value.bool false)) ⟨rfl, rfl⟩ rfl rfl,
            ⟨.u rfl rfl rfl (by rintro _ _ ⟨rfl, rfl⟩; exact congrArg (offB true) (by rfl : _ = Value.bool false)) ⟨rfl, rfl⟩ rfl rfl,
            ⟨.u rfl rfl rfl (by rintro _ _ ⟨rfl, rfl⟩; exact congrArg (offB true) (by rfl : _ = Value.bool false)) ⟨rfl, rfl⟩ rfl rfl,
            ⟨.u rfl rfl rfl (by rintro _ _ ⟨rfl, rfl⟩; exact congrArg (offB true) (by rfl : _ = Value.bool false)) ⟨rfl, rfl⟩ rfl rfl,
            ⟨.u rfl rfl rfl (by rintro _ _ ⟨rfl, rfl⟩; exact congrArg (offB true) (by rfl : _ = Value.bool false)) ⟨rfl, rfl⟩ rfl rfl,
            ⟨.u rfl rfl rfl (by rintro _ _ ⟨rfl, rfl⟩; exact congrArg (offB true) (by rfl : _ = Value.bool false)) ⟨rfl, rfl⟩ rfl rfl,
            ⟨.w rfl rfl rfl (by rintro _ _ ⟨rfl, rfl⟩; rfl) (by intro X; rintro _ _ ⟨rfl, rfl⟩ _ _ ⟨rfl, rfl⟩; exact op_pick_f rfl rfl),
            ⟨.p rfl (by intro X; rintro _ _ ⟨rfl, rfl⟩ _ _ ⟨rfl, rfl⟩; exact op_pick_f rfl rfl),
            trivial⟩⟩⟩⟩⟩⟩⟩⟩⟩⟩⟩⟩⟩⟩⟩⟩⟩⟩⟩⟩⟩⟩⟩⟩⟩⟩⟩⟩⟩⟩)
            (fun β β' => ⟨fun _ => by rfl, ⟨fun _ => by rfl, ⟨fun _ => by rfl, ⟨fun _ => by rfl, ⟨fun _ => by rfl, ⟨fun _ => by rfl, ⟨fun _ => by rfl, ⟨fun _ => by rfl, ⟨fun _ => by rfl, ⟨fun _ => by rfl, ⟨fun _ => by rfl, ⟨fun _ => by rfl, ⟨fun _ => by rfl, ⟨fun _ => by rfl, ⟨fun _ => by rfl, ⟨fun _ => by rfl, ⟨fun _ => by rfl, ⟨fun _ => by rfl, ⟨fun _ => by rfl, ⟨fun _ => by rfl, ⟨fun _ => by rfl, ⟨fun _ => by rfl, ⟨fun _ => by rfl, ⟨fun _ => by rfl, ⟨fun _ => by rfl, ⟨fun _ => by rfl, ⟨fun _ => by rfl, ⟨fun _ => by rfl, ⟨fun _ => by rfl, ⟨fun _ => by rfl, trivial⟩⟩⟩⟩⟩⟩⟩⟩⟩⟩⟩⟩⟩⟩⟩⟩⟩⟩⟩⟩⟩⟩⟩⟩⟩⟩⟩⟩⟩⟩) ?_
        intro β
        rintro _ _ ⟨rfl, rfl⟩ _ _ ⟨rfl, rfl⟩ _ _ ⟨rfl, rfl⟩ _ _ ⟨rfl, rfl⟩ _ _ ⟨rfl, rfl⟩ _ _ ⟨rfl, rfl⟩ _ _ ⟨rfl, rfl⟩ _ _ ⟨rfl, rfl⟩ _ _ ⟨rfl, rfl⟩ _ _ ⟨rfl, rfl⟩ _ _ ⟨rfl, rfl⟩ _ _ ⟨rfl, rfl⟩ _ _ ⟨rfl, rfl⟩ _ _ ⟨rfl, rfl⟩ _ _ ⟨rfl, rfl⟩ _ _ ⟨rfl, rfl⟩ _ _ ⟨rfl, rfl⟩ _ _ ⟨rfl, rfl⟩ _ _ ⟨rfl, rfl⟩ _ _ ⟨rfl, rfl⟩ _ _ ⟨rfl, rfl⟩ _ _ ⟨rfl, rfl⟩ _ _ ⟨rfl, rfl⟩ _ _ ⟨rfl, rfl⟩ _ _ ⟨rfl, rfl⟩ _ _ ⟨rfl, rfl⟩ _ _ ⟨rfl, rfl⟩ _ _ ⟨rfl, rfl⟩ _ _ ⟨rfl, rfl⟩ _ _ ⟨rfl, rfl⟩
        refine wl_norm (e' := [(3, _), (4, _), (5, _), (6, _), (7, _), (57, _)]) (.cons rfl (.cons rfl (.cons rfl (.cons rfl (.cons rfl (.cons rfl (.nil _))))))) (by dsimp only [cond_false, cond_true, List.nil_append, List.cons_append]) ?_
        refine wl_nil ?_
        refine st_tn ?_
        refine w_cond_f (rfl) ?_
        refine w_skip ?_
        refine st_tn ?_
        refine w_region ?_
        refine wl_det rfl rfl rfl (op_move rfl) ?_
        refine wl_det rfl rfl rfl (op_move rfl) ?_
        refine wl_det rfl rfl rfl (op_move rfl) ?_
        refine wl_det rfl rfl rfl (op_move rfl) ?_
        refine wl_det rfl rfl rfl (op_idx rfl rfl tS26v (Sl.ent (Sl.lab 15 rfl (by unfold maxLen; omega))) (by omega)) ?_
        refine wl_det rfl rfl rfl (op_ldx rfl tO3v (Sl.lab 15 rfl (by unfold maxLen; omega)) (by assumption) (by rfl)) ?_
        refine wl_det rfl rfl rfl (op_idxZ rfl rfl tS24v (Sl.ent (Sl.lab 12 rfl (by first | (unfold maxLen; omega) | (simp [maxLen]; done)))) (by omega) (by omega)) ?_
        refine wl_det rfl rfl rfl (op_ldxA rfl tA34v (Sl.lab 12 rfl (by first | (unfold maxLen; omega) | (simp [maxLen]; done))) (by assumption) (by rfl) (by rfl)) ?_
        refine wl_op [] rfl rfl rfl rfl (op_buildSlice (enc := encC) (l := [e]) (lab := 66) tL24_1v rfl rfl (fun _ => rfl) rfl) ?_
        rintro _ _ ⟨a66, c66, rfl, rfl⟩
        refine wl_op [6] rfl rfl rfl rfl (op_append (lab := 6) (lab' := 67) rfl rfl tP24v enc1C (Sl.lab 66 rfl (by simp [maxLen])) (by simp; omega) (by simp; omega)) ?_
        rintro _ _ ⟨a67, c67, rfl, rfl⟩
        refine wl_det rfl rfl rfl (op_assign rfl) ?_
        refine wl_nil ?_
        refine st_bn ?_
        refine st_tn ?_
        refine w_region ?_
        refine wl_det rfl rfl rfl (op_move rfl) ?_
        refine wl_det rfl rfl rfl (op_add' rfl rfl (by omega)) ?_
        refine wl_det rfl rfl rfl (op_assign rfl) ?_
        refine wl_nil ?_
        refine st_roundQ (x := (M, a_M, c_M, i)) ((M ++ [e], _, _, i + 1)) [67, 12, 15] rfl (rfl) (.cons rfl (.cons rfl (.nil _))) (.cons rfl (.cons rfl (.cons rfl (.nil _)))) (by
            try dsimp only
            exact ⟨by omega, by rw [some_snoc hk he, hM]⟩) (by
            try dsimp only
            omega) 
    · -- c25.f
      refine w_exit ?_
      refine st_te ?_
      refine st_te ?_
      refine st_be ?_
      refine st_tn ?_
      refine w_seq ?_
      refine w_seq ?_
      refine w_region ?_
      refine wl_det rfl rfl rfl (op_move rfl) ?_
      refine wl_det rfl rfl rfl (op_val (v' := .bool false) (by simp [hE]) (op_not_d rfl)) ?_
      refine wl_nil ?_
      refine st_tn ?_
      refine w_cond_f (rfl) ?_
      refine w_skip ?_
      refine st_tn ?_
      refine w_seq ?_
      refine w_seq ?_
      rw [take_all (by omega)] at hM
      have hMl : M.length = (minC l).length := by rw [hM, some_len]
      have hMm : ∀ c ∈ M, c ∈ l := by rw [hM]; exact mem_some hinr
      have hMs : Small M := ⟨fun c hc => hsm.1 c (hMm c hc), by have := hsm.2; omega⟩
      have hMb : InB M := fun c hc => hin c (hMm c hc)
      refine w_region ?_
      refine wl_det rfl rfl rfl (op_assign rfl) ?_
      refine wl_nil ?_
      refine st_tn ?_
      refine w_block ?_
      refine w_loopQ (X := Nat) (fun z => z ≤ M.length) (fun z => [(8, .int .i64 (z))]) (fun _ => []) (fun z => M.length - z) (0) [(6, _)] [(6, _), (12, _), (15, _)] [6, 12, 15] rfl (rfl) (.cons rfl (.nil _)) (.cons rfl (.nil _)) (by
          try dsimp only
          exact Nat.zero_le _) ?_
      rintro j hj
      refine w_norm2 (by dsimp only [List.cons_append, List.nil_append]) (by dsimp only [List.cons_append, List.nil_append]) ?_
      try dsimp only at hj ⊢
      refine w_seq ?_
      refine w_seq ?_
      refine w_region ?_
      refine wl_det rfl rfl rfl (op_move rfl) ?_
      refine wl_det rfl rfl rfl (op_move rfl) ?_
      refine wl_det rfl rfl rfl (op_lenT rfl tS24v (Sl.ent (Sl.lab 6 rfl (by first | (unfold maxLen; omega) | (simp [maxLen]; done))))) ?_
      refine wl_det rfl rfl rfl (op_lss rfl rfl) ?_
      refine wl_nil ?_
      refine st_tn ?_
      refine w_cond_d rfl (fun hc76 => ?_) (fun hc76 => ?_)
      · -- c76.t
        have hWf : Feas (wthL M j) := by rw [hM]; exact min_drop hE (by omega)
        have hwl := wth_len M j
        have hWs : Small (wthL M j) := ⟨fun c hc => hsm.1 c (hMm c (mem_wth hc)), by have := hMs.2; omega⟩
        have hWb : InB (wthL M j) := fun c hc => hin c (hMm c (mem_wth hc))
        refine w_skip ?_
        refine st_tn ?_
        refine w_seq ?_
        refine w_block ?_
        refine w_seq ?_
        refine w_region ?_
        refine wl_det rfl rfl rfl (op_move rfl) ?_
        refine wl_det rfl rfl rfl (op_move rfl) ?_
        refine wl_op [] rfl rfl rfl rfl (op_fn Try.func26 rfl rfl rfl (without_any 81 _ (Sl.lab 6 rfl (by first | (unfold maxLen; omega) | (simp [maxLen]; done))) (by omega) (by omega))) ?_
        rintro _ _ ⟨a81, c81, rfl, rfl⟩
        refine wl_det rfl rfl rfl (op_val (v' := .bool true) (by simp [hWf]) (op_fn Try.func19 rfl rfl rfl (feas_any (Sl.lab 81 rfl (by first | (unfold maxLen; omega) | (simp [maxLen]; done))) (by assumption) (by assumption)))) ?_
        refine wl_det rfl rfl rfl (op_not_t rfl) ?_
        refine wl_nil ?_
        refine st_tn ?_
        refine w_cond_f (rfl) ?_
        refine w_skip ?_
        refine st_bn ?_
        refine st_tn ?_
        refine w_region ?_
        refine wl_det rfl rfl rfl (op_move rfl) ?_
        refine wl_det rfl rfl rfl (op_add' rfl rfl (by omega)) ?_
        refine wl_det rfl rfl rfl (op_assign rfl) ?_
        refine wl_nil ?_
        refine st_roundQ (x := j) (j + 1) [6, 12, 15] rfl (rfl) (.cons rfl (.nil _)) (.cons rfl (.nil _)) (by
            try dsimp only
            omega) (by
            try dsimp only
            omega) 
      · -- c76.f
        refine w_exit ?_
        refine st_te ?_
        refine st_te ?_
        refine st_be ?_
        refine st_tn ?_
        refine w_seq ?_
        refine w_region ?_
        refine wl_det rfl rfl rfl (op_move rfl) ?_
        refine wl_det rfl rfl rfl (op_val (v' := .bool false) (by rw [hM]; simp [min_no hE]) (op_fn Try.func19 rfl rfl rfl (feas_any (Sl.lab 6 rfl (by first | (unfold maxLen; omega) | (simp [maxLen]; done))) (by assumption) (by assumption)))) ?_
        refine wl_det rfl rfl rfl (op_not_f rfl) ?_
        refine wl_det rfl rfl rfl (op_assign rfl) ?_
        refine wl_nil ?_
        refine st_tn ?_
        refine w_ret ?_
        refine st_ret (vs := [_]) [] Try.results6 ⟨rfl, trivial⟩ rfl ?_
        refine ⟨_, rfl, ?_⟩
        exact ⟨rfl, rfl⟩

end Go.Proofs.Ytgdjnjbipemdcaa
namespace Go.Proofs.Ytgdjnjbipemdcaa
open Go Go.SL Go.RowKit Go.ConM
set_option linter.unusedVariables false
set_option linter.unusedSimpArgs false
theorem tF34_0w : fieldB Try.prog 34 0 0 = true := by kernel_rfl
theorem tF74_1w : fieldB Try.prog 74 1 1 = true := by kernel_rfl
theorem tL26_1w : zerosB Try.prog 26 3 1 1 = some [Value.int .i64 0] := by kernel_rfl
theorem tMixw : Try.prog.follows .mixedOrders = true := by kernel_rfl
theorem tN3w : (Try.prog.info? 3).bind (·.zero) = some (Value.int .i64 0) := by kernel_rfl
theorem tN74w : (Try.prog.info? 74).bind (·.zero) = some (Value.agg #[Value.map none, Value.map none]) := by kernel_rfl
theorem tO3w : oneB Try.prog 3 = true := by kernel_rfl
theorem tO72w : oneB Try.prog 72 = true := by kernel_rfl
theorem tP26w : appB Try.prog 26 3 1 8 = true := by kernel_rfl
theorem tQ72w : mapB Try.prog 72 3 3 KZ.desc := ⟨Try.underlying72, Try.underlying3⟩
theorem tS24w : sliceB Try.prog 24 34 3 = true := by kernel_rfl
theorem tS26w : sliceB Try.prog 26 3 1 = true := by kernel_rfl
theorem tZ74w : (Try.prog.info? 74).map (·.size) = some 2 := by kernel_rfl

/-- The search from one node. -/
abbrev srA (l : List Con) (a : Int) : ConM.St × Int := search (fun _ => true) l [a]
theorem srA_inv (l : List Con) (a : Int) : ∃ (R : Nat) (r : Int → Nat), Inv (fun _ => true) l [a] R l.length (srA l a).1 r := by
  obtain ⟨r, hI⟩ := inv_sq (fun _ => true) l [a] ((nodes l).length + 1)
  obtain ⟨r', h1, _⟩ := inv_relaxTo (by omega) hI l.length
  have he : srA l a = relaxTo (fun _ => true) l (Sq (fun _ => true) l ⟨startM [a], []⟩ ((nodes l).length + 1)) l.length := search_eq (fun _ => true) l [a]
  rw [← he] at h1
  exact ⟨_, r', h1⟩
section
variable {l : List Con} {a : Int}
theorem lab_eq (hF : Feas (ownL l a)) (v : Int) : lookK KZ (srA l a).1.L v = disF l a v := congrFun (dis_search hF) v
/-- A last constraint: it lies in the component, and holds with equality. -/
theorem by_own (hF : Feas (ownL l a)) {v z : Int} (hb : lookK KZ (srA l a).1.B v = some z) : ∃ (i : Nat) (c : Con) (x : Int), z = i ∧ l[i]? = some c ∧ c ∈ ownL l a ∧ c.t = v ∧ disF l a c.f = some x ∧ disF l a v = some (x + c.b) := by
  obtain ⟨R, r, hI⟩ := srA_inv l a
  obtain ⟨i, c, x, y, hz, hi, _, ht, hx, hy, hxy, _⟩ := hI.by_ v z hb
  rw [lab_eq hF] at hx hy
  have hco : c ∈ ownL l a := mem_own.2 ⟨List.mem_of_getElem? hi, comp_in (by rw [hx]; rfl)⟩
  have := stF_holds (disF_st hF) hco hx (by rw [ht]; exact hy)
  have hy2 : y = x + c.b := by omega
  exact ⟨i, c, x, hz, hi, hco, ht, hx, by rw [hy, hy2]⟩
theorem pth_pot (hF : Feas (ownL l a)) {φ : Int → Int} (hφ : ∀ c ∈ ownL l a, φ c.t ≤ φ c.f + c.b) {v u n : Int} {j : Nat} (h : Pth l (srA l a).1.B v j u n) : φ v ≤ φ u + n := by
  induction h with
  | nil v => omega
  | @step v u n i j c hb hc hp ih =>
    obtain ⟨i', c', x, hz, hi, hco, ht, _⟩ := by_own hF hb
    have : i = i' := by omega
    subst this
    rw [hc] at hi; simp only [Option.some.injEq] at hi; subst hi
    have := hφ c hco
    rw [ht] at this; omega
theorem no_cyc (hF : Feas (ownL l a)) {v n : Int} {j : Nat} (h : Pth l (srA l a).1.B v (j + 1) v n) : False := by
  obtain ⟨R, r, hI⟩ := srA_inv l a
  have h1 := hI.cyc _ _ _ h
  obtain ⟨φ, hφ⟩ := feas_pot hF
  have := pth_pot hF hφ h
  omega
/-- One step back from a node that is reached and is not the first one. -/
theorem back_one (hF : Feas (ownL l a)) {v y : Int} (hv : disF l a v = some y) (hne : v ≠ a) : ∃ (c : Con) (x : Int), lookK KZ (srA l a).1.B v = some ((byI (srA l a).1.B v : Nat) : Int) ∧ l[byI (srA l a).1.B v]? = some c ∧ c.t = v ∧ c.f = nx l (srA l a).1.B v ∧ disF l a c.f = some x ∧ y = x + c.b := by
  obtain ⟨R, r, hI⟩ := srA_inv l a
  cases hb : lookK KZ (srA l a).1.B v with
  | none =>
    have := (hI.no v y (by rw [lab_eq hF]; exact hv) hb).1
    simp at this; exact absurd this hne
  | some z =>
    obtain ⟨i, c, x, rfl, hi, hco, ht, hx, hy⟩ := by_own hF hb
    have hby : byI (srA l a).1.B v = i := by unfold byI; rw [hb]; simp
    refine ⟨c, x, by rw [hby], by rw [hby]; exact hi, ht, ?_, hx, by rw [hv] at hy; simpa using hy⟩
    unfold nx; rw [hby, List.getD_eq_getElem?_getD, hi]; rfl
/-- The way back from a node that is reached. -/
theorem back_way (hF : Feas (ownL l a)) {b d : Int} (hd : disF l a b = some d) : ∀ J, (∀ t, t < J → nxN l (srA l a).1.B t b ≠ a) → (∃ n, Pth l (srA l a).1.B b J (nxN l (srA l a).1.B J b) n) ∧ disF l a (nxN l (srA l a).1.B J b) = some (d - bS l (srA l a).1.B b J)
  | 0, _ => ⟨⟨0, .nil b⟩, by rw [show d - bS l (srA l a).1.B b 0 = d by show d - 0 = d; omega]; exact hd⟩
  | J + 1, h => by
    obtain ⟨⟨n, hp⟩, hl⟩ := back_way hF hd J (fun t ht => h t (by omega))
    obtain ⟨c, x, hb, hc, _, hf, hx, hy⟩ := back_one hF hl (h J (by omega))
    have hp2 := pth_snoc hp hb hc
    have e : nxN l (srA l a).1.B (J + 1) b = c.f := hf.symm
    have e2 : bS l (srA l a).1.B b (J + 1) = bS l (srA l a).1.B b J + c.b := by
      show _ + (l.getD _ _).b = _; rw [List.getD_eq_getElem?_getD, hc]; rfl
    refine ⟨⟨_, by rw [e]; exact hp2⟩, ?_⟩
    rw [e, hx, e2]; congr 1; omega
theorem back_ends (hF : Feas (ownL l a)) {b d : Int} (hb : b ∈ nodes l) (hd : disF l a b = some d) : ∃ J, J < (nodes l).length + 1 ∧ nxN l (srA l a).1.B J b = a := Classical.byContradiction fun hno => by
  obtain ⟨⟨n, hp⟩, _⟩ := back_way hF hd ((nodes l).length) (fun t ht e => hno ⟨t, by omega, e⟩)
  obtain ⟨m, k, n', hc⟩ := pth_cycle hb hp (Nat.le_refl _)
  exact no_cyc hF hc
/-- The number of constraints of a chain. -/
def chJ (l : List Con) (B : ZM) (a b : Int) : Nat := (List.range ((nodes l).length + 1)).findIdx fun t => decide (nxN l B t b = a)
theorem chJ_spec (hF : Feas (ownL l a)) {b d : Int} (hb : b ∈ nodes l) (hd : disF l a b = some d) : chJ l (srA l a).1.B a b ≤ (nodes l).length ∧ nxN l (srA l a).1.B (chJ l (srA l a).1.B a b) b = a ∧ ∀ t, t < chJ l (srA l a).1.B a b → nxN l (srA l a).1.B t b ≠ a := by
  obtain ⟨J, h1, h2⟩ := back_ends hF hb hd
  have hlt : chJ l (srA l a).1.B a b < (List.range ((nodes l).length + 1)).length := List.findIdx_lt_length_of_exists ⟨J, List.mem_range.2 h1, by simpa using h2⟩
  have h3 : (fun t => decide (nxN l (srA l a).1.B t b = a)) ((List.range ((nodes l).length + 1))[chJ l (srA l a).1.B a b]'hlt) = true := List.findIdx_getElem (w := hlt)
  rw [List.getElem_range] at h3
  rw [List.length_range] at hlt
  refine ⟨by omega, ?_, fun t ht => ?_⟩
  · simpa using h3
  · have := List.not_of_lt_findIdx ht
    simpa using this
theorem way_distinct (hF : Feas (ownL l a)) {b d : Int} (hd : disF l a b = some d) {J : Nat} (hJ : ∀ t, t < J → nxN l (srA l a).1.B t b ≠ a) {i j : Nat} (hij : i < j) (hj : j ≤ J) : nxN l (srA l a).1.B i b ≠ nxN l (srA l a).1.B j b := fun e => by
  obtain ⟨⟨n, hp⟩, _⟩ := back_way hF hd j (fun t ht => hJ t (by omega))
  obtain ⟨m, n1, n2, h1, h2, _⟩ := pth_split i (j := j - i) (by rw [show i + (j - i) = j by omega]; exact hp)
  have hm := pth_nx h1
  rw [← e, ← hm, show j - i = (j - i - 1) + 1 by omega] at h2
  exact no_cyc hF h2
theorem chain_run2 {B : ZM} {q : Int} (n0 : Int) (m : Nat) (hcon : ∀ t, t < m → ∃ c, l[byI B (nxN l B t q)]? = some c ∧ c.t = nxN l B t q ∧ c.f = nxN l B (t + 1) q) : ∀ j, j ≤ m → (revL l B q m j).foldl (stepL l) (some (n0, nxN l B m q)) = some (n0 + bS l B q m - bS l B q (m - j), nxN l B (m - j) q)
  | 0, _ => by simp [revL]
  | j + 1, hj => by
    rw [revL_succ, foldl_snoc, chain_run2 n0 m hcon j (by omega)]
    obtain ⟨c, h1, h2, h3⟩ := hcon (m - 1 - j) (by omega)
    have hlt := (List.getElem?_eq_some_iff.1 h1).1
    rw [step_good (c := c) (by rw [Int.toNat_natCast]; exact h1) ⟨by omega, by omega⟩ (by rw [h3, show m - 1 - j + 1 = m - j by omega])]
    have e : bS l B q (m - j) = bS l B q (m - (j + 1)) + c.b := by
      rw [show m - j = (m - (j + 1)) + 1 by omega]
      show _ + (l.getD _ _).b = _
      rw [show m - (j + 1) = m - 1 - j by omega, List.getD_eq_getElem?_getD, h1]; rfl
    rw [h2, show m - 1 - j = m - (j + 1) by omega]
    congr 2; omega
end
/-- What Chain returns. -/
noncomputable def chnL (l : List Con) (a b : Int) : List Int := if (distR l a b).2 ≠ 0 then [] else revL l (srA l a).1.B b (chJ l (srA l a).1.B a b) (chJ l (srA l a).1.B a b)
/-- What a chain is. -/
structure Chn (l : List Con) (a b d : Int) (o : List Int) : Prop where
  few : o.length ≤ (nodes l).length
  inr : ∀ x ∈ o, 0 ≤ x ∧ x < l.length
  len : lenL l o a b = some d
  smp : (o.map (frI l)).Nodup
  end_ : ∀ x ∈ o, frI l x ≠ b
theorem chn_ok {l : List Con} {a b : Int} (h : ¬ (distR l a b).2 ≠ 0) : Chn l a b (distR l a b).1 (chnL l a b) := by
  obtain ⟨d, hd⟩ : ∃ d, distR l a b = (d, 0) := ⟨(distR l a b).1, Prod.ext rfl (by simpa using h)⟩
  obtain ⟨ha, hb, hF, hdis⟩ := dist_ok.1 hd
  have hL : chnL l a b = revL l (srA l a).1.B b (chJ l (srA l a).1.B a b) (chJ l (srA l a).1.B a b) := if_neg h
  obtain ⟨hJ1, hJ2, hJ3⟩ := chJ_spec hF hb hdis
  rw [hL, hd]
  generalize chJ l (srA l a).1.B a b = J at hJ1 hJ2 hJ3 ⊢
  have hcon : ∀ t, t < J → ∃ c, l[byI (srA l a).1.B (nxN l (srA l a).1.B t b)]? = some c ∧ c.t = nxN l (srA l a).1.B t b ∧ c.f = nxN l (srA l a).1.B (t + 1) b := fun t ht => by
    obtain ⟨_, hl⟩ := back_way hF hdis t (fun u hu => hJ3 u (by omega))
    obtain ⟨c, x, _, hc, h1, h2, _⟩ := back_one hF hl (hJ3 t ht)
    exact ⟨c, hc, h1, h2⟩
  have hfr : ∀ t, t < J → frI l ((byI (srA l a).1.B (nxN l (srA l a).1.B t b) : Nat) : Int) = nxN l (srA l a).1.B (t + 1) b := fun t ht => by
    obtain ⟨c, h1, _, h3⟩ := hcon t ht
    unfold frI; rw [Int.toNat_natCast, List.getD_eq_getElem?_getD, h1]; exact h3
  have hmem : ∀ x ∈ revL l (srA l a).1.B b J J, ∃ t, t < J ∧ x = ((byI (srA l a).1.B (nxN l (srA l a).1.B t b) : Nat) : Int) := fun x hx => by
    unfold revL at hx
    obtain ⟨u, hu, rfl⟩ := List.mem_map.1 hx
    have := List.mem_range.1 hu
    exact ⟨J - 1 - u, by omega, rfl⟩
  refine ⟨by rw [revL_len]; exact hJ1, fun x hx => ?_, ?_, ?_, fun x hx => ?_⟩
  · obtain ⟨t, ht, rfl⟩ := hmem x hx
    obtain ⟨c, h1, _⟩ := hcon t ht
    have := (List.getElem?_eq_some_iff.1 h1).1
    omega
  · have h1 := chain_run2 (l := l) (B := (srA l a).1.B) (q := b) 0 J hcon J (Nat.le_refl _)
    rw [hJ2, Nat.sub_self] at h1
    unfold lenL chainL
    rw [h1]
    have h2 := (back_way hF hdis J hJ3).2
    rw [hJ2, dis_self hF] at h2
    simp only [Option.some.injEq] at h2
    have e0 : nxN l (srA l a).1.B 0 b = b := rfl
    have e1 : bS l (srA l a).1.B b 0 = 0 := rfl
    simp only [e0, e1, if_true]
    congr 1; omega
  · rw [← cycO_rev, List.map_reverse]; refine (List.reverse_perm _).nodup_iff.2 ?_
    unfold cycO
    rw [List.map_map, List.Nodup, List.pairwise_map]
    refine List.pairwise_lt_range.imp_of_mem fun {i j} hi hj hij => ?_
    have hi := List.mem_range.1 hi
    have hj := List.mem_range.1 hj
    intro e
    simp only [Function.comp] at e
    rw [hfr i hi, hfr j hj] at e
    exact way_distinct hF hdis hJ3 (by omega) (by omega) e
  · obtain ⟨t, ht, rfl⟩ := hmem x hx
    rw [hfr t ht]
    intro e
    exact way_distinct hF hdis hJ3 (i := 0) (j := t + 1) (by omega) (by omega) e.symm
theorem srA_idx (l : List Con) (a : Int) : Idx l.length (srA l a).1.B := idx_search
set_option maxHeartbeats 2000000 in
set_option maxRecDepth 100000 in
theorem chain_any {σ : World} {F : List Res} {a : Option Addr} {c : Nat} {l : List Con} (lab : Nat) (x y : Int) (h : Sl σ F encC 3 (.slice a l.length c) l) (hl : Small l) (hb : InB l) :
    FnT Try.prog σ F 27 [.slice a l.length c, .int .i64 x, .int .i64 y] [] (fun u ρ => ∃ a c, u = .tuple #[.slice a (chnL l x y).length c, .int .i64 (distR l x y).2] ∧ ρ = [(lab, slW 3 SL.encZ 1 (.slice a (chnL l x y).length c) (chnL l x y))]) := by
  refine fn_of 50 Try.func27 rfl Try.ntmps27 rfl ?_
  have hle := h.i64
  have hl2 := hl.2
  have hnl := len_nodes l
  have hidx := srA_idx l x
  have hde := dist_eq l x y
  refine w_seq ?_
  refine w_region ?_
  refine wl_det rfl rfl rfl (op_assign rfl) ?_
  refine wl_det rfl rfl rfl (op_assign rfl) ?_
  refine wl_nil ?_
  refine st_tn ?_
  refine w_seq ?_
  refine w_seq ?_
  refine w_region ?_
  refine wl_det rfl rfl rfl (op_move rfl) ?_
  refine wl_det rfl rfl rfl (op_move rfl) ?_
  refine wl_det rfl rfl rfl (op_move rfl) ?_
  refine wl_det rfl rfl rfl (op_val (v' := .tuple #[.int .i64 (distR l x y).1, .int .i64 (distR l x y).2]) (by rw [hde]) (op_fn Try.func22 rfl rfl rfl (dist_any x y (Sl.app h _) hl hb))) ?_
  refine wl_det rfl rfl rfl (op_move rfl) ?_
  refine wl_det rfl rfl rfl (op_extract rfl rfl) ?_
  refine wl_det rfl rfl rfl (op_extract rfl rfl) ?_
  refine wl_det rfl rfl rfl (op_assign rfl) ?_
  refine wl_det rfl rfl rfl (op_assign rfl) ?_
  refine wl_nil ?_
  refine st_tn ?_
  refine w_seq ?_
  refine w_region ?_
  refine wl_det rfl rfl rfl (op_move rfl) ?_
  refine wl_det rfl rfl rfl (op_neq rfl rfl) ?_
  refine wl_nil ?_
  refine st_tn ?_
  refine w_cond_d rfl (fun hc22 => ?_) (fun hc22 => ?_)
  · -- c22.t
    refine w_seq ?_
    refine w_emp 77 (slO_nil 3 1) ?_
    refine w_region ?_
    refine wl_det rfl rfl rfl (op_move rfl) ?_
    refine wl_det rfl rfl rfl (op_assign rfl) ?_
    refine wl_det rfl rfl rfl (op_assign rfl) ?_
    refine wl_nil ?_
    refine st_tn ?_
    refine w_ret ?_
    refine st_tr ?_
    refine st_ret (vs := [_, _]) [77] Try.results27 ⟨rfl, ⟨rfl, trivial⟩⟩ rfl ?_
    refine ⟨[(lab, _)], rfl, ?_⟩
    have h1 : chnL l x y = [] := if_pos hc22
    rw [h1]; exact ⟨none, 0, rfl, rfl⟩
  · -- c22.f
    refine w_skip ?_
    refine st_tn ?_
    refine w_seq ?_
    obtain ⟨d, hd⟩ : ∃ d, distR l x y = (d, 0) := ⟨(distR l x y).1, Prod.ext rfl (by simpa using hc22)⟩
    obtain ⟨hxn, hyn, hF, hdis⟩ := dist_ok.1 hd
    have hn0 : 0 < l.length := by
      obtain ⟨c0, hc0, _⟩ := mem_nodes.1 hxn
      exact List.length_pos_of_mem hc0
    obtain ⟨hJ1, hJ2, hJ3⟩ := chJ_spec hF hyn hdis
    refine w_region ?_
    refine wl_det rfl rfl rfl (op_move rfl) ?_
    refine wl_det rfl rfl rfl (op_move rfl) ?_
    refine wl_op [] rfl rfl rfl rfl (op_buildSlice (enc := SL.encZ) (l := [x]) (lab := 27) tL26_1w rfl rfl (fun _ => rfl) rfl) ?_
    rintro _ _ ⟨a27, c27, rfl, rfl⟩
    refine wl_op [] rfl rfl rfl rfl (op_fn Try.func43 rfl rfl rfl (search_any (fr := [x]) 24 25 (Sl.app h _) (Sl.lab 27 rfl (by simp [maxLen])) (useAll _) hl hb (by simp))) ?_
    rintro _ _ ⟨bL24, cB24, rfl, rfl⟩
    refine wl_det rfl rfl rfl (op_move rfl) ?_
    refine wl_det rfl rfl rfl (op_extract rfl rfl) ?_
    refine wl_det rfl rfl rfl (op_extract rfl rfl) ?_
    refine wl_op [] rfl rfl rfl rfl (op_alloc (l := 10) tN74w) ?_
    rintro _ _ ⟨b10, rfl, rfl⟩
    refine wl_op0 [10] rfl rfl rfl (op_store rfl rfl tZ74w (by rfl) (by rfl) (by exact Nat.le_of_ble_eq_true rfl)) ?_
    rintro _ _ ⟨rfl, rfl⟩
    refine wl_det rfl rfl rfl (op_assign rfl) ?_
    refine wl_nil ?_
    refine st_tn ?_
    refine w_seq ?_
    refine w_region ?_
    refine wl_det rfl rfl rfl (op_assign rfl) ?_
    refine wl_nil ?_
    refine st_tn ?_
    refine w_seq ?_
    refine w_block ?_
    refine w_emp 12 (slO_nil 3 1) ?_
    refine w_loopQ (X := Int × List Int × Option Addr × Nat) (fun z => z.2.1.length ≤ chJ l (srA l x).1.B x y ∧ z.2.1 = cycO l (srA l x).1.B y z.2.1.length ∧ z.1 = nxN l (srA l x).1.B z.2.1.length y) (fun z => [(2, .int .i64 (z.1)), (12, .slice (z.2.2.1) (z.2.1).length (z.2.2.2))]) (fun z => [(12, slW 3 SL.encZ 1 (.slice (z.2.2.1) (z.2.1).length (z.2.2.2)) (z.2.1))]) (fun z => chJ l (srA l x).1.B x y - z.2.1.length) ((y, [], none, 0)) [(0, _), (1, _), (10, _)] [(27, _), (24, _), (25, _), (10, _)] [12, 27, 24, 25, 10] rfl (rfl) (.cons rfl (.cons rfl (.nil _))) (.cons rfl (.cons rfl (.cons rfl (.nil _)))) (by
        try dsimp only
        exact ⟨Nat.zero_le _, rfl, rfl⟩) ?_
    rintro ⟨q, out, a_out, c_out⟩ ⟨hlo, ho, hq⟩
    refine w_norm2 (by dsimp only [List.cons_append, List.nil_append]) (by dsimp only [List.cons_append, List.nil_append]) ?_
    try dsimp only at hlo ho hq ⊢
    refine w_seq ?_
    refine w_seq ?_
    refine w_region ?_
    refine wl_det rfl rfl rfl (op_move rfl) ?_
    refine wl_det rfl rfl rfl (op_move rfl) ?_
    refine wl_det rfl rfl rfl (op_neq rfl rfl) ?_
    refine wl_nil ?_
    refine st_tn ?_
    refine w_cond_d rfl (fun hc33 => ?_) (fun hc33 => ?_)
    · -- c33.t
      have hx := getB hidx hn0 q
      have hby := (byI_lt hidx hn0 q).1
      have hlt : out.length < chJ l (srA l x).1.B x y := Nat.lt_of_le_of_ne hlo fun e => hc33 (by rw [hq, e]; exact hJ2)
      refine w_skip ?_
      refine st_tn ?_
      refine w_block ?_
      refine w_seq ?_
      refine w_region ?_
      refine wl_det rfl rfl rfl (op_fieldAddr (off := 1) rfl tF74_1w) ?_
      refine wl_det rfl rfl rfl (op_load1 rfl tO72w (Ent.lab (l := 10) rfl (says_cel 1))) ?_
      refine wl_det rfl rfl rfl (op_move rfl) ?_
      refine wl_det rfl rfl rfl (op_val (v' := .int .i64 (byI (srA l x).1.B q : Nat)) (by exact lookB hidx hn0 q) (op_lookup (kt := KZ) (encV := encVZ) rfl rfl tQ72w tN3w (Mr.lab 25 rfl))) ?_
      refine wl_det rfl rfl rfl (op_assign rfl) ?_
      refine wl_nil ?_
      refine st_tn ?_
      refine w_drawW (fun β => [⟨38, [], [], [], noW (_), false, [], [12]⟩, ⟨39, [], [], [], noW (_), false, [], []⟩, ⟨40, [1], [], [], fun w => DetW _ _, false, [], []⟩, ⟨41, [0, 2], [], [(12, _)], fun w => DetW _ _, false, [], []⟩, ⟨42, [], [], [], noW (_), false, [], []⟩, ⟨43, [], [], [], noW (_), false, [], []⟩, ⟨44, [4, 5], [], [], noW (_), false, [], []⟩, ⟨45, [6], [], [], noW (_), false, [], []⟩, ⟨46, [7], [], [], noW (_), false, [], []⟩, ⟨12, [3], [], [], noW (_), false, [], []⟩]) [12] [13, 0] [⟨38, [], [], false, [], [12]⟩, ⟨39, [], [], false, [], []⟩, ⟨40, [1], [], false, [], []⟩, ⟨41, [0, 2], [], false, [], []⟩, ⟨42, [], [], false, [], []⟩, ⟨43, [], [], false, [], []⟩, ⟨44, [4, 5], [], false, [], []⟩, ⟨45, [6], [], false, [], []⟩, ⟨46, [7], [], false, [], []⟩, ⟨12, [3], [], false, [], []⟩] [[], [], [], [2], [], [], [], [], [], [2, 3]] [[], [], [], [(12, _)], [], [], [], [], [], []] tMixw (fun _ => by rfl) (fun _ => by rfl) (by kernel_rfl) (by kernel_rfl) (by rfl) (by rfl)
          (fun β => ⟨.p rfl (by intro X; exact op_move rfl),
          ⟨.p rfl (by intro X; exact op_move rfl),
          ⟨.px rfl (by intro X; rintro _ _ ⟨rfl, rfl⟩; refine OpT.mono (op_buildSlice (enc := SL.encZ) (l := [(byI (srA l x).1.B q : Int)]) (lab := 40) tL26_1w rfl rfl (fun _ => rfl) rfl) ?_; rintro _ _ ⟨a40, c40, rfl, rfl⟩; obtain ⟨w, rfl, rfl⟩ : ∃ w : Wt, w.a = a40 ∧ w.c = c40 := ⟨{ a := a40, c := c40 }, rfl, rfl⟩; exact ⟨w, rfl, rfl⟩),
          ⟨.px rfl (by intro X; rintro _ _ ⟨rfl, rfl⟩ _ _ ⟨rfl, rfl⟩; refine OpT.mono (op_append (lab := 12) (lab' := 41) rfl rfl tP26w SL.enc1Z (Sl.lab 40 rfl (by simp [maxLen])) (by simp; omega) (by simp; omega)) ?_; rintro _ _ ⟨a41, c41, rfl, rfl⟩; obtain ⟨w, rfl, rfl⟩ : ∃ w : Wt, w.a = a41 ∧ w.c = c41 := ⟨{ a := a41, c := c41 }, rfl, rfl⟩; exact ⟨w, rfl, rfl⟩),
          ⟨.p rfl (by intro X; exact op_move rfl),
          ⟨.p rfl (by intro X; exact op_move rfl),
          ⟨.p rfl (by intro X; rintro _ _ ⟨rfl, rfl⟩ _ _ ⟨rfl, rfl⟩; exact op_idx rfl rfl tS24w (Sl.ent (Sl.app (Sl.app h X) _)) (by omega)),
          ⟨.p rfl (by intro X; rintro _ _ ⟨rfl, rfl⟩; exact op_fieldAddr (off := 0) rfl tF34_0w),
          ⟨.p rfl (by intro X; rintro _ _ ⟨rfl, rfl⟩; exact op_ldxf rfl tO3w (Sl.app (Sl.app h X) _) (by assumption) (by rfl)),
          ⟨.p rfl (by intro X; rintro _ _ ⟨rfl, rfl⟩; exact op_assign rfl),
          trivial⟩⟩⟩⟩⟩⟩⟩⟩⟩⟩)
          (fun β β' => ⟨fun _ => by rfl, ⟨fun _ => by rfl, ⟨fun _ => by rfl, ⟨fun h => by first | rfl | (simp only [h 2 (by decide)]), ⟨fun _ => by rfl, ⟨fun _ => by rfl, ⟨fun _ => by rfl, ⟨fun _ => by rfl, ⟨fun _ => by rfl, ⟨fun h => by first | rfl | (simp only [h 2 (by decide), h 3 (by decide)]), trivial⟩⟩⟩⟩⟩⟩⟩⟩⟩⟩) ?_
      intro β
      rintro _ _ ⟨rfl, rfl⟩ _ _ ⟨rfl, rfl⟩ _ _ ⟨rfl, rfl⟩ _ _ ⟨rfl, rfl⟩ _ _ ⟨rfl, rfl⟩ _ _ ⟨rfl, rfl⟩ _ _ ⟨rfl, rfl⟩ _ _ ⟨rfl, rfl⟩ _ _ ⟨rfl, rfl⟩ _ _ ⟨rfl, rfl⟩
      generalize (β 2).a = a40
      generalize (β 2).c = c40
      generalize (β 3).a = a41
      generalize (β 3).c = c41
      refine wl_norm (e' := [(0, _), (1, _), (10, _), (12, _), (46, _)]) (.cons rfl (.cons rfl (.cons rfl (.cons rfl (.cons rfl (.nil _)))))) (by dsimp only [cond_false, cond_true, List.nil_append, List.cons_append]) ?_
      refine wl_det rfl rfl rfl (op_assign rfl) ?_
      refine wl_nil ?_
      refine st_bn ?_
      refine st_roundQ (x := (q, out, a_out, c_out)) ((nx l (srA l x).1.B q, out ++ [(byI (srA l x).1.B q : Int)], _, _)) [41, 27, 24, 25, 10] rfl (rfl) (.cons rfl (.cons rfl (.nil _))) (.cons rfl (.cons rfl (.cons rfl (.nil _)))) (by
          try dsimp only
          rw [List.length_append, List.length_singleton]; exact ⟨by omega, by rw [cycO_snoc, ← ho, ← hq], by rw [hq]; rfl⟩) (by
          try dsimp only
          rw [List.length_append, List.length_singleton]; omega) 
    · -- c33.f
      refine w_exit ?_
      refine st_te ?_
      refine st_te ?_
      refine st_be ?_
      refine st_tn ?_
      refine w_seq ?_
      have hJ : out.length = chJ l (srA l x).1.B x y := Classical.byContradiction fun hne => hJ3 out.length (by omega) (by rw [← hq]; exact Classical.not_not.1 hc33)
      have hout : out = cycO l (srA l x).1.B y (chJ l (srA l x).1.B x y) := by rw [← hJ]; exact ho
      have hol : out.length ≤ 8192 := by omega
      refine w_region ?_
      refine wl_det rfl rfl rfl (op_move rfl) ?_
      refine wl_op [12] rfl rfl rfl rfl (op_fn Try.func45 rfl rfl rfl (reverse_any 12 (by omega))) ?_
      rintro _ _ ⟨rfl, rfl⟩
      refine wl_nil ?_
      refine st_tn ?_
      refine w_seq ?_
      refine w_region ?_
      refine wl_det rfl rfl rfl (op_move rfl) ?_
      refine wl_det rfl rfl rfl (op_assign rfl) ?_
      refine wl_det rfl rfl rfl (op_assign rfl) ?_
      refine wl_nil ?_
      refine st_tn ?_
      refine w_ret ?_
      refine st_ret (vs := [_, _]) [12] Try.results27 ⟨rfl, ⟨rfl, trivial⟩⟩ rfl ?_
      refine ⟨[(lab, _)], rfl, ?_⟩
      have h1 : chnL l x y = out.reverse := by unfold chnL; rw [if_neg hc22, hout, cycO_rev]
      rw [h1, List.length_reverse, hd]; exact ⟨_, _, rfl, rfl⟩

set_option maxHeartbeats 4000000 in
set_option maxRecDepth 100000 in
theorem lawChains_any {σ : World} {F : List Res} {a : Option Addr} {c : Nat} {s : List Arc} (x y : Int) (h : Sl σ F encA 3 (.slice a s.length c) s) (hs : OkA s) (hx : 0 ≤ x ∧ x ≤ 255) (hy : 0 ≤ y ∧ y ≤ 255) :
    FnT Try.prog σ F 7 [.slice a s.length c, .int .u8 x, .int .u8 y] [] (fun u ρ => u = .bool true ∧ ρ = []) := by
  refine fn_of 104 Try.func7 rfl Try.ntmps7 rfl ?_
  have hle := h.i64
  obtain ⟨hfew, hsm, hin, hno, hbn⟩ := sys_ok hs
  obtain ⟨l, hl⟩ : ∃ l, l = sysL s := ⟨_, rfl⟩
  rw [← hl] at hfew hsm hin hno hbn
  refine w_seq ?_
  refine w_region ?_
  refine wl_det rfl rfl rfl (op_assign rfl) ?_
  refine wl_nil ?_
  refine st_tn ?_
  refine w_seq ?_
  refine w_seq ?_
  refine w_region ?_
  refine wl_det rfl rfl rfl (op_fn Try.func15 rfl rfl rfl (known_any)) ?_
  refine wl_det rfl rfl rfl (op_not_t rfl) ?_
  refine wl_nil ?_
  refine st_tn ?_
  refine w_cond_f (rfl) ?_
  refine w_skip ?_
  refine st_tn ?_
  refine w_seq ?_
  refine w_region ?_
  refine wl_det rfl rfl rfl (op_move rfl) ?_
  refine wl_op [] rfl rfl rfl rfl (op_fn Try.func16 rfl rfl rfl (sys_any 22 (by first | exact Sl.app (by assumption) _ | exact Sl.app (Sl.app (by assumption) _) _) (by assumption))) ?_
  rintro _ _ ⟨a22, c22, rfl, rfl⟩
  refine wl_det rfl rfl rfl (op_move rfl) ?_
  refine wl_det rfl rfl rfl (op_remN rfl rfl (by omega) (by omega)) ?_
  refine wl_det rfl rfl rfl (op_convI64 rfl (by rw [Try.underlying5]; rfl) Try.underlying3 (by omega)) ?_
  refine wl_det rfl rfl rfl (op_sub' rfl rfl (by omega)) ?_
  refine wl_det rfl rfl rfl (op_move rfl) ?_
  refine wl_det rfl rfl rfl (op_remN rfl rfl (by omega) (by omega)) ?_
  refine wl_det rfl rfl rfl (op_convI64 rfl (by rw [Try.underlying5]; rfl) Try.underlying3 (by omega)) ?_
  refine wl_det rfl rfl rfl (op_sub' rfl rfl (by omega)) ?_
  refine wl_det rfl rfl rfl (op_assign rfl) ?_
  refine wl_det rfl rfl rfl (op_assign rfl) ?_
  refine wl_det rfl rfl rfl (op_assign rfl) ?_
  refine wl_nil ?_
  refine st_tn ?_
  refine w_seq ?_
  rw [← hl]
  have hnl := len_nodes l
  obtain ⟨A, hA⟩ : ∃ A, A = x % 6 - 1 := ⟨_, rfl⟩
  obtain ⟨B, hB⟩ : ∃ B, B = y % 6 - 1 := ⟨_, rfl⟩
  rw [← hA, ← hB]
  refine w_region ?_
  refine wl_det rfl rfl rfl (op_move rfl) ?_
  refine wl_det rfl rfl rfl (op_move rfl) ?_
  refine wl_det rfl rfl rfl (op_move rfl) ?_
  refine wl_op [] rfl rfl rfl rfl (op_fn Try.func27 rfl rfl rfl (chain_any 35 A B (Sl.lab 22 rfl (by unfold maxLen; omega)) hsm hin)) ?_
  rintro _ _ ⟨a35, c35, rfl, rfl⟩
  refine wl_det rfl rfl rfl (op_move rfl) ?_
  refine wl_det rfl rfl rfl (op_extract rfl rfl) ?_
  refine wl_det rfl rfl rfl (op_extract rfl rfl) ?_
  refine wl_det rfl rfl rfl (op_assign rfl) ?_
  refine wl_det rfl rfl rfl (op_assign rfl) ?_
  refine wl_nil ?_
  refine st_tn ?_
  refine w_seq ?_
  refine w_region ?_
  refine wl_det rfl rfl rfl (op_move rfl) ?_
  refine wl_op [] rfl rfl rfl rfl (op_fn Try.func16 rfl rfl rfl (show FnT _ _ _ _ _ _ (fun u ρ => ∃ a c, u = .slice a l.length c ∧ ρ = [(40, slW 34 encC 3 (.slice a l.length c) l)]) from hl ▸ sys_any 40 (Sl.app h _) (by assumption))) ?_
  rintro _ _ ⟨a40, c40, rfl, rfl⟩
  refine wl_det rfl rfl rfl (op_move rfl) ?_
  refine wl_det rfl rfl rfl (op_move rfl) ?_
  refine wl_op [] rfl rfl rfl rfl (op_fn Try.func27 rfl rfl rfl (chain_any 43 A B (Sl.lab 40 rfl (by unfold maxLen; omega)) hsm hin)) ?_
  rintro _ _ ⟨a43, c43, rfl, rfl⟩
  refine wl_det rfl rfl rfl (op_move rfl) ?_
  refine wl_det rfl rfl rfl (op_extract rfl rfl) ?_
  refine wl_det rfl rfl rfl (op_extract rfl rfl) ?_
  refine wl_det rfl rfl rfl (op_assign rfl) ?_
  refine wl_det rfl rfl rfl (op_assign rfl) ?_
  refine wl_nil ?_
  refine st_tn ?_
  refine w_seq ?_
  refine w_region ?_
  refine wl_det rfl rfl rfl (op_move rfl) ?_
  refine wl_det rfl rfl rfl (op_move rfl) ?_
  refine wl_det rfl rfl rfl (op_move rfl) ?_
  refine wl_det rfl rfl rfl (op_fn Try.func23 rfl rfl rfl (rdist_any _ _ (Sl.lab 22 rfl (by unfold maxLen; omega)) (by assumption) (by assumption))) ?_
  refine wl_det rfl rfl rfl (op_move rfl) ?_
  refine wl_det rfl rfl rfl (op_extract rfl rfl) ?_
  refine wl_det rfl rfl rfl (op_extract rfl rfl) ?_
  refine wl_det rfl rfl rfl (op_assign rfl) ?_
  refine wl_det rfl rfl rfl (op_assign rfl) ?_
  refine wl_nil ?_
  refine st_tn ?_
  refine w_seq ?_
  refine w_seq ?_
  have hcl : (chnL l A B).length ≤ 8192 := by
    by_cases hE : (distR l A B).2 ≠ 0
    · rw [show chnL l A B = [] from if_pos hE]; simp
    · have := (chn_ok hE).few; omega
  refine w_region ?_
  refine wl_det rfl rfl rfl (op_move rfl) ?_
  refine wl_det rfl rfl rfl (op_move rfl) ?_
  refine wl_det rfl rfl rfl (op_val (v' := .bool false) (by simp) (op_neq rfl rfl)) ?_
  refine wl_det rfl rfl rfl (op_move rfl) ?_
  refine wl_wanted_det rfl rfl rfl rfl rfl rfl rfl (op_move rfl) ?_
  refine wl_wanted_det rfl rfl rfl rfl rfl rfl rfl (op_move rfl) ?_
  refine wl_wanted_det rfl rfl rfl rfl rfl rfl rfl (op_val (v' := .bool true) (by simp) (op_fn Try.func18 rfl rfl rfl (same_any (Sl.lab 35 rfl (by unfold maxLen; omega)) (Sl.lab 43 rfl (by unfold maxLen; omega))))) ?_
  refine wl_wanted_det rfl rfl rfl rfl rfl rfl rfl (op_not_t rfl) ?_
  refine wl_det rfl rfl rfl (op_pick_f rfl rfl) ?_
  refine wl_nil ?_
  refine st_tn ?_
  refine w_cond_f (rfl) ?_
  refine w_skip ?_
  refine st_tn ?_
  refine w_seq ?_
  refine w_seq ?_
  refine w_region ?_
  refine wl_det rfl rfl rfl (op_move rfl) ?_
  refine wl_det rfl rfl rfl (op_neq rfl rfl) ?_
  refine wl_nil ?_
  refine st_tn ?_
  refine w_cond_d rfl (fun hc63 => ?_) (fun hc63 => ?_)
  · -- c63.t
    have hE : (distR l A B).2 ≠ 0 := by simpa using hc63
    have h1 : chnL l A B = [] := if_pos hE
    refine w_seq ?_
    refine w_region ?_
    refine wl_det rfl rfl rfl (op_move rfl) ?_
    refine wl_det rfl rfl rfl (op_lenT rfl tS26w (Sl.ent (Sl.lab 35 rfl (by unfold maxLen; omega)))) ?_
    refine wl_det rfl rfl rfl (op_val (v' := .bool true) (by rw [h1]; rfl) (op_eql rfl rfl)) ?_
    refine wl_det rfl rfl rfl (op_assign rfl) ?_
    refine wl_nil ?_
    refine st_tn ?_
    refine w_ret ?_
    refine st_tr ?_
    refine st_ret (vs := [_]) [] Try.results7 ⟨rfl, trivial⟩ rfl ?_
    refine ⟨_, rfl, ?_⟩
    exact ⟨rfl, rfl⟩
  · -- c63.f
    have hE : ¬ (distR l A B).2 ≠ 0 := by simpa using hc63
    have hC := chn_ok hE
    have hln := hC.len
    have hinr := hC.inr
    have hsmp := hC.smp
    refine w_skip ?_
    refine st_tn ?_
    refine w_seq ?_
    refine w_region ?_
    refine wl_det rfl rfl rfl (op_move rfl) ?_
    refine wl_det rfl rfl rfl (op_move rfl) ?_
    refine wl_det rfl rfl rfl (op_move rfl) ?_
    refine wl_det rfl rfl rfl (op_move rfl) ?_
    refine wl_det rfl rfl rfl (op_val (v' := .tuple #[.int .i64 (distR l A B).1, .bool true]) (by rw [hln]; simp) (op_fn Try.func20 rfl rfl rfl (rlength_any _ _ (Sl.lab 22 rfl (by unfold maxLen; omega)) (Sl.lab 35 rfl (by unfold maxLen; omega)) (by assumption) (by omega)))) ?_
    refine wl_det rfl rfl rfl (op_move rfl) ?_
    refine wl_det rfl rfl rfl (op_extract rfl rfl) ?_
    refine wl_det rfl rfl rfl (op_extract rfl rfl) ?_
    refine wl_det rfl rfl rfl (op_assign rfl) ?_
    refine wl_det rfl rfl rfl (op_assign rfl) ?_
    refine wl_nil ?_
    refine st_tn ?_
    refine w_seq ?_
    refine w_seq ?_
    refine w_region ?_
    refine wl_det rfl rfl rfl (op_move rfl) ?_
    refine wl_det rfl rfl rfl (op_not_t rfl) ?_
    refine wl_det rfl rfl rfl (op_move rfl) ?_
    refine wl_wanted_det rfl rfl rfl rfl rfl rfl rfl (op_move rfl) ?_
    refine wl_wanted_det rfl rfl rfl rfl rfl rfl rfl (op_move rfl) ?_
    refine wl_wanted_det rfl rfl rfl rfl rfl rfl rfl (op_val (v' := .bool false) (by simp) (op_neq rfl rfl)) ?_
    refine wl_det rfl rfl rfl (op_pick_f rfl rfl) ?_
    refine wl_det rfl rfl rfl (op_move rfl) ?_
    refine wl_wanted_det rfl rfl rfl rfl rfl rfl rfl (op_move rfl) ?_
    refine wl_wanted_det rfl rfl rfl rfl rfl rfl rfl (op_move rfl) ?_
    refine wl_wanted_det rfl rfl rfl rfl rfl rfl rfl (op_val (v' := .bool true) (by simp; exact hsmp) (op_fn Try.func21 rfl rfl rfl (simple_any (Sl.lab 22 rfl (by unfold maxLen; omega)) (Sl.lab 35 rfl (by unfold maxLen; omega)) (by assumption)))) ?_
    refine wl_wanted_det rfl rfl rfl rfl rfl rfl rfl (op_not_t rfl) ?_
    refine wl_det rfl rfl rfl (op_pick_f rfl rfl) ?_
    refine wl_nil ?_
    refine st_tn ?_
    refine w_cond_f (rfl) ?_
    refine w_skip ?_
    refine st_tn ?_
    refine w_seq ?_
    refine w_seq ?_
    refine w_region ?_
    refine wl_det rfl rfl rfl (op_assign rfl) ?_
    refine wl_nil ?_
    refine st_tn ?_
    refine w_block ?_
    refine w_loopQ (X := Nat) (fun z => z ≤ (chnL l A B).length) (fun z => [(18, .int .i64 (z))]) (fun _ => []) (fun z => (chnL l A B).length - z) (0) [(7, _), (9, _), (10, _)] [(22, _), (35, _), (40, _), (43, _)] [22, 35, 40, 43] rfl (rfl) (.cons rfl (.nil _)) (.cons rfl (.cons rfl (.cons rfl (.nil _)))) (by
        try dsimp only
        exact Nat.zero_le _) ?_
    rintro i hi
    refine w_norm2 (by dsimp only [List.cons_append, List.nil_append]) (by dsimp only [List.cons_append, List.nil_append]) ?_
    try dsimp only at hi ⊢
    refine w_seq ?_
    refine w_seq ?_
    refine w_region ?_
    refine wl_det rfl rfl rfl (op_move rfl) ?_
    refine wl_det rfl rfl rfl (op_move rfl) ?_
    refine wl_det rfl rfl rfl (op_lenT rfl tS26w (Sl.ent (Sl.lab 35 rfl (by unfold maxLen; omega)))) ?_
    refine wl_det rfl rfl rfl (op_lss rfl rfl) ?_
    refine wl_nil ?_
    refine st_tn ?_
    refine w_cond_d rfl (fun hc91 => ?_) (fun hc91 => ?_)
    · -- c91.t
      obtain ⟨k, hk⟩ := getE (l := chnL l A B) (i := i) (by omega)
      have hkm := List.mem_of_getElem? hk
      have hkr := hinr k hkm
      obtain ⟨e, he⟩ := getE (l := l) (i := k.toNat) (by omega)
      have hend := hC.end_ k hkm
      rw [fr_of he] at hend
      refine w_skip ?_
      refine st_tn ?_
      refine w_seq ?_
      refine w_block ?_
      refine w_seq ?_
      refine w_region ?_
      refine wl_det rfl rfl rfl (op_move rfl) ?_
      refine wl_det rfl rfl rfl (op_move rfl) ?_
      refine wl_det rfl rfl rfl (op_move rfl) ?_
      refine wl_det rfl rfl rfl (op_idx rfl rfl tS26w (Sl.ent (Sl.lab 35 rfl (by unfold maxLen; omega))) (by omega)) ?_
      refine wl_det rfl rfl rfl (op_ldx rfl tO3w (Sl.lab 35 rfl (by unfold maxLen; omega)) (by assumption) (by rfl)) ?_
      refine wl_det rfl rfl rfl (op_idxZ rfl rfl tS24w (Sl.ent (Sl.lab 22 rfl (by unfold maxLen; omega))) (by omega) (by omega)) ?_
      refine wl_det rfl rfl rfl (op_fieldAddr (off := 0) rfl tF34_0w) ?_
      refine wl_det rfl rfl rfl (op_ldxf rfl tO3w (Sl.lab 22 rfl (by unfold maxLen; omega)) (by assumption) (by rfl)) ?_
      refine wl_det rfl rfl rfl (op_move rfl) ?_
      refine wl_det rfl rfl rfl (op_val (v' := .bool false) (by simp; exact hend) (op_eql rfl rfl)) ?_
      refine wl_nil ?_
      refine st_tn ?_
      refine w_cond_f (rfl) ?_
      refine w_skip ?_
      refine st_bn ?_
      refine st_tn ?_
      refine w_region ?_
      refine wl_det rfl rfl rfl (op_move rfl) ?_
      refine wl_det rfl rfl rfl (op_add' rfl rfl (by omega)) ?_
      refine wl_det rfl rfl rfl (op_assign rfl) ?_
      refine wl_nil ?_
      refine st_roundQ (x := i) (i + 1) [22, 35, 40, 43] rfl (rfl) (.cons rfl (.nil _)) (.cons rfl (.cons rfl (.cons rfl (.nil _)))) (by
          try dsimp only
          omega) (by
          try dsimp only
          omega) 
    · -- c91.f
      refine w_exit ?_
      refine st_te ?_
      refine st_te ?_
      refine st_be ?_
      refine st_tn ?_
      refine w_seq ?_
      refine w_region ?_
      refine wl_det rfl rfl rfl (op_assign rfl) ?_
      refine wl_nil ?_
      refine st_tn ?_
      refine w_ret ?_
      refine st_ret (vs := [_]) [] Try.results7 ⟨rfl, trivial⟩ rfl ?_
      refine ⟨_, rfl, ?_⟩
      exact ⟨rfl, rfl⟩

end Go.Proofs.Ytgdjnjbipemdcaa
namespace Go.Proofs.Ytgdjnjbipemdcaa
open Go Go.SL Go.ConM
set_option linter.unusedVariables false
set_option linter.unusedSimpArgs false
/-- The sum of the bounds of some constraints. -/
def wgt (P : Con → Bool) (l : List Con) : Nat := (l.map fun c => if P c = true then c.b.natAbs else 0).sum
theorem sum_sub {g : Nat → Nat} : ∀ {O M : List Nat}, O.Nodup → (∀ x ∈ O, x ∈ M) → (O.map g).sum ≤ (M.map g).sum
  | [], M, _, _ => by simp
  | x :: O, M, hn, h => by
    obtain ⟨h1, h2⟩ := List.nodup_cons.1 hn
    have hx := h x List.mem_cons_self
    have hp := List.perm_cons_erase hx
    have ih := sum_sub (g := g) (M := M.erase x) h2 fun y hy => (List.mem_erase_of_ne (fun e => h1 (by rw [← e]; exact hy))).2 (h y (List.mem_cons_of_mem _ hy))
    rw [(hp.map g).sum_nat]
    simp only [List.map_cons, List.sum_cons]; omega
theorem range_get (l : List Con) (h : Con → Nat) : (List.range l.length).map (fun i => h (l.getD i ⟨0, 0, 0⟩)) = l.map h := by
  apply List.ext_getElem?
  intro i
  rw [List.getElem?_map, List.getElem?_map]
  by_cases hi : i < l.length
  · rw [List.getElem?_range hi, List.getElem?_eq_getElem hi]
    simp [List.getD_eq_getElem?_getD, hi]
  · rw [List.getElem?_eq_none (by simpa using hi), List.getElem?_eq_none (by omega)]; rfl
theorem sum_wgt {l : List Con} {P : Con → Bool} {O : List Nat} (hn : O.Nodup) (h : ∀ i ∈ O, i < l.length ∧ P (l.getD i ⟨0, 0, 0⟩) = true) : (O.map fun i => (l.getD i ⟨0, 0, 0⟩).b.natAbs).sum ≤ wgt P l := by
  have h1 : (O.map fun i => (l.getD i ⟨0, 0, 0⟩).b.natAbs) = O.map fun i => (fun c : Con => if P c = true then c.b.natAbs else 0) (l.getD i ⟨0, 0, 0⟩) :=
    List.map_congr_left fun i hi => by simp only; rw [if_pos (h i hi).2]
  rw [h1]
  unfold wgt
  rw [← range_get]
  exact sum_sub hn fun x hx => List.mem_range.2 (h x hx).1
theorem abs_sum (f : Nat → Int) : ∀ O : List Nat, -(((O.map fun i => (f i).natAbs).sum : Nat) : Int) ≤ (O.map f).sum ∧ (O.map f).sum ≤ (((O.map fun i => (f i).natAbs).sum : Nat) : Int)
  | [] => by simp
  | x :: O => by
    obtain ⟨h1, h2⟩ := abs_sum f O
    simp only [List.map_cons, List.sum_cons]; omega
section
variable {l : List Con} {B : ZM} {L : Lbl}
theorem bS_sum (l : List Con) (B : ZM) (q : Int) : ∀ J, bS l B q J = ((List.range J).map fun t => (l.getD (byI B (nxN l B t q)) ⟨0, 0, 0⟩).b).sum
  | 0 => rfl
  | J + 1 => by
    rw [List.range_succ, List.map_append, List.sum_append]
    show bS l B q J + _ = _
    rw [bS_sum l B q J]; simp
/-- A label is a sum of bounds of constraints, none of them twice. -/
theorem lab_sum (h1 : ∀ v j n, ¬ Pth l B v (j + 1) v n) (h2 : ∀ v z y, lookK KZ B v = some z → L v = some y → ∃ (i : Nat) (c : Con) (x : Int), z = i ∧ l[i]? = some c ∧ c.t = v ∧ L c.f = some x ∧ y = x + c.b)
    (h3 : ∀ v y, L v = some y → lookK KZ B v = none → y = 0) {v y : Int} (hv : v ∈ nodes l) (hy : L v = some y) : ∃ O : List Nat, O.Nodup ∧ (∀ i ∈ O, i < l.length ∧ (L (l.getD i ⟨0, 0, 0⟩).f).isSome = true) ∧ y = (O.map fun i => (l.getD i ⟨0, 0, 0⟩).b).sum := by
  have one : ∀ u x, L u = some x → (lookK KZ B u).isSome = true → ∃ (c : Con) (x' : Int), lookK KZ B u = some ((byI B u : Nat) : Int) ∧ l[byI B u]? = some c ∧ c.t = u ∧ c.f = nx l B u ∧ L c.f = some x' ∧ x = x' + c.b := fun u x hu hb => by
    obtain ⟨z, hz⟩ := Option.isSome_iff_exists.1 hb
    obtain ⟨i, c, x', rfl, hi, ht, hx, hxx⟩ := h2 u z x hz hu
    have hby : byI B u = i := by unfold byI; rw [hz]; simp
    refine ⟨c, x', by rw [hz, hby], by rw [hby]; exact hi, ht, ?_, hx, hxx⟩
    unfold nx; rw [hby, List.getD_eq_getElem?_getD, hi]; rfl
  have way : ∀ J, (∀ t, t < J → (lookK KZ B (nxN l B t v)).isSome = true) → (∃ n, Pth l B v J (nxN l B J v) n) ∧ L (nxN l B J v) = some (y - bS l B v J) := by
    intro J
    induction J with
    | zero => intro _; exact ⟨⟨0, .nil v⟩, by rw [show y - bS l B v 0 = y by show y - 0 = y; omega]; exact hy⟩
    | succ J ih =>
      intro h
      obtain ⟨⟨n, hp⟩, hl⟩ := ih fun t ht => h t (by omega)
      obtain ⟨c, x, hb, hc, _, hf, hx, hyy⟩ := one _ _ hl (h J (by omega))
      have hp2 := pth_snoc hp hb hc
      have e : nxN l B (J + 1) v = c.f := hf.symm
      have e2 : bS l B v (J + 1) = bS l B v J + c.b := by
        show _ + (l.getD _ _).b = _; rw [List.getD_eq_getElem?_getD, hc]; rfl
      refine ⟨⟨_, by rw [e]; exact hp2⟩, ?_⟩
      rw [e, hx, e2]; congr 1; omega
  have ends : ∃ J, (lookK KZ B (nxN l B J v)).isSome = false ∧ ∀ t, t < J → (lookK KZ B (nxN l B t v)).isSome = true := by
    have hex : ∃ J, (lookK KZ B (nxN l B J v)).isSome = false := Classical.byContradiction fun hno => by
      obtain ⟨⟨n, hp⟩, _⟩ := way ((nodes l).length) fun t _ => by
        cases hb : (lookK KZ B (nxN l B t v)).isSome with
        | true => rfl
        | false => exact absurd ⟨t, hb⟩ hno
      obtain ⟨m, k, n', hc⟩ := pth_cycle hv hp (Nat.le_refl _)
      exact h1 _ _ _ hc
    obtain ⟨J, hJ⟩ := hex
    induction J using Nat.strongRecOn with
    | ind J ih =>
      by_cases hl : ∃ t, t < J ∧ (lookK KZ B (nxN l B t v)).isSome = false
      · obtain ⟨t, h4, h5⟩ := hl; exact ih t h4 h5
      · refine ⟨J, hJ, fun t ht => ?_⟩
        cases hb : (lookK KZ B (nxN l B t v)).isSome with
        | true => rfl
        | false => exact absurd ⟨t, ht, hb⟩ hl
  obtain ⟨J, hJ, hall⟩ := ends
  have hdist : ∀ i j, i < j → j ≤ J → nxN l B i v ≠ nxN l B j v := fun i j hij hj e => by
    obtain ⟨⟨n, hp⟩, _⟩ := way j fun t ht => hall t (by omega)
    obtain ⟨m, n1, n2, g1, g2, _⟩ := pth_split i (j := j - i) (by rw [show i + (j - i) = j by omega]; exact hp)
    have hm := pth_nx g1
    rw [← e, ← hm, show j - i = (j - i - 1) + 1 by omega] at g2
    exact h1 _ _ _ g2
  have hstep : ∀ t, t < J → ∃ (c : Con) (x : Int), l[byI B (nxN l B t v)]? = some c ∧ c.t = nxN l B t v ∧ L c.f = some x := fun t ht => by
    obtain ⟨_, hl⟩ := way t fun u hu => hall u (by omega)
    obtain ⟨c, x, _, hc, ht2, _, hx, _⟩ := one _ _ hl (hall t ht)
    exact ⟨c, x, hc, ht2, hx⟩
  refine ⟨(List.range J).map fun t => byI B (nxN l B t v), ?_, fun i hi => ?_, ?_⟩
  · rw [List.Nodup, List.pairwise_map]
    refine List.pairwise_lt_range.imp_of_mem fun {i j} hi hj hij e => ?_
    have hi := List.mem_range.1 hi
    have hj := List.mem_range.1 hj
    obtain ⟨c, _, g1, g2, _⟩ := hstep i hi
    obtain ⟨d, _, g3, g4, _⟩ := hstep j hj
    rw [e, g3] at g1
    simp only [Option.some.injEq] at g1; subst g1
    exact hdist i j hij (by omega) (by rw [← g2, ← g4])
  · obtain ⟨t, ht, rfl⟩ := List.mem_map.1 hi
    obtain ⟨c, x, g1, _, g3⟩ := hstep t (List.mem_range.1 ht)
    refine ⟨(List.getElem?_eq_some_iff.1 g1).1, ?_⟩
    rw [List.getD_eq_getElem?_getD, g1]
    show (L c.f).isSome = true
    rw [g3]; rfl
  · have := (way J hall).2
    have h0 := h3 _ _ this (by simpa using hJ)
    rw [List.map_map]
    have e := bS_sum l B v J
    show y = _
    rw [show y = bS l B v J by omega, e]; rfl
end
/-- The labels of the search from one node: no more than the bounds of the constraints that lie behind it. -/
theorem dis_le {l : List Con} {a : Int} (hF : Feas (ownL l a)) {v y : Int} (hv : v ∈ nodes l) (hy : disF l a v = some y) : y ≤ (wgt (fun c => (disF l a c.f).isSome) l : Nat) := by
  obtain ⟨R, r, hI⟩ := srA_inv l a
  obtain ⟨O, hn, hO, hs⟩ := lab_sum (l := l) (B := (srA l a).1.B) (L := disF l a) (fun v j n h => no_cyc hF h) (fun v z y hb hl => by
    obtain ⟨i, c, x, hz, hi, _, ht, hx, hyy⟩ := by_own hF hb
    rw [hl] at hyy; simp only [Option.some.injEq] at hyy
    exact ⟨i, c, x, hz, hi, ht, hx, hyy⟩) (fun v y hl hb => (hI.no v y (by rw [lab_eq hF]; exact hl) hb).2.1) hv hy
  have h1 := (abs_sum (fun i => (l.getD i ⟨0, 0, 0⟩).b) O).2
  have h2 := sum_wgt (P := fun c => (disF l a c.f).isSome) hn hO
  omega
/-- The least potential: no less than minus the bounds of all constraints. -/
theorem pot_bound {l : List Con} (hF : Feas l) {v y : Int} (hv : v ∈ nodes l) (hy : potF l v = some y) : -((wgt (fun _ => true) l : Nat) : Int) ≤ y := by
  have hst : StF l (potF l) := hF
  have hlab : ∀ v, lookK KZ (srch l).1.L v = potF l v := fun v => congrFun (sol_L hF) v
  obtain ⟨r, hI0⟩ := inv_sq (fun _ => true) l (nodes l) ((nodes l).length + (nodes l).length)
  obtain ⟨r', hI, _⟩ := inv_relaxTo (by omega) hI0 l.length
  have he : srch l = relaxTo (fun _ => true) l (Sq (fun _ => true) l ⟨startM (nodes l), []⟩ ((nodes l).length + (nodes l).length)) l.length := search_eq (fun _ => true) l (nodes l)
  rw [← he] at hI
  have hone : ∀ v z y, lookK KZ (srch l).1.B v = some z → potF l v = some y → ∃ (i : Nat) (c : Con) (x : Int), z = i ∧ l[i]? = some c ∧ c.t = v ∧ potF l c.f = some x ∧ y = x + c.b := fun v z y hb hl => by
    obtain ⟨i, c, x, y', hz, hi, _, ht, hx, hyv, hxy, _⟩ := hI.by_ v z hb
    rw [hlab] at hx hyv
    rw [hl] at hyv; simp only [Option.some.injEq] at hyv; subst hyv
    have := stF_holds hst (List.mem_of_getElem? hi) hx (by rw [ht]; exact hl)
    exact ⟨i, c, x, hz, hi, ht, hx, by omega⟩
  obtain ⟨φ, hφ⟩ := feas_pot hF
  have hpp : ∀ {v u n : Int} {j : Nat}, Pth l (srch l).1.B v j u n → φ v ≤ φ u + n := fun {v u n j} h => by
    induction h with
    | nil v => omega
    | @step v u n i j c hb hc hp ih =>
      obtain ⟨i', c', x, y', hz, hi, _, ht, _⟩ := hI.by_ v _ hb
      have : i = i' := by omega
      subst this
      rw [hc] at hi; simp only [Option.some.injEq] at hi; subst hi
      have := hφ c (List.mem_of_getElem? hc)
      rw [ht] at this; omega
  obtain ⟨O, hn, hO, hs⟩ := lab_sum (l := l) (B := (srch l).1.B) (L := potF l) (fun v j n h => by have h1 := hI.cyc _ _ _ h; have h2 := hpp h; omega) hone (fun v y hl hb => (hI.no v y (by rw [hlab]; exact hl) hb).2.1) hv hy
  have h1 := (abs_sum (fun i => (l.getD i ⟨0, 0, 0⟩).b) O).1
  have h2 := sum_wgt (P := fun _ => true) hn (fun i hi => ⟨(hO i hi).1, rfl⟩)
  omega
end Go.Proofs.Ytgdjnjbipemdcaa
namespace Go.Proofs.Ytgdjnjbipemdcaa
open Go Go.SL Go.RowKit Go.ConM
set_option linter.unusedVariables false
set_option linter.unusedSimpArgs false
theorem tA34z : aggB Try.prog 34 3 = true := by kernel_rfl
theorem tF34_0z : fieldB Try.prog 34 0 0 = true := by kernel_rfl
theorem tF34_1z : fieldB Try.prog 34 1 1 = true := by kernel_rfl
theorem tF34_2z : fieldB Try.prog 34 2 2 = true := by kernel_rfl
theorem tF74_0z : fieldB Try.prog 74 0 0 = true := by kernel_rfl
theorem tL26_1z : zerosB Try.prog 26 3 1 1 = some [Value.int .i64 0] := by kernel_rfl
theorem tN3z : (Try.prog.info? 3).bind (·.zero) = some (Value.int .i64 0) := by kernel_rfl
theorem tN34z : (Try.prog.info? 34).bind (·.zero) = some (Value.agg #[Value.int .i64 0, Value.int .i64 0, Value.int .i64 0]) := by kernel_rfl
theorem tN4z : (Try.prog.info? 4).bind (·.zero) = some (Value.bool false) := by kernel_rfl
theorem tN74z : (Try.prog.info? 74).bind (·.zero) = some (Value.agg #[Value.map none, Value.map none]) := by kernel_rfl
theorem tO3z : oneB Try.prog 3 = true := by kernel_rfl
theorem tO72z : oneB Try.prog 72 = true := by kernel_rfl
theorem tQ72z : mapB Try.prog 72 3 3 KZ.desc := ⟨Try.underlying72, Try.underlying3⟩
theorem tQ90z : mapB Try.prog 90 3 4 KZ.desc := ⟨Try.underlying90, Try.underlying3⟩
theorem tS24z : sliceB Try.prog 24 34 3 = true := by kernel_rfl
theorem tZ34z : (Try.prog.info? 34).map (·.size) = some 3 := by kernel_rfl
theorem tZ74z : (Try.prog.info? 74).map (·.size) = some 2 := by kernel_rfl

theorem FnT.relab' {P : Program} {σ : World} {F : List Res} {f : Nat} {args : List Value} {R R' : RL} {S S' : Value → RL → Prop} (h : FnT P σ F f args R S) (hr : rs R = rs R') (hS : ∀ u ρ, S u ρ → ∃ ρ', S' u ρ' ∧ rs ρ = rs ρ') : FnT P σ F f args R' S' :=
  fun w ho => (h w (by rw [hr]; exact ho)).mono fun _ _ ⟨v, ρ, h1, h2, h3⟩ => by
    obtain ⟨ρ', h4, h5⟩ := hS _ _ h2
    exact ⟨v, ρ', h1, h4, by rw [← h5]; exact h3⟩
set_option maxHeartbeats 1000000 in
set_option maxRecDepth 100000 in
theorem copyZ {σ : World} {F : List Res} {bD bS : Nat} {d m : List (Int × Int)} (hd : (d.map Prod.fst).Nodup) :
    FnT Try.prog σ F 64 [.map (some bD), .map (some bS)] [(601, mp KZ encVZ bD d), (602, mp KZ encVZ bS m)] (fun u ρ => ∃ d', Copied d m d' ∧ u = .tuple #[] ∧ ρ = [(601, mp KZ encVZ bD d'), (602, mp KZ encVZ bS m)]) := by
  refine fn_of 16 Try.func64 rfl Try.ntmps64 rfl ?_
  refine w_openM 602 rfl (fun sts ck hwf => ?_)
  refine w_seq ?_
  refine w_region ?_
  refine wl_det rfl rfl rfl (op_move rfl) ?_
  refine wl_op [] rfl rfl rfl rfl (op_range (kt := KZ) (encV := encVZ) (lab := 7) rfl tQ72z (Me.lab 602 rfl)) ?_
  rintro _ _ ⟨r7, rfl, rfl⟩
  refine wl_nil ?_
  refine st_tn ?_
  refine w_block ?_
  refine w_loopQ (X := List (Int × Int) × List (Int × Int) × List (Int × Int)) (fun z => (z.1 ++ z.2.1).Perm m ∧ Copied d z.1 z.2.2) (fun z => []) (fun z => [(7, itR r7 bS m sts ck (z.1) (z.2.1)), (601, mp KZ encVZ bD (z.2.2))]) (fun z => z.2.1.length) (([], m, d)) [(0, _), (7, _)] [(602, _)] [7, 601, 602] rfl (rfl) (.nil _) (.cons rfl (.cons rfl (.nil _))) (by
      try dsimp only
      exact ⟨List.Perm.refl _, hd, fun k => by simp [lookK]⟩) ?_
  rintro ⟨dn_it, td_it, D⟩ ⟨hp, hc⟩
  refine w_norm2 (by dsimp only [List.cons_append, List.nil_append]) (by dsimp only [List.cons_append, List.nil_append]) ?_
  try dsimp only at hp hc ⊢
  refine w_seq ?_
  refine w_region ?_
  refine wl_op [7] rfl rfl rfl rfl (op_next (kt := KZ) (encV := encVZ) (lab := 7) rfl (Me.lab 602 rfl)) ?_
  rintro _ _ ⟨o8, dn8, td8, rfl, rfl, hn8⟩
  refine wl_det rfl rfl rfl (op_nextOk rfl) ?_
  refine wl_nil ?_
  refine st_tn ?_
  refine w_seq ?_
  refine w_cond rfl (fun hc9 => ?_) (fun hc9 => ?_)
  · -- c9.t
    obtain ⟨p, hpe⟩ := Option.isSome_iff_exists.1 hc9
    subst hpe
    obtain ⟨hdn, hperm⟩ : dn8 = p :: dn_it ∧ td_it.Perm (p :: td8) := hn8
    subst hdn
    refine w_skip ?_
    refine st_tn ?_
    refine w_block ?_
    refine w_seq ?_
    refine w_region ?_
    refine wl_det rfl rfl rfl (op_entry (kt := KZ) (encV := encVZ) rfl (Me.lab 602 rfl) (It.lab 7 rfl)) ?_
    refine wl_det rfl rfl rfl (op_extract rfl rfl) ?_
    refine wl_det rfl rfl rfl (op_extract rfl rfl) ?_
    refine wl_det rfl rfl rfl (op_assign rfl) ?_
    refine wl_det rfl rfl rfl (op_assign rfl) ?_
    refine wl_nil ?_
    refine st_tn ?_
    refine w_region ?_
    refine wl_det rfl rfl rfl (op_move rfl) ?_
    refine wl_det rfl rfl rfl (op_move rfl) ?_
    refine wl_det rfl rfl rfl (op_move rfl) ?_
    refine wl_op0 [601] rfl rfl rfl (op_mapUpdate (kt := KZ) (encV := encVZ) (lab := 601) rfl rfl rfl tQ72z) ?_
    rintro _ _ ⟨rfl, rfl⟩
    refine wl_nil ?_
    refine st_bn ?_
    refine st_roundQ (x := (dn_it, td_it, D)) ((_, _, _)) [7, 601, 602] rfl (rfl) (.nil _) (.cons rfl (.cons rfl (.nil _))) (by
        try dsimp only
        exact ⟨perm_next hp hperm, copied_step hc⟩) (by
        try dsimp only
        have := hperm.length_eq; simp at this; omega) 
  · -- c9.f
    have ho8 : o8 = none := by simpa using hc9
    subst ho8
    obtain ⟨htd, hdn, htd8⟩ : td_it = [] ∧ dn8 = dn_it ∧ td8 = [] := hn8
    subst htd
    rw [List.append_nil] at hp
    refine w_wk 602 (mp KZ encVZ bS m) rfl mpE_mp ?_
    refine w_exit ?_
    refine st_te ?_
    refine st_te ?_
    refine st_be ?_
    refine st_end (vs := []) [601, 602] Try.results64 trivial rfl ?_
    refine ⟨[(601, _), (602, _)], rfl, ?_⟩
    exact ⟨D, ⟨hc.1, fun k => by rw [hc.2, look_perm hp hwf.nod]⟩, rfl, rfl⟩

/-- All constraints of the component: the sum of their bounds. -/
noncomputable def farC (l : List Con) (a : Int) : Nat := wgt (fun c => decide (c.f ∈ compX l a)) l
theorem wgt_nil (P : Con → Bool) : wgt P [] = 0 := rfl
theorem wgt_snoc (P : Con → Bool) (l : List Con) (c : Con) : wgt P (l ++ [c]) = wgt P l + (if P c = true then c.b.natAbs else 0) := by unfold wgt; rw [List.map_append, List.sum_append]; simp
theorem wgt_filter (Q : Con → Bool) : ∀ l : List Con, wgt (fun _ => true) (l.filter Q) = wgt Q l
  | [] => rfl
  | c :: l => by
    have ih := wgt_filter Q l
    unfold wgt at ih ⊢
    rw [List.filter_cons]
    by_cases h : Q c = true
    · rw [if_pos h]; simp only [List.map_cons, List.sum_cons, if_true, h]; simp only [if_true] at ih; omega
    · rw [if_neg h]; simp only [List.map_cons, List.sum_cons, h]; simp only [if_true] at ih; simp; omega
theorem wgt3 {P1 P2 P3 : Con → Bool} : ∀ {l : List Con}, (∀ c ∈ l, P1 c = true → P3 c = true ∧ P2 c = false) → (∀ c ∈ l, P2 c = true → P3 c = true) → wgt P1 l + wgt P2 l ≤ wgt P3 l ∧ ∀ c0 ∈ l, P3 c0 = true → P1 c0 = false → P2 c0 = false → wgt P1 l + wgt P2 l + c0.b.natAbs ≤ wgt P3 l
  | [], _, _ => ⟨Nat.le_refl _, by simp⟩
  | c :: l, h1, h2 => by
    obtain ⟨i1, i2⟩ := wgt3 (l := l) (fun c hc => h1 c (List.mem_cons_of_mem _ hc)) (fun c hc => h2 c (List.mem_cons_of_mem _ hc))
    have hc1 := h1 c List.mem_cons_self
    have hc2 := h2 c List.mem_cons_self
    have e : ∀ P : Con → Bool, wgt P (c :: l) = (if P c = true then c.b.natAbs else 0) + wgt P l := fun P => by unfold wgt; simp
    have key : (if P1 c = true then c.b.natAbs else 0) + (if P2 c = true then c.b.natAbs else 0) ≤ (if P3 c = true then c.b.natAbs else 0) := by
      cases p1 : P1 c with
      | true => obtain ⟨h3, h4⟩ := hc1 p1; simp [h3, h4]
      | false =>
        cases p2 : P2 c with
        | true => simp [hc2 p2]
        | false => simp
    rw [e P1, e P2, e P3]
    refine ⟨by omega, fun c0 hc0 g1 g2 g3 => ?_⟩
    rcases List.mem_cons.1 hc0 with rfl | hc0
    · simp only [g1, g2, g3, if_true]; simp; omega
    · have := i2 c0 hc0 g1 g2 g3; omega
/-- A node of the component that is not reached. -/
def InU (l : List Con) (a n : Int) : Prop := n ∈ compX l a ∧ disF l a n = none
noncomputable def quB (l : List Con) (a : Int) (c : Con) : Bool := decide (c.f ∈ compX l a) && (disF l a c.f).isNone && (disF l a c.t).isNone
noncomputable def oU (l : List Con) (a : Int) : List Con := l.filter (quB l a)
noncomputable def psi (l : List Con) (a n : Int) : Int := if n ∈ nodes (oU l a) then (potF (oU l a) n).getD 0 else 0
noncomputable def lbU (l : List Con) (a n : Int) : Int := 2 * (farC l a : Int) + psi l a n
theorem mem_oU {l : List Con} {a : Int} {c : Con} : c ∈ oU l a ↔ c ∈ l ∧ c.f ∈ compX l a ∧ disF l a c.f = none ∧ disF l a c.t = none := by
  unfold oU quB
  rw [List.mem_filter]
  simp [and_assoc]
theorem oU_feas {l : List Con} {a : Int} (h : Feas (ownL l a)) : Feas (oU l a) := by
  obtain ⟨φ, hφ⟩ := feas_pot h
  exact feas_of_pot (φ := φ) fun c hc => hφ c (mem_own.2 ⟨(mem_oU.1 hc).1, (mem_oU.1 hc).2.1⟩)
theorem psi_pot {l : List Con} {a : Int} (h : Feas (ownL l a)) : ∀ c ∈ oU l a, psi l a c.t ≤ psi l a c.f + c.b := fun c hc => by
  obtain ⟨hf, ht⟩ := nodes_in c hc
  unfold psi; rw [if_pos hf, if_pos ht]
  exact pot_feas (oU_feas h) c hc
theorem psi_le {l : List Con} {a : Int} (n : Int) : psi l a n ≤ 0 := by
  unfold psi
  split
  · rename_i hn
    obtain ⟨w, h1, h2⟩ := rf_dec (l := oU l a) (f := zeroF (nodes (oU l a))) (x := n) (v := 0) (by unfold zeroF; rw [if_pos hn]) (nodes (oU l a)).length
    show (RF _ _ _ n).getD 0 ≤ 0
    rw [h1]; exact h2
  · omega
theorem psi_ge {l : List Con} {a : Int} (h : Feas (ownL l a)) (n : Int) : -((wgt (quB l a) l : Nat) : Int) ≤ psi l a n := by
  unfold psi
  split
  · rename_i hn
    obtain ⟨y, hy⟩ := Option.isSome_iff_exists.1 (potF_lab hn)
    have := pot_bound (oU_feas h) hn hy
    unfold oU at this
    rw [wgt_filter] at this
    rw [hy]; exact this
  · omega
theorem wgt_cls (l : List Con) (a : Int) : wgt (fun c => (disF l a c.f).isSome) l + wgt (quB l a) l ≤ farC l a ∧ ∀ c0 ∈ l, c0.f ∈ compX l a → disF l a c0.f = none → (disF l a c0.t).isSome = true → wgt (fun c => (disF l a c.f).isSome) l + wgt (quB l a) l + c0.b.natAbs ≤ farC l a := by
  obtain ⟨h1, h2⟩ := wgt3 (P1 := fun c => (disF l a c.f).isSome) (P2 := quB l a) (P3 := fun c => decide (c.f ∈ compX l a)) (l := l) (fun c _ h => ⟨by simpa using comp_in h, by
    unfold quB
    cases hd : disF l a c.f with
    | none => rw [hd] at h; simp at h
    | some y => simp⟩) (fun c _ h => by unfold quB at h; simp at h; simp [h.1.1])
  refine ⟨h1, fun c0 hc hf hn ht => h2 c0 hc (by simpa using hf) (by simp [hn]) ?_⟩
  unfold quB
  cases hd : disF l a c0.t with
  | none => rw [hd] at ht; simp at ht
  | some y => simp
/-- What the values of the nodes that are not reached keep. -/
structure UInv (l : List Con) (a : Int) (M : ZM) : Prop where
  nod : (M.map Prod.fst).Nodup
  key : ∀ n, (lookK KZ M n).isSome = true ↔ InU l a n
  lo : ∀ n y, lookK KZ M n = some y → lbU l a n ≤ y
  hi : ∀ n y, lookK KZ M n = some y → y ≤ 2 * (farC l a : Int)
theorem UInv.upd {l : List Con} {a : Int} {M : ZM} (hF : Feas (ownL l a)) (h : UInv l a M) {c : Con} {x y : Int} (hc : c ∈ l) (hx : lookK KZ M c.f = some x) (hy : lookK KZ M c.t = some y) (hlt : x + c.b < y) : UInv l a (setK KZ M c.t (x + c.b)) ∧ lbU l a c.t ≤ x + c.b := by
  have hf := (h.key c.f).1 (by rw [hx]; rfl)
  have ht := (h.key c.t).1 (by rw [hy]; rfl)
  have hp := psi_pot hF c (mem_oU.2 ⟨hc, hf.1, hf.2, ht.2⟩)
  have hl := h.lo _ _ hx
  have hb : lbU l a c.t ≤ x + c.b := by unfold lbU at hl ⊢; omega
  refine ⟨⟨nod_set h.nod, fun n => ?_, fun n z hz => ?_, fun n z hz => ?_⟩, hb⟩
  · rw [lset]
    by_cases he : n = c.t
    · subst he; simp [ht]
    · rw [if_neg he]; exact h.key n
  · rw [lset] at hz
    by_cases he : n = c.t
    · subst he; rw [if_pos rfl] at hz; simp only [Option.some.injEq] at hz; omega
    · rw [if_neg he] at hz; exact h.lo n z hz
  · rw [lset] at hz
    by_cases he : n = c.t
    · subst he; rw [if_pos rfl] at hz; simp only [Option.some.injEq] at hz; have := h.hi _ _ hy; omega
    · rw [if_neg he] at hz; exact h.hi n z hz
def meas (lb : Int → Int) (M : ZM) : Nat := (M.map fun p => (p.2 - lb p.1).toNat).sum
theorem meas_set {lb : Int → Int} {k v : Int} : ∀ {M : ZM} {y : Int}, lookK KZ M k = some y → v < y → lb k ≤ v → meas lb (setK KZ M k v) < meas lb M
  | [], y, h, _, _ => by simp [lookK] at h
  | p :: M, y, h, h1, h2 => by
    unfold lookK at h
    unfold setK
    cases hq : KZ.eq k p.1 with
    | true =>
      have hk := (KZ.eq_iff _ _).1 hq
      rw [hq] at h
      simp only [cond_true, Option.some.injEq] at h ⊢
      unfold meas
      simp only [List.map_cons, List.sum_cons]
      rw [← hk, h]; omega
    | false =>
      rw [hq] at h
      simp only [cond_false] at h ⊢
      have ih := meas_set h h1 h2
      unfold meas at ih ⊢
      simp only [List.map_cons, List.sum_cons]; omega
theorem compX_in {l : List Con} {n : Int} (hn : n ∈ nodes l) : ∀ {k : Int}, k ∈ compX l n → k ∈ nodes l := fun {k} hk =>
  compX_least (P := fun k => k ∈ nodes l) (fun c hc => ⟨fun _ => mem_nodes.2 ⟨c, hc, .inr rfl⟩, fun _ => mem_nodes.2 ⟨c, hc, .inl rfl⟩⟩) hn k hk
/-- What Extreme returns. -/
structure ExtV (l : List Con) (a b : Int) (v : List (Int × Int)) : Prop where
  sat : satE (ownL l a) v = 0
  fst : lookK KZ v a = some 0
  snd : lookK KZ v b = some (distR l a b).1
  oko : OkO v
  nod : (v.map Prod.fst).Nodup
  len : v.length ≤ (nodes l).length
theorem look_asg {E : ZM} (hn : (E.map Prod.fst).Nodup) (k : Int) : lookK KZ (asg E) k = lookK KZ E k := by
  have hnd : ((asg E).map Prod.fst).Nodup := by
    unfold asg; rw [List.map_map]; show ((srt (E.map Prod.fst)).map fun k => k).Nodup; rw [List.map_id']; exact (srt_perm _).nodup_iff.2 hn
  cases hk : lookK KZ E k with
  | some y =>
    have hm : (k, y) ∈ asg E := by
      unfold asg
      refine List.mem_map.2 ⟨k, mem_srt.2 (List.mem_map.2 ⟨(k, y), look_of hk, rfl⟩), ?_⟩
      rw [hk]; rfl
    exact look_get hnd hm
  | none =>
    cases hq : lookK KZ (asg E) k with
    | none => rfl
    | some y =>
      have hm := look_of hq
      unfold asg at hm
      obtain ⟨k', hk', he⟩ := List.mem_map.1 hm
      simp only [Prod.mk.injEq] at he
      obtain ⟨rfl, _⟩ := he
      have := look_mem (kt := KZ) (l := E) (k := k') |>.2 (mem_srt.1 hk')
      rw [hk] at this; simp at this
theorem ext_ok {l : List Con} {a b d : Int} (hl : Small l) (hd : distR l a b = (d, 0)) {M E : ZM} (hM : UInv l a M) (hst : ∀ c ∈ l, ∀ x y, lookK KZ M c.f = some x → lookK KZ M c.t = some y → y ≤ x + c.b) {L : ZM} (hL : ∀ k, lookK KZ L k = disF l a k) (hE : Copied M L E) (hfar : (farC l a : Int) ≤ 4398046511104) : ExtV l a b (asg E) := by
  obtain ⟨ha, hb, hF, hdis⟩ := dist_ok.1 hd
  have hlk : ∀ k, lookK KZ E k = (disF l a k).or (lookK KZ M k) := fun k => by rw [hE.2, hL]
  have hkeys : ∀ k, (lookK KZ E k).isSome = true ↔ k ∈ compX l a := fun k => by
    rw [hlk]
    cases hq : disF l a k with
    | some y => simp; exact comp_in (by rw [hq]; rfl)
    | none =>
      rw [Option.none_or, hM.key]
      exact ⟨fun h => h.1, fun h => ⟨h, hq⟩⟩
  have hmap : (asg E).map Prod.fst = nodes (ownL l a) := by
    have h1 : (asg E).map Prod.fst = srt (E.map Prod.fst) := by
      unfold asg; rw [List.map_map]; show ((srt (E.map Prod.fst)).map fun k => k) = _; rw [List.map_id']
    rw [h1]
    refine SS.ext (srt_ss hE.1) (nodes_ss _) fun x => ?_
    rw [mem_srt, own_nodes ha, ← look_mem (kt := KZ), hkeys]
  have hval : ∀ k, valO (asg E) k = ((disF l a k).or (lookK KZ M k)).getD 0 := fun k => by unfold valO; rw [look_asg hE.1, hlk]
  have hcls := wgt_cls l a
  refine ⟨?_, by rw [look_asg hE.1, hlk, dis_self hF]; rfl, by rw [look_asg hE.1, hlk, hdis, hd]; rfl, fun p hp => ?_, by rw [hmap]; exact (nodes_ss _).nodup, ?_⟩
  · have hh : ∀ c ∈ ownL l a, holdsC (asg E) c := fun c hc => by
      obtain ⟨hc1, hc2⟩ := mem_own.1 hc
      have ht2 : c.t ∈ compX l a := ((compX_spec l a).closed c hc1).1 hc2
      unfold holdsC
      rw [hval, hval]
      cases hf : disF l a c.f with
      | some x =>
        have hs := disF_st hF c hc
        unfold updC at hs
        rw [hf] at hs
        cases ht : disF l a c.t with
        | none => rw [ht] at hs; simp at hs
        | some y => rw [ht] at hs; simp at hs; simpa using hs
      | none =>
        obtain ⟨x, hx⟩ := Option.isSome_iff_exists.1 ((hM.key c.f).2 ⟨hc2, hf⟩)
        cases ht : disF l a c.t with
        | none =>
          obtain ⟨y, hy⟩ := Option.isSome_iff_exists.1 ((hM.key c.t).2 ⟨ht2, ht⟩)
          rw [hx, hy]; exact hst c hc1 x y hx hy
        | some y =>
          rw [hx]
          have h1 := dis_le hF (mem_nodes.2 ⟨c, hc1, .inr rfl⟩) ht
          have h2 := hM.lo _ _ hx
          have h3 := psi_ge hF c.f
          have h4 := hcls.2 c hc1 hc2 hf (by rw [ht]; rfl)
          unfold lbU at h2
          show y ≤ x + c.b
          omega
    unfold satE; rw [if_pos hmap, if_pos hh]
  · have hk := look_get (kt := KZ) (by rw [hmap]; exact (nodes_ss _).nodup) hp
    rw [look_asg hE.1, hlk] at hk
    cases hq : disF l a p.1 with
    | some y =>
      rw [hq] at hk; simp only [Option.some_or, Option.some.injEq] at hk
      have hb := bdF_RF (bd_zero [a]) (own_small (a := a) hl) (nodes l).length p.1 y hq
      have hn := len_nodes l
      have hl2 := hl.2
      unfold I64; omega
    | none =>
      rw [hq, Option.none_or] at hk
      have h1 := hM.hi _ _ hk
      have h2 := hM.lo _ _ hk
      have h3 := psi_ge hF p.1
      unfold lbU at h2
      unfold I64; omega
  · have := congrArg List.length hmap
    rw [List.length_map] at this; rw [this]; exact own_len
theorem small_wgt {l : List Con} (h : ∀ c ∈ l, -4096 ≤ c.b ∧ c.b ≤ 4096) (P : Con → Bool) : wgt P l ≤ 4096 * l.length := by
  induction l with
  | nil => simp [wgt]
  | cons c l ih =>
    have h1 := ih fun c hc => h c (List.mem_cons_of_mem _ hc)
    have h2 := h c List.mem_cons_self
    unfold wgt at h1 ⊢
    simp only [List.map_cons, List.sum_cons, List.length_cons]
    split <;> omega
/-- The start values while the nodes are gone through. -/
def StM (D : Lbl) (far2 : Int) (dn : List (Int × Bool)) (M : ZM) : Prop := (M.map Prod.fst).Nodup ∧ ∀ n, lookK KZ M n = if n ∈ dn.map Prod.fst ∧ D n = none then some far2 else none
theorem stM_in {D : Lbl} {f : Int} {dn : List (Int × Bool)} {M : ZM} {p : Int × Bool} (h : StM D f dn M) (hp : D p.1 = none) : StM D f (p :: dn) (setK KZ M p.1 f) := by
  refine ⟨nod_set h.1, fun n => ?_⟩
  rw [lset]
  by_cases hn : n = p.1
  · rw [if_pos hn, if_pos ⟨by rw [hn]; simp, by rw [hn]; exact hp⟩]
  · rw [if_neg hn, h.2]
    simp only [List.map_cons, List.mem_cons, hn, false_or]
theorem stM_out {D : Lbl} {f : Int} {dn : List (Int × Bool)} {M : ZM} {p : Int × Bool} (h : StM D f dn M) (hp : ¬ D p.1 = none) : StM D f (p :: dn) M := by
  refine ⟨h.1, fun n => ?_⟩
  rw [h.2]
  by_cases hn : n = p.1
  · rw [if_neg (fun hh => hp (hn ▸ hh.2)), if_neg (fun hh => hp (hn ▸ hh.2))]
  · simp only [List.map_cons, List.mem_cons, hn, false_or]
theorem stM_uinv {l : List Con} {a : Int} {dn m : List (Int × Bool)} {M : ZM} (h : StM (disF l a) (2 * (farC l a : Int)) dn M) (hp : dn.Perm m) (hm : Comp l a m) : UInv l a M := by
  have hk : ∀ n, n ∈ dn.map Prod.fst ↔ n ∈ compX l a := fun n => ((hp.map Prod.fst).mem_iff).trans (comp_iff hm n)
  refine ⟨h.1, fun n => ?_, fun n y hy => ?_, fun n y hy => ?_⟩
  · rw [h.2]; unfold InU
    by_cases hc : n ∈ dn.map Prod.fst ∧ disF l a n = none
    · rw [if_pos hc]; exact ⟨fun _ => ⟨(hk n).1 hc.1, hc.2⟩, fun _ => rfl⟩
    · rw [if_neg hc]; exact ⟨fun hh => by simp at hh, fun hh => absurd ⟨(hk n).2 hh.1, hh.2⟩ hc⟩
  · rw [h.2] at hy
    split at hy
    · simp only [Option.some.injEq] at hy
      have := psi_le (l := l) (a := a) n
      unfold lbU; omega
    · simp at hy
  · rw [h.2] at hy
    split at hy
    · simp only [Option.some.injEq] at hy; omega
    · simp at hy
/-- Within a round over the constraints. -/
structure RInv (l : List Con) (a : Int) (M0 M : ZM) (i : Nat) (ch : Bool) : Prop where
  u : UInv l a M
  le : meas (lbU l a) M ≤ meas (lbU l a) M0
  yes : ch = true → meas (lbU l a) M < meas (lbU l a) M0
  no : ch = false → ∀ j c x y, j < i → l[j]? = some c → lookK KZ M c.f = some x → lookK KZ M c.t = some y → y ≤ x + c.b
theorem RInv.same {l : List Con} {a : Int} {M0 M : ZM} {i : Nat} {ch : Bool} (h : RInv l a M0 M i ch) {c : Con} (hc : l[i]? = some c) (hs : ∀ x y, lookK KZ M c.f = some x → lookK KZ M c.t = some y → y ≤ x + c.b) : RInv l a M0 M (i + 1) ch := by
  refine ⟨h.u, h.le, h.yes, fun hn j d x y hj hd hx hy => ?_⟩
  by_cases he : j = i
  · subst he; rw [hc] at hd; simp only [Option.some.injEq] at hd; subst hd; exact hs x y hx hy
  · exact h.no hn j d x y (by omega) hd hx hy
theorem RInv.upd {l : List Con} {a : Int} {M0 M : ZM} {i : Nat} {ch : Bool} (hF : Feas (ownL l a)) (h : RInv l a M0 M i ch) {c : Con} {x y : Int} (hc : l[i]? = some c) (hx : lookK KZ M c.f = some x) (hy : lookK KZ M c.t = some y) (hlt : x + c.b < y) : RInv l a M0 (setK KZ M c.t (x + c.b)) (i + 1) true := by
  obtain ⟨h1, h2⟩ := h.u.upd hF (List.mem_of_getElem? hc) hx hy hlt
  have h3 := meas_set (lb := lbU l a) hy hlt h2
  have h4 := h.le
  exact ⟨h1, by omega, fun _ => by omega, fun hh => by simp at hh⟩
set_option maxHeartbeats 8000000 in
set_option maxRecDepth 100000 in
theorem extreme_any {σ : World} {F : List Res} {a : Option Addr} {c : Nat} {l : List Con} (lab : Nat) (x y : Int) (h : Sl σ F encC 3 (.slice a l.length c) l) (hl : Small l) (hb : InB l) :
    FnT Try.prog σ F 40 [.slice a l.length c, .int .i64 x, .int .i64 y] [] (fun u ρ => ∃ v a c, ((distR l x y).2 ≠ 0 ∧ v = [] ∨ (distR l x y).2 = 0 ∧ ExtV l x y v) ∧ u = .tuple #[.slice a v.length c, .int .i64 (distR l x y).2] ∧ ρ = [(lab, slW 49 encO 2 (.slice a v.length c) v)]) := by
  refine fn_of 133 Try.func40 rfl Try.ntmps40 rfl ?_
  have hle := h.i64
  have hl2 := hl.2
  have hnl := len_nodes l
  have hde := dist_eq l x y
  refine w_seq ?_
  refine w_region ?_
  refine wl_det rfl rfl rfl (op_assign rfl) ?_
  refine wl_det rfl rfl rfl (op_assign rfl) ?_
  refine wl_nil ?_
  refine st_tn ?_
  refine w_seq ?_
  refine w_seq ?_
  refine w_region ?_
  refine wl_det rfl rfl rfl (op_move rfl) ?_
  refine wl_det rfl rfl rfl (op_move rfl) ?_
  refine wl_det rfl rfl rfl (op_move rfl) ?_
  refine wl_det rfl rfl rfl (op_val (v' := .tuple #[.int .i64 (distR l x y).1, .int .i64 (distR l x y).2]) (by rw [hde]) (op_fn Try.func22 rfl rfl rfl (dist_any x y (Sl.app h _) hl hb))) ?_
  refine wl_det rfl rfl rfl (op_move rfl) ?_
  refine wl_det rfl rfl rfl (op_extract rfl rfl) ?_
  refine wl_det rfl rfl rfl (op_extract rfl rfl) ?_
  refine wl_det rfl rfl rfl (op_assign rfl) ?_
  refine wl_det rfl rfl rfl (op_assign rfl) ?_
  refine wl_nil ?_
  refine st_tn ?_
  refine w_seq ?_
  refine w_region ?_
  refine wl_det rfl rfl rfl (op_move rfl) ?_
  refine wl_det rfl rfl rfl (op_neq rfl rfl) ?_
  refine wl_nil ?_
  refine st_tn ?_
  refine w_cond_d rfl (fun hc35 => ?_) (fun hc35 => ?_)
  · -- c35.t
    refine w_seq ?_
    refine w_emp 77 (slO_nil 49 2) ?_
    refine w_region ?_
    refine wl_det rfl rfl rfl (op_move rfl) ?_
    refine wl_det rfl rfl rfl (op_assign rfl) ?_
    refine wl_det rfl rfl rfl (op_assign rfl) ?_
    refine wl_nil ?_
    refine st_tn ?_
    refine w_ret ?_
    refine st_tr ?_
    refine st_ret (vs := [_, _]) [77] Try.results40 ⟨rfl, ⟨rfl, trivial⟩⟩ rfl ?_
    refine ⟨[(lab, _)], rfl, ?_⟩
    exact ⟨[], none, 0, .inl ⟨hc35, rfl⟩, rfl, rfl⟩
  · -- c35.f
    refine w_skip ?_
    refine st_tn ?_
    refine w_seq ?_
    have hE0 : (distR l x y).2 = 0 := by simpa using hc35
    obtain ⟨d, hd⟩ : ∃ d, distR l x y = (d, 0) := ⟨(distR l x y).1, Prod.ext rfl hE0⟩
    obtain ⟨hxn, hyn, hF, hdis⟩ := dist_ok.1 hd
    have hlab : ∀ k, lookK KZ (search (fun _ => true) l [x]).1.L k = disF l x k := lab_eq hF
    have hfb : farC l x ≤ 4096 * l.length := small_wgt hl.1 _
    refine w_region ?_
    refine wl_det rfl rfl rfl (op_move rfl) ?_
    refine wl_det rfl rfl rfl (op_move rfl) ?_
    refine wl_op [] rfl rfl rfl rfl (op_buildSlice (enc := SL.encZ) (l := [x]) (lab := 40) tL26_1z rfl rfl (fun _ => rfl) rfl) ?_
    rintro _ _ ⟨a40, c40, rfl, rfl⟩
    refine wl_op [] rfl rfl rfl rfl (op_fn Try.func43 rfl rfl rfl (search_any (fr := [x]) 370 371 (Sl.app h _) (Sl.lab 40 rfl (by simp [maxLen])) (useAll _) hl hb (by simp))) ?_
    rintro _ _ ⟨bL37, cB37, rfl, rfl⟩
    refine wl_det rfl rfl rfl (op_move rfl) ?_
    refine wl_det rfl rfl rfl (op_extract rfl rfl) ?_
    refine wl_det rfl rfl rfl (op_extract rfl rfl) ?_
    refine wl_op [] rfl rfl rfl rfl (op_alloc (l := 10) tN74z) ?_
    rintro _ _ ⟨b10, rfl, rfl⟩
    refine wl_op0 [10] rfl rfl rfl (op_store rfl rfl tZ74z (by rfl) (by rfl) (by exact Nat.le_of_ble_eq_true rfl)) ?_
    rintro _ _ ⟨rfl, rfl⟩
    refine wl_det rfl rfl rfl (op_assign rfl) ?_
    refine wl_nil ?_
    refine st_tn ?_
    refine w_seq ?_
    refine w_region ?_
    refine wl_det rfl rfl rfl (op_move rfl) ?_
    refine wl_det rfl rfl rfl (op_move rfl) ?_
    refine wl_op [] rfl rfl rfl rfl (op_fn Try.func62 rfl rfl rfl (comp_any 46 x (Sl.app h _) (by omega))) ?_
    rintro _ _ ⟨b46, m46, hm46, rfl, rfl⟩
    refine wl_det rfl rfl rfl (op_assign rfl) ?_
    refine wl_nil ?_
    refine st_tn ?_
    refine w_seq ?_
    refine w_region ?_
    refine wl_det rfl rfl rfl (op_assign rfl) ?_
    refine wl_nil ?_
    refine st_tn ?_
    refine w_seq ?_
    refine w_seq ?_
    refine w_region ?_
    refine wl_det rfl rfl rfl (op_move rfl) ?_
    refine wl_det rfl rfl rfl (op_lenT rfl tS24z (Sl.ent (Sl.app h _))) ?_
    refine wl_det rfl rfl rfl (op_move rfl) ?_
    refine wl_nil ?_
    refine st_tn ?_
    refine w_block ?_
    refine w_loopQ (X := Nat × Nat) (fun z => z.2 ≤ l.length ∧ z.1 = wgt (fun c => decide (c.f ∈ compX l x)) (l.take z.2)) (fun z => [(13, .int .i64 (z.1)), (49, .int .i64 (z.2))]) (fun _ => []) (fun z => l.length - z.2) ((0, 0)) [(0, _), (10, _), (12, _), (47, _), (48, _)] [(40, _), (370, _), (371, _), (10, _), (46, _)] [40, 370, 371, 10, 46] rfl (rfl) (.cons rfl (.cons rfl (.nil _))) (.cons rfl (.cons rfl (.cons rfl (.cons rfl (.cons rfl (.nil _)))))) (by
        try dsimp only
        exact ⟨Nat.zero_le _, rfl⟩) ?_
    rintro ⟨far, i⟩ ⟨hi, hfar⟩
    refine w_norm2 (by dsimp only [List.cons_append, List.nil_append]) (by dsimp only [List.cons_append, List.nil_append]) ?_
    try dsimp only at hi hfar ⊢
    refine w_seq ?_
    refine w_region ?_
    refine wl_det rfl rfl rfl (op_lss rfl rfl) ?_
    refine wl_nil ?_
    refine st_tn ?_
    refine w_seq ?_
    refine w_cond_d rfl (fun hc50 => ?_) (fun hc50 => ?_)
    · -- c50.t
      obtain ⟨e, he⟩ := getE (l := l) (i := i) (by omega)
      have heb := hl.1 e (List.mem_of_getElem? he)
      have hfi : far ≤ 4096 * i := by
        have := small_wgt (l := l.take i) (fun c hc => hl.1 c (List.mem_of_mem_take hc)) (fun c => decide (c.f ∈ compX l x))
        rw [List.length_take] at this; omega
      refine w_skip ?_
      refine st_tn ?_
      refine w_seq ?_
      refine w_block ?_
      refine w_seq ?_
      refine w_region ?_
      refine wl_det rfl rfl rfl (op_idx rfl rfl tS24z (Sl.ent (Sl.app h _)) (by omega)) ?_
      refine wl_det rfl rfl rfl (op_ldxA rfl tA34z (Sl.app h _) (by assumption) (by rfl) (by rfl)) ?_
      refine wl_op [] rfl rfl rfl rfl (op_alloc (l := 15) tN34z) ?_
      rintro _ _ ⟨b15, rfl, rfl⟩
      refine wl_op0 [15] rfl rfl rfl (op_store rfl rfl tZ34z (by rfl) (by rfl) (by exact Nat.le_of_ble_eq_true rfl)) ?_
      rintro _ _ ⟨rfl, rfl⟩
      refine wl_nil ?_
      refine st_tn ?_
      refine w_seq ?_
      refine w_region ?_
      refine wl_det rfl rfl rfl (op_move rfl) ?_
      refine wl_det rfl rfl rfl (op_fieldAddr (off := 0) rfl tF34_0z) ?_
      refine wl_det rfl rfl rfl (op_load1 rfl tO3z (Ent.lab (l := 15) rfl (says_cel 0))) ?_
      refine wl_det rfl rfl rfl (op_val (v' := .bool (decide (e.f ∈ m46.map Prod.fst))) (by exact tru_look hm46.tru _) (op_lookup (kt := KZ) (encV := encVB) rfl rfl tQ90z tN4z (Mr.lab 46 rfl))) ?_
      refine wl_nil ?_
      refine st_tn ?_
      refine w_cond_d rfl (fun hc56 => ?_) (fun hc56 => ?_)
      · -- c56.t
        refine w_region ?_
        refine wl_det rfl rfl rfl (op_move rfl) ?_
        refine wl_det rfl rfl rfl (op_fieldAddr (off := 2) rfl tF34_2z) ?_
        refine wl_det rfl rfl rfl (op_load1 rfl tO3z (Ent.lab (l := 15) rfl (says_cel 2))) ?_
        refine wl_det rfl rfl rfl (op_fieldAddr (off := 2) rfl tF34_2z) ?_
        refine wl_det rfl rfl rfl (op_load1 rfl tO3z (Ent.lab (l := 15) rfl (says_cel 2))) ?_
        refine wl_det rfl rfl rfl (op_neg rfl (by omega)) ?_
        refine wl_det rfl rfl rfl (op_max rfl rfl) ?_
        refine wl_det rfl rfl rfl (op_val (v' := .int .i64 ((far + e.b.natAbs : Nat) : Int)) (by congr 1; omega) (op_add' rfl rfl (by omega))) ?_
        refine wl_det rfl rfl rfl (op_assign rfl) ?_
        refine wl_nil ?_
        refine st_bn ?_
        refine st_tn ?_
        refine w_region ?_
        refine wl_det rfl rfl rfl (op_add' rfl rfl (by omega)) ?_
        refine wl_det rfl rfl rfl (op_move rfl) ?_
        refine wl_nil ?_
        refine st_roundQ (x := (far, i)) ((far + e.b.natAbs, i + 1)) [40, 370, 371, 10, 46] rfl (rfl) (.cons rfl (.cons rfl (.nil _))) (.cons rfl (.cons rfl (.cons rfl (.cons rfl (.cons rfl (.nil _)))))) (by
            try dsimp only
            exact ⟨by omega, by rw [take_snoc he, wgt_snoc, ← hfar, if_pos (decide_eq_true ((comp_iff hm46 e.f).1 (by first | exact hc56 | exact of_decide_eq_true hc56)))]⟩) (by
            try dsimp only
            omega) 
      · -- c56.f
        refine w_skip ?_
        refine st_bn ?_
        refine st_tn ?_
        refine w_region ?_
        refine wl_det rfl rfl rfl (op_add' rfl rfl (by omega)) ?_
        refine wl_det rfl rfl rfl (op_move rfl) ?_
        refine wl_nil ?_
        refine st_roundQ (x := (far, i)) ((far, i + 1)) [40, 370, 371, 10, 46] rfl (rfl) (.cons rfl (.cons rfl (.nil _))) (.cons rfl (.cons rfl (.cons rfl (.cons rfl (.cons rfl (.nil _)))))) (by
            try dsimp only
            exact ⟨by omega, by rw [take_snoc he, wgt_snoc, ← hfar, if_neg (fun hh => by have hx := (comp_iff hm46 e.f).2 (of_decide_eq_true hh); first | exact hc56 hx | exact hc56 (decide_eq_true hx) | (rw [decide_eq_true hx] at hc56; simp at hc56)), Nat.add_zero]⟩) (by
            try dsimp only
            omega) 
    · -- c50.f
      refine w_exit ?_
      refine st_te ?_
      refine st_te ?_
      refine st_be ?_
      refine st_tn ?_
      refine w_seq ?_
      have hfe : far = farC l x := by rw [hfar, take_all (by omega)]; rfl
      refine w_region ?_
      refine wl_op [] rfl rfl rfl rfl (op_makeMap (kt := KZ) (encV := encVZ) (lab := 66)) ?_
      rintro _ _ ⟨b66, rfl, rfl⟩
      refine wl_det rfl rfl rfl (op_assign rfl) ?_
      refine wl_nil ?_
      refine st_tn ?_
      refine w_seq ?_
      refine w_seq ?_
      refine w_openM 46 rfl (fun bs ck hwf => ?_)
      refine w_region ?_
      refine wl_det rfl rfl rfl (op_move rfl) ?_
      refine wl_op [] rfl rfl rfl rfl (op_range (kt := KZ) (encV := encVB) (lab := 68) rfl tQ90z (Me.lab 46 rfl)) ?_
      rintro _ _ ⟨r68, rfl, rfl⟩
      refine wl_nil ?_
      refine st_tn ?_
      refine w_block ?_
      refine w_loopQ (X := List (Int × Bool) × List (Int × Bool) × List (Int × Int)) (fun z => (z.1 ++ z.2.1).Perm m46 ∧ StM (disF l x) (2 * (farC l x : Int)) z.1 z.2.2) (fun z => []) (fun z => [(68, itR r68 b46 m46 bs ck (z.1) (z.2.1)), (66, mp KZ encVZ b66 (z.2.2))]) (fun z => z.2.1.length) (([], m46, [])) [(0, _), (10, _), (13, _), (16, _), (68, _)] [(40, _), (370, _), (371, _), (10, _), (46, _)] [68, 66, 40, 370, 371, 10, 46] rfl (rfl) (.nil _) (.cons rfl (.cons rfl (.cons rfl (.cons rfl (.cons rfl (.nil _)))))) (by
          try dsimp only
          exact ⟨List.Perm.refl _, by simp, fun n => by simp [lookK]⟩) ?_
      rintro ⟨dn_it, td_it, M⟩ ⟨hperm, hM⟩
      refine w_norm2 (by dsimp only [List.cons_append, List.nil_append]) (by dsimp only [List.cons_append, List.nil_append]) ?_
      try dsimp only at hperm hM ⊢
      refine w_seq ?_
      refine w_region ?_
      refine wl_op [68] rfl rfl rfl rfl (op_next (kt := KZ) (encV := encVB) (lab := 68) rfl (Me.lab 46 rfl)) ?_
      rintro _ _ ⟨o69, dn69, td69, rfl, rfl, hn69⟩
      refine wl_det rfl rfl rfl (op_nextOk rfl) ?_
      refine wl_nil ?_
      refine st_tn ?_
      refine w_seq ?_
      refine w_cond rfl (fun hc70 => ?_) (fun hc70 => ?_)
      · -- c70.t
        obtain ⟨p, hpe⟩ := Option.isSome_iff_exists.1 hc70
        subst hpe
        obtain ⟨hdn69, hpt⟩ : dn69 = p :: dn_it ∧ td_it.Perm (p :: td69) := hn69
        subst hdn69
        refine w_skip ?_
        refine st_tn ?_
        refine w_block ?_
        refine w_seq ?_
        refine w_region ?_
        refine wl_det rfl rfl rfl (op_entry (kt := KZ) (encV := encVB) rfl (Me.lab 46 rfl) (It.lab 68 rfl)) ?_
        refine wl_det rfl rfl rfl (op_extract rfl rfl) ?_
        refine wl_det rfl rfl rfl (op_assign rfl) ?_
        refine wl_nil ?_
        refine st_tn ?_
        refine w_seq ?_
        by_cases hq : disF l x p.1 = none
        · -- hq+
          refine w_region ?_
          refine wl_det rfl rfl rfl (op_fieldAddr (off := 0) rfl tF74_0z) ?_
          refine wl_det rfl rfl rfl (op_load1 rfl tO72z (Ent.lab (l := 10) rfl (says_cel 0))) ?_
          refine wl_det rfl rfl rfl (op_move rfl) ?_
          refine wl_det rfl rfl rfl (op_val (v' := .tuple #[.int .i64 0, .bool false]) (by rw [hlab, hq]; rfl) (op_lookup2 (kt := KZ) (encV := encVZ) rfl rfl tQ72z tN3z (Mr.lab 370 rfl))) ?_
          refine wl_det rfl rfl rfl (op_move rfl) ?_
          refine wl_det rfl rfl rfl (op_extract rfl rfl) ?_
          refine wl_det rfl rfl rfl (op_extract rfl rfl) ?_
          refine wl_det rfl rfl rfl (op_assign rfl) ?_
          refine wl_det rfl rfl rfl (op_assign rfl) ?_
          refine wl_nil ?_
          refine st_tn ?_
          refine w_seq ?_
          refine w_region ?_
          refine wl_det rfl rfl rfl (op_move rfl) ?_
          refine wl_det rfl rfl rfl (op_not_f rfl) ?_
          refine wl_nil ?_
          refine st_tn ?_
          refine w_cond_t (rfl) ?_
          refine w_region ?_
          refine wl_det rfl rfl rfl (op_move rfl) ?_
          refine wl_det rfl rfl rfl (op_move rfl) ?_
          refine wl_det rfl rfl rfl (op_move rfl) ?_
          refine wl_det rfl rfl rfl (op_val (v' := .int .i64 (2 * (farC l x : Int))) (by rw [hfe]) (op_mul' rfl rfl (by omega))) ?_
          refine wl_op0 [66] rfl rfl rfl (op_mapUpdate (kt := KZ) (encV := encVZ) (lab := 66) rfl rfl rfl tQ72z) ?_
          rintro _ _ ⟨rfl, rfl⟩
          refine wl_nil ?_
          refine st_bn ?_
          refine st_roundQ (x := (dn_it, td_it, M)) ((_, _, setK KZ M p.1 (2 * (farC l x : Int)))) [68, 66, 40, 370, 371, 10, 46] rfl (rfl) (.nil _) (.cons rfl (.cons rfl (.cons rfl (.cons rfl (.cons rfl (.nil _)))))) (by
              try dsimp only
              exact ⟨perm_next hperm hpt, stM_in hM hq⟩) (by
              try dsimp only
              have := hpt.length_eq; simp at this; omega) 
        · -- hq-
          obtain ⟨q, hqq⟩ := Option.ne_none_iff_exists'.1 hq
          refine w_region ?_
          refine wl_det rfl rfl rfl (op_fieldAddr (off := 0) rfl tF74_0z) ?_
          refine wl_det rfl rfl rfl (op_load1 rfl tO72z (Ent.lab (l := 10) rfl (says_cel 0))) ?_
          refine wl_det rfl rfl rfl (op_move rfl) ?_
          refine wl_det rfl rfl rfl (op_val (v' := .tuple #[.int .i64 q, .bool true]) (by rw [hlab, hqq]; rfl) (op_lookup2 (kt := KZ) (encV := encVZ) rfl rfl tQ72z tN3z (Mr.lab 370 rfl))) ?_
          refine wl_det rfl rfl rfl (op_move rfl) ?_
          refine wl_det rfl rfl rfl (op_extract rfl rfl) ?_
          refine wl_det rfl rfl rfl (op_extract rfl rfl) ?_
          refine wl_det rfl rfl rfl (op_assign rfl) ?_
          refine wl_det rfl rfl rfl (op_assign rfl) ?_
          refine wl_nil ?_
          refine st_tn ?_
          refine w_seq ?_
          refine w_region ?_
          refine wl_det rfl rfl rfl (op_move rfl) ?_
          refine wl_det rfl rfl rfl (op_not_t rfl) ?_
          refine wl_nil ?_
          refine st_tn ?_
          refine w_cond_f (rfl) ?_
          refine w_skip ?_
          refine st_bn ?_
          refine st_roundQ (x := (dn_it, td_it, M)) ((_, _, M)) [68, 66, 40, 370, 371, 10, 46] rfl (rfl) (.nil _) (.cons rfl (.cons rfl (.cons rfl (.cons rfl (.cons rfl (.nil _)))))) (by
              try dsimp only
              exact ⟨perm_next hperm hpt, stM_out hM hq⟩) (by
              try dsimp only
              have := hpt.length_eq; simp at this; omega) 
      · -- c70.f
        have ho : o69 = none := by simpa using hc70
        subst ho
        obtain ⟨htd, hdn69, htd69⟩ : td_it = [] ∧ dn69 = dn_it ∧ td69 = [] := hn69
        subst htd
        rw [List.append_nil] at hperm
        have hU := stM_uinv hM hperm hm46
        refine w_wk 46 (mp KZ encVB b46 m46) rfl mpE_mp ?_
        refine w_exit ?_
        refine st_te ?_
        refine st_te ?_
        refine st_be ?_
        refine st_tn ?_
        refine w_seq ?_
        refine w_seq ?_
        refine w_region ?_
        refine wl_det rfl rfl rfl (op_assign rfl) ?_
        refine wl_nil ?_
        refine st_tn ?_
        refine w_block ?_
        refine w_loopQ (X := Bool × List (Int × Int)) (fun z => UInv l x z.2 ∧ (z.1 = false → ∀ c ∈ l, ∀ p q, lookK KZ z.2 c.f = some p → lookK KZ z.2 c.t = some q → q ≤ p + c.b)) (fun z => [(20, .bool (z.1))]) (fun z => [(66, mp KZ encVZ b66 (z.2))]) (fun z => 2 * meas (lbU l x) z.2 + (if z.1 = true then 1 else 0)) ((true, M)) [(0, _), (10, _), (16, _)] [(68, _), (40, _), (370, _), (371, _), (10, _), (46, _)] [66, 68, 40, 370, 371, 10, 46] rfl (rfl) (.cons rfl (.nil _)) (.cons rfl (.cons rfl (.cons rfl (.nil _)))) (by
            try dsimp only
            exact ⟨hU, fun hh => by simp at hh⟩) ?_
        rintro ⟨ch, M⟩ ⟨hU, hst⟩
        refine w_norm2 (by dsimp only [List.cons_append, List.nil_append]) (by dsimp only [List.cons_append, List.nil_append]) ?_
        try dsimp only at hU hst ⊢
        refine w_seq ?_
        refine w_seq ?_
        refine w_region ?_
        refine wl_det rfl rfl rfl (op_move rfl) ?_
        refine wl_nil ?_
        refine st_tn ?_
        refine w_cond rfl (fun hc86 => ?_) (fun hc86 => ?_)
        · -- c86.t
          refine w_skip ?_
          refine st_tn ?_
          refine w_block ?_
          refine w_seq ?_
          refine w_region ?_
          refine wl_det rfl rfl rfl (op_assign rfl) ?_
          refine wl_nil ?_
          refine st_tn ?_
          refine w_seq ?_
          refine w_region ?_
          refine wl_det rfl rfl rfl (op_move rfl) ?_
          refine wl_det rfl rfl rfl (op_lenT rfl tS24z (Sl.ent (Sl.app h _))) ?_
          refine wl_det rfl rfl rfl (op_move rfl) ?_
          refine wl_nil ?_
          refine st_tn ?_
          refine w_block ?_
          refine w_loopQ (X := Bool × Nat × List (Int × Int)) (fun z => z.2.1 ≤ l.length ∧ RInv l x M z.2.2 z.2.1 z.1) (fun z => [(20, .bool (z.1)), (89, .int .i64 (z.2.1))]) (fun z => [(66, mp KZ encVZ b66 (z.2.2))]) (fun z => l.length - z.2.1) ((false, 0, M)) [(0, _), (10, _), (16, _), (87, _), (88, _)] [(68, _), (40, _), (370, _), (371, _), (10, _), (46, _)] [66, 68, 40, 370, 371, 10, 46] rfl (rfl) (.cons rfl (.cons rfl (.nil _))) (.cons rfl (.cons rfl (.cons rfl (.cons rfl (.cons rfl (.nil _)))))) (by
              try dsimp only
              exact ⟨Nat.zero_le _, hU, Nat.le_refl _, fun hh => by simp at hh, fun _ j c p q hj => by omega⟩) ?_
          rintro ⟨ch2, i2, M2⟩ ⟨hi2, hR⟩
          refine w_norm2 (by dsimp only [List.cons_append, List.nil_append]) (by dsimp only [List.cons_append, List.nil_append]) ?_
          try dsimp only at hi2 hR ⊢
          refine w_seq ?_
          refine w_region ?_
          refine wl_det rfl rfl rfl (op_lss rfl rfl) ?_
          refine wl_nil ?_
          refine st_tn ?_
          refine w_seq ?_
          refine w_cond_d rfl (fun hc90 => ?_) (fun hc90 => ?_)
          · -- c90.t
            obtain ⟨e, he⟩ := getE (l := l) (i := i2) (by omega)
            have heb := hl.1 e (List.mem_of_getElem? he)
            refine w_skip ?_
            refine st_tn ?_
            refine w_seq ?_
            refine w_block ?_
            refine w_seq ?_
            refine w_region ?_
            refine wl_det rfl rfl rfl (op_idx rfl rfl tS24z (Sl.ent (Sl.app h _)) (by omega)) ?_
            refine wl_det rfl rfl rfl (op_ldxA rfl tA34z (Sl.app h _) (by assumption) (by rfl) (by rfl)) ?_
            refine wl_op [] rfl rfl rfl rfl (op_alloc (l := 22) tN34z) ?_
            rintro _ _ ⟨b22, rfl, rfl⟩
            refine wl_op0 [22] rfl rfl rfl (op_store rfl rfl tZ34z (by rfl) (by rfl) (by exact Nat.le_of_ble_eq_true rfl)) ?_
            rintro _ _ ⟨rfl, rfl⟩
            refine wl_nil ?_
            refine st_tn ?_
            refine w_seq ?_
            by_cases hp : (lookK KZ M2 e.f).isSome = true
            · -- hp+
              obtain ⟨p, hpv⟩ := Option.isSome_iff_exists.1 hp
              have hp1 := hR.u.lo _ _ hpv
              have hp2 := hR.u.hi _ _ hpv
              have hp3 := psi_ge hF e.f
              have hp4 := (wgt_cls l x).1
              unfold lbU at hp1
              by_cases hr : (lookK KZ M2 e.t).isSome = true
              · -- hr+
                obtain ⟨q, hqv⟩ := Option.isSome_iff_exists.1 hr
                refine w_region ?_
                refine wl_det rfl rfl rfl (op_move rfl) ?_
                refine wl_det rfl rfl rfl (op_fieldAddr (off := 0) rfl tF34_0z) ?_
                refine wl_det rfl rfl rfl (op_load1 rfl tO3z (Ent.lab (l := 22) rfl (says_cel 0))) ?_
                refine wl_det rfl rfl rfl (op_val (v' := .tuple #[.int .i64 p, .bool true]) (by rw [hpv]; rfl) (op_lookup2 (kt := KZ) (encV := encVZ) rfl rfl tQ72z tN3z (Mr.lab 66 rfl))) ?_
                refine wl_det rfl rfl rfl (op_move rfl) ?_
                refine wl_det rfl rfl rfl (op_extract rfl rfl) ?_
                refine wl_det rfl rfl rfl (op_extract rfl rfl) ?_
                refine wl_det rfl rfl rfl (op_assign rfl) ?_
                refine wl_det rfl rfl rfl (op_assign rfl) ?_
                refine wl_nil ?_
                refine st_tn ?_
                refine w_seq ?_
                refine w_region ?_
                refine wl_det rfl rfl rfl (op_move rfl) ?_
                refine wl_det rfl rfl rfl (op_fieldAddr (off := 1) rfl tF34_1z) ?_
                refine wl_det rfl rfl rfl (op_load1 rfl tO3z (Ent.lab (l := 22) rfl (says_cel 1))) ?_
                refine wl_det rfl rfl rfl (op_val (v' := .tuple #[.int .i64 q, .bool true]) (by rw [hqv]; rfl) (op_lookup2 (kt := KZ) (encV := encVZ) rfl rfl tQ72z tN3z (Mr.lab 66 rfl))) ?_
                refine wl_det rfl rfl rfl (op_move rfl) ?_
                refine wl_det rfl rfl rfl (op_extract rfl rfl) ?_
                refine wl_det rfl rfl rfl (op_extract rfl rfl) ?_
                refine wl_det rfl rfl rfl (op_assign rfl) ?_
                refine wl_det rfl rfl rfl (op_assign rfl) ?_
                refine wl_nil ?_
                refine st_tn ?_
                refine w_seq ?_
                refine w_region ?_
                refine wl_det rfl rfl rfl (op_move rfl) ?_
                refine wl_det rfl rfl rfl (op_move rfl) ?_
                refine wl_wanted_det rfl rfl rfl rfl rfl rfl rfl (op_move rfl) ?_
                refine wl_det rfl rfl rfl (op_pick_t rfl rfl) ?_
                refine wl_det rfl rfl rfl (op_move rfl) ?_
                refine wl_wanted_det rfl rfl rfl rfl rfl rfl rfl (op_move rfl) ?_
                refine wl_wanted_det rfl rfl rfl rfl rfl rfl rfl (op_fieldAddr (off := 2) rfl tF34_2z) ?_
                refine wl_wanted_det rfl rfl rfl rfl rfl rfl rfl (op_load1 rfl tO3z (Ent.lab (l := 22) rfl (says_cel 2))) ?_
                refine wl_wanted_det rfl rfl rfl rfl rfl rfl rfl (op_add' rfl rfl (by omega)) ?_
                refine wl_wanted_det rfl rfl rfl rfl rfl rfl rfl (op_move rfl) ?_
                refine wl_wanted_det rfl rfl rfl rfl rfl rfl rfl (op_lss rfl rfl) ?_
                refine wl_det rfl rfl rfl (op_pick_t rfl rfl) ?_
                refine wl_nil ?_
                refine st_tn ?_
                refine w_cond_d rfl (fun hc118 => ?_) (fun hc118 => ?_)
                · -- c118.t
                  refine w_region ?_
                  refine wl_det rfl rfl rfl (op_move rfl) ?_
                  refine wl_det rfl rfl rfl (op_fieldAddr (off := 1) rfl tF34_1z) ?_
                  refine wl_det rfl rfl rfl (op_load1 rfl tO3z (Ent.lab (l := 22) rfl (says_cel 1))) ?_
                  refine wl_det rfl rfl rfl (op_move rfl) ?_
                  refine wl_det rfl rfl rfl (op_fieldAddr (off := 2) rfl tF34_2z) ?_
                  refine wl_det rfl rfl rfl (op_load1 rfl tO3z (Ent.lab (l := 22) rfl (says_cel 2))) ?_
                  refine wl_det rfl rfl rfl (op_add' rfl rfl (by omega)) ?_
                  refine wl_op0 [66] rfl rfl rfl (op_mapUpdate (kt := KZ) (encV := encVZ) (lab := 66) rfl rfl rfl tQ72z) ?_
                  rintro _ _ ⟨rfl, rfl⟩
                  refine wl_det rfl rfl rfl (op_assign rfl) ?_
                  refine wl_nil ?_
                  refine st_bn ?_
                  refine st_tn ?_
                  refine w_region ?_
                  refine wl_det rfl rfl rfl (op_add' rfl rfl (by omega)) ?_
                  refine wl_det rfl rfl rfl (op_move rfl) ?_
                  refine wl_nil ?_
                  refine st_roundQ (x := (ch2, i2, M2)) ((true, i2 + 1, setK KZ M2 e.t (p + e.b))) [66, 68, 40, 370, 371, 10, 46] rfl (rfl) (.cons rfl (.cons rfl (.nil _))) (.cons rfl (.cons rfl (.cons rfl (.cons rfl (.cons rfl (.nil _)))))) (by
                      try dsimp only
                      exact ⟨by omega, hR.upd hF he hpv hqv hc118⟩) (by
                      try dsimp only
                      omega) 
                · -- c118.f
                  refine w_skip ?_
                  refine st_bn ?_
                  refine st_tn ?_
                  refine w_region ?_
                  refine wl_det rfl rfl rfl (op_add' rfl rfl (by omega)) ?_
                  refine wl_det rfl rfl rfl (op_move rfl) ?_
                  refine wl_nil ?_
                  refine st_roundQ (x := (ch2, i2, M2)) ((ch2, i2 + 1, M2)) [66, 68, 40, 370, 371, 10, 46] rfl (rfl) (.cons rfl (.cons rfl (.nil _))) (.cons rfl (.cons rfl (.cons rfl (.cons rfl (.cons rfl (.nil _)))))) (by
                      try dsimp only
                      exact ⟨by omega, hR.same he fun p' q' h1 h2 => by rw [hpv] at h1; rw [hqv] at h2; simp only [Option.some.injEq] at h1 h2; omega⟩) (by
                      try dsimp only
                      omega) 
              · -- hr-
                have hqn : lookK KZ M2 e.t = none := by simpa using hr
                refine w_region ?_
                refine wl_det rfl rfl rfl (op_move rfl) ?_
                refine wl_det rfl rfl rfl (op_fieldAddr (off := 0) rfl tF34_0z) ?_
                refine wl_det rfl rfl rfl (op_load1 rfl tO3z (Ent.lab (l := 22) rfl (says_cel 0))) ?_
                refine wl_det rfl rfl rfl (op_val (v' := .tuple #[.int .i64 p, .bool true]) (by rw [hpv]; rfl) (op_lookup2 (kt := KZ) (encV := encVZ) rfl rfl tQ72z tN3z (Mr.lab 66 rfl))) ?_
                refine wl_det rfl rfl rfl (op_move rfl) ?_
                refine wl_det rfl rfl rfl (op_extract rfl rfl) ?_
                refine wl_det rfl rfl rfl (op_extract rfl rfl) ?_
                refine wl_det rfl rfl rfl (op_assign rfl) ?_
                refine wl_det rfl rfl rfl (op_assign rfl) ?_
                refine wl_nil ?_
                refine st_tn ?_
                refine w_seq ?_
                refine w_region ?_
                refine wl_det rfl rfl rfl (op_move rfl) ?_
                refine wl_det rfl rfl rfl (op_fieldAddr (off := 1) rfl tF34_1z) ?_
                refine wl_det rfl rfl rfl (op_load1 rfl tO3z (Ent.lab (l := 22) rfl (says_cel 1))) ?_
                refine wl_det rfl rfl rfl (op_val (v' := .tuple #[.int .i64 0, .bool false]) (by rw [hqn]; rfl) (op_lookup2 (kt := KZ) (encV := encVZ) rfl rfl tQ72z tN3z (Mr.lab 66 rfl))) ?_
                refine wl_det rfl rfl rfl (op_move rfl) ?_
                refine wl_det rfl rfl rfl (op_extract rfl rfl) ?_
                refine wl_det rfl rfl rfl (op_extract rfl rfl) ?_
                refine wl_det rfl rfl rfl (op_assign rfl) ?_
                refine wl_det rfl rfl rfl (op_assign rfl) ?_
                refine wl_nil ?_
                refine st_tn ?_
                refine w_seq ?_
                refine w_region ?_
                refine wl_det rfl rfl rfl (op_move rfl) ?_
                refine wl_det rfl rfl rfl (op_move rfl) ?_
                refine wl_wanted_det rfl rfl rfl rfl rfl rfl rfl (op_move rfl) ?_
                refine wl_det rfl rfl rfl (op_pick_t rfl rfl) ?_
                refine wl_det rfl rfl rfl (op_move rfl) ?_
                refine wl_unwanted rfl rfl rfl rfl rfl rfl rfl rfl ?_
                refine wl_unwanted rfl rfl rfl rfl rfl rfl rfl rfl ?_
                refine wl_unwanted rfl rfl rfl rfl rfl rfl rfl rfl ?_
                refine wl_unwanted rfl rfl rfl rfl rfl rfl rfl rfl ?_
                refine wl_unwanted rfl rfl rfl rfl rfl rfl rfl rfl ?_
                refine wl_unwanted rfl rfl rfl rfl rfl rfl rfl rfl ?_
                refine wl_det rfl rfl rfl (op_pick_f rfl rfl) ?_
                refine wl_nil ?_
                refine st_tn ?_
                refine w_cond_f (rfl) ?_
                refine w_skip ?_
                refine st_bn ?_
                refine st_tn ?_
                refine w_region ?_
                refine wl_det rfl rfl rfl (op_add' rfl rfl (by omega)) ?_
                refine wl_det rfl rfl rfl (op_move rfl) ?_
                refine wl_nil ?_
                refine st_roundQ (x := (ch2, i2, M2)) ((ch2, i2 + 1, M2)) [66, 68, 40, 370, 371, 10, 46] rfl (rfl) (.cons rfl (.cons rfl (.nil _))) (.cons rfl (.cons rfl (.cons rfl (.cons rfl (.cons rfl (.nil _)))))) (by
                    try dsimp only
                    exact ⟨by omega, hR.same he fun p' q' h1 h2 => by rw [hqn] at h2; simp at h2⟩) (by
                    try dsimp only
                    omega) 
            · -- hp-
              have hpn : lookK KZ M2 e.f = none := by simpa using hp
              obtain ⟨q, kq, hqv⟩ : ∃ (q : Int) (kq : Bool), (Value.tuple #[((lookK KZ M2 e.t).map encVZ).getD (.int .i64 0), .bool (lookK KZ M2 e.t).isSome] : Value) = .tuple #[.int .i64 q, .bool kq] := by
                cases lookK KZ M2 e.t with
                | none => exact ⟨0, false, rfl⟩
                | some z => exact ⟨z, true, rfl⟩
              refine w_region ?_
              refine wl_det rfl rfl rfl (op_move rfl) ?_
              refine wl_det rfl rfl rfl (op_fieldAddr (off := 0) rfl tF34_0z) ?_
              refine wl_det rfl rfl rfl (op_load1 rfl tO3z (Ent.lab (l := 22) rfl (says_cel 0))) ?_
              refine wl_det rfl rfl rfl (op_val (v' := .tuple #[.int .i64 0, .bool false]) (by rw [hpn]; rfl) (op_lookup2 (kt := KZ) (encV := encVZ) rfl rfl tQ72z tN3z (Mr.lab 66 rfl))) ?_
              refine wl_det rfl rfl rfl (op_move rfl) ?_
              refine wl_det rfl rfl rfl (op_extract rfl rfl) ?_
              refine wl_det rfl rfl rfl (op_extract rfl rfl) ?_
              refine wl_det rfl rfl rfl (op_assign rfl) ?_
              refine wl_det rfl rfl rfl (op_assign rfl) ?_
              refine wl_nil ?_
              refine st_tn ?_
              refine w_seq ?_
              refine w_region ?_
              refine wl_det rfl rfl rfl (op_move rfl) ?_
              refine wl_det rfl rfl rfl (op_fieldAddr (off := 1) rfl tF34_1z) ?_
              refine wl_det rfl rfl rfl (op_load1 rfl tO3z (Ent.lab (l := 22) rfl (says_cel 1))) ?_
              refine wl_det rfl rfl rfl (op_val (v' := .tuple #[.int .i64 q, .bool kq]) (by exact hqv) (op_lookup2 (kt := KZ) (encV := encVZ) rfl rfl tQ72z tN3z (Mr.lab 66 rfl))) ?_
              refine wl_det rfl rfl rfl (op_move rfl) ?_
              refine wl_det rfl rfl rfl (op_extract rfl rfl) ?_
              refine wl_det rfl rfl rfl (op_extract rfl rfl) ?_
              refine wl_det rfl rfl rfl (op_assign rfl) ?_
              refine wl_det rfl rfl rfl (op_assign rfl) ?_
              refine wl_nil ?_
              refine st_tn ?_
              refine w_seq ?_
              refine w_region ?_
              refine wl_det rfl rfl rfl (op_move rfl) ?_
              refine wl_det rfl rfl rfl (op_move rfl) ?_
              refine wl_unwanted rfl rfl rfl rfl rfl rfl rfl rfl ?_
              refine wl_det rfl rfl rfl (op_pick_f rfl rfl) ?_
              refine wl_det rfl rfl rfl (op_move rfl) ?_
              refine wl_unwanted rfl rfl rfl rfl rfl rfl rfl rfl ?_
              refine wl_unwanted rfl rfl rfl rfl rfl rfl rfl rfl ?_
              refine wl_unwanted rfl rfl rfl rfl rfl rfl rfl rfl ?_
              refine wl_unwanted rfl rfl rfl rfl rfl rfl rfl rfl ?_
              refine wl_unwanted rfl rfl rfl rfl rfl rfl rfl rfl ?_
              refine wl_unwanted rfl rfl rfl rfl rfl rfl rfl rfl ?_
              refine wl_det rfl rfl rfl (op_pick_f rfl rfl) ?_
              refine wl_nil ?_
              refine st_tn ?_
              refine w_cond_f (rfl) ?_
              refine w_skip ?_
              refine st_bn ?_
              refine st_tn ?_
              refine w_region ?_
              refine wl_det rfl rfl rfl (op_add' rfl rfl (by omega)) ?_
              refine wl_det rfl rfl rfl (op_move rfl) ?_
              refine wl_nil ?_
              refine st_roundQ (x := (ch2, i2, M2)) ((ch2, i2 + 1, M2)) [66, 68, 40, 370, 371, 10, 46] rfl (rfl) (.cons rfl (.cons rfl (.nil _))) (.cons rfl (.cons rfl (.cons rfl (.cons rfl (.cons rfl (.nil _)))))) (by
                  try dsimp only
                  exact ⟨by omega, hR.same he fun p' q' h1 h2 => by rw [hpn] at h1; simp at h1⟩) (by
                  try dsimp only
                  omega) 
          · -- c90.f
            refine w_exit ?_
            refine st_te ?_
            refine st_te ?_
            refine st_be ?_
            refine st_bn ?_
            refine st_roundQ (x := (ch, M)) ((ch2, M2)) [66, 68, 40, 370, 371, 10, 46] rfl (rfl) (.cons rfl (.nil _)) (.cons rfl (.cons rfl (.cons rfl (.nil _)))) (by
                try dsimp only
                refine ⟨hR.u, fun hh c hc p q hp hq => ?_⟩
                obtain ⟨j, hj⟩ := List.mem_iff_getElem?.1 hc
                exact hR.no hh j c p q (by have := ltE hj; omega) hj hp hq) (by
                try dsimp only
                rw [if_pos hc86]
                have h1 := hR.le
                cases hch : ch2 with
                | true => have := hR.yes hch; simp; omega
                | false => simp; omega) 
        · -- c86.f
          refine w_exit ?_
          refine st_te ?_
          refine st_te ?_
          refine st_be ?_
          refine st_tn ?_
          refine w_seq ?_
          refine w_region ?_
          refine wl_det rfl rfl rfl (op_move rfl) ?_
          refine wl_det rfl rfl rfl (op_fieldAddr (off := 0) rfl tF74_0z) ?_
          refine wl_det rfl rfl rfl (op_load1 rfl tO72z (Ent.lab (l := 10) rfl (says_cel 0))) ?_
          refine wl_op [66, 370] rfl rfl rfl rfl (op_fn Try.func64 rfl rfl rfl (FnT.relab' (S' := fun u ρ => ∃ d', Copied M (search (fun _ => true) l [x]).1.L d' ∧ u = .tuple #[] ∧ ρ = [(66, mp KZ encVZ b66 d'), (370, mp KZ encVZ bL37 (search (fun _ => true) l [x]).1.L)]) (copyZ hU.nod) rfl (by rintro u ρ ⟨d', h1, h2, rfl⟩; exact ⟨_, ⟨d', h1, h2, rfl⟩, rfl⟩))) ?_
          rintro _ _ ⟨E130, hE130, rfl, rfl⟩
          refine wl_nil ?_
          refine st_tn ?_
          refine w_seq ?_
          have hEx := ext_ok hl hd hU (hst (by simpa using hc86)) hlab hE130 (by omega)
          have hEk : ∀ p ∈ E130, p.1 ∈ nodes l := fun p hp => by
            have h1 := look_get (kt := KZ) hE130.1 hp
            rw [hE130.2, hlab] at h1
            cases hq : disF l x p.1 with
            | some z => exact compX_in hxn (comp_in (by rw [hq]; rfl))
            | none =>
              rw [hq, Option.none_or] at h1
              exact compX_in hxn ((hU.key p.1).1 (by rw [h1]; rfl)).1
          have hEl : E130.length ≤ 1048576 := by
            have h1 := nodup_le hE130.1 fun k hk => by
              obtain ⟨p, hp, rfl⟩ := List.mem_map.1 hk
              exact hEk p hp
            rw [List.length_map] at h1; omega
          refine w_region ?_
          refine wl_det rfl rfl rfl (op_move rfl) ?_
          refine wl_op [66] rfl rfl rfl rfl (op_fn Try.func53 rfl rfl rfl (asg_l 66 132 (fun p hp => by obtain ⟨c0, hc0, hh⟩ := mem_nodes.1 (hEk p hp); have := hb c0 hc0; rcases hh with hh | hh <;> rw [hh]; exact this.1; exact this.2.1) hEl)) ?_
          rintro _ _ ⟨a132, c132, rfl, rfl⟩
          refine wl_det rfl rfl rfl (op_assign rfl) ?_
          refine wl_det rfl rfl rfl (op_assign rfl) ?_
          refine wl_nil ?_
          refine st_tn ?_
          refine w_ret ?_
          refine st_ret (vs := [_, _]) [132] Try.results40 ⟨rfl, ⟨rfl, trivial⟩⟩ rfl ?_
          refine ⟨[(lab, _)], rfl, ?_⟩
          exact ⟨asg E130, a132, c132, .inr ⟨hE0, hEx⟩, by rw [hE0]; rfl, rfl⟩

end Go.Proofs.Ytgdjnjbipemdcaa
namespace Go.Proofs.Ytgdjnjbipemdcaa
open Go Go.SL Go.RowKit Go.ConM
set_option linter.unusedVariables false
set_option linter.unusedSimpArgs false
theorem tF49_0ex : fieldB Try.prog 49 0 0 = true := by kernel_rfl
theorem tF49_1ex : fieldB Try.prog 49 1 1 = true := by kernel_rfl
theorem tO3ex : oneB Try.prog 3 = true := by kernel_rfl
theorem tS45ex : sliceB Try.prog 45 49 2 = true := by kernel_rfl

theorem look_snoc {l : List (Int × Int)} {x : Int × Int} (hx : x.1 ∉ l.map Prod.fst) (k : Int) : lookK KZ (l ++ [x]) k = if x.1 = k then some x.2 else lookK KZ l k := by
  induction l with
  | nil =>
    by_cases h : x.1 = k
    · rw [if_pos h]; subst h; simp [lookK, KZ]
    · rw [if_neg h]; have : KZ.eq k x.1 = false := by
        cases hq : KZ.eq k x.1 with
        | false => rfl
        | true => exact absurd ((KZ.eq_iff _ _).1 hq).symm h
      show (bif KZ.eq k x.1 then some x.2 else lookK KZ [] k) = _
      rw [this]; rfl
  | cons p l ih =>
    rw [List.map_cons, List.mem_cons, not_or] at hx
    have ih := ih hx.2
    show (bif KZ.eq k p.1 then some p.2 else lookK KZ (l ++ [x]) k) = if x.1 = k then some x.2 else (bif KZ.eq k p.1 then some p.2 else lookK KZ l k)
    cases hq : KZ.eq k p.1 with
    | false => exact ih
    | true =>
      have := (KZ.eq_iff _ _).1 hq
      rw [if_neg (fun e => hx.1 (e.trans this))]; rfl
theorem take_new {l : List (Int × Int)} (hn : (l.map Prod.fst).Nodup) {i : Nat} {x : Int × Int} (hx : l[i]? = some x) : x.1 ∉ (l.take i).map Prod.fst := by
  have h1 : (l.take (i + 1)).map Prod.fst = (l.take i).map Prod.fst ++ [x.1] := by rw [take_snoc hx, List.map_append]; rfl
  have h2 : ((l.take (i + 1)).map Prod.fst).Nodup := by rw [List.map_take]; exact hn.sublist (List.take_sublist _ _)
  rw [h1, List.nodup_append] at h2
  exact fun hm => h2.2.2 _ hm _ (List.mem_singleton_self _) rfl
set_option maxHeartbeats 4000000 in
set_option maxRecDepth 100000 in
theorem lawExtremes_any {σ : World} {F : List Res} {a : Option Addr} {c : Nat} {s : List Arc} (x y : Int) (h : Sl σ F encA 3 (.slice a s.length c) s) (hs : OkA s) (hx : 0 ≤ x ∧ x ≤ 255) (hy : 0 ≤ y ∧ y ≤ 255) :
    FnT Try.prog σ F 14 [.slice a s.length c, .int .u8 x, .int .u8 y] [] (fun u ρ => u = .bool true ∧ ρ = []) := by
  refine fn_of 100 Try.func14 rfl Try.ntmps14 rfl ?_
  have hle := h.i64
  obtain ⟨hfew, hsm, hin, hno, hbn⟩ := sys_ok hs
  obtain ⟨l, hl⟩ : ∃ l, l = sysL s := ⟨_, rfl⟩
  rw [← hl] at hfew hsm hin hno hbn
  refine w_seq ?_
  refine w_region ?_
  refine wl_det rfl rfl rfl (op_assign rfl) ?_
  refine wl_nil ?_
  refine st_tn ?_
  refine w_seq ?_
  refine w_seq ?_
  refine w_region ?_
  refine wl_det rfl rfl rfl (op_fn Try.func15 rfl rfl rfl (known_any)) ?_
  refine wl_det rfl rfl rfl (op_not_t rfl) ?_
  refine wl_nil ?_
  refine st_tn ?_
  refine w_cond_f (rfl) ?_
  refine w_skip ?_
  refine st_tn ?_
  refine w_seq ?_
  refine w_region ?_
  refine wl_det rfl rfl rfl (op_move rfl) ?_
  refine wl_op [] rfl rfl rfl rfl (op_fn Try.func16 rfl rfl rfl (sys_any 21 (by first | exact Sl.app (by assumption) _ | exact Sl.app (Sl.app (by assumption) _) _) (by assumption))) ?_
  rintro _ _ ⟨a21, c21, rfl, rfl⟩
  refine wl_det rfl rfl rfl (op_move rfl) ?_
  refine wl_det rfl rfl rfl (op_remN rfl rfl (by omega) (by omega)) ?_
  refine wl_det rfl rfl rfl (op_convI64 rfl (by rw [Try.underlying5]; rfl) Try.underlying3 (by omega)) ?_
  refine wl_det rfl rfl rfl (op_sub' rfl rfl (by omega)) ?_
  refine wl_det rfl rfl rfl (op_move rfl) ?_
  refine wl_det rfl rfl rfl (op_remN rfl rfl (by omega) (by omega)) ?_
  refine wl_det rfl rfl rfl (op_convI64 rfl (by rw [Try.underlying5]; rfl) Try.underlying3 (by omega)) ?_
  refine wl_det rfl rfl rfl (op_sub' rfl rfl (by omega)) ?_
  refine wl_det rfl rfl rfl (op_assign rfl) ?_
  refine wl_det rfl rfl rfl (op_assign rfl) ?_
  refine wl_det rfl rfl rfl (op_assign rfl) ?_
  refine wl_nil ?_
  refine st_tn ?_
  refine w_seq ?_
  rw [← hl]
  have hnl := len_nodes l
  have hl2 := hsm.2
  obtain ⟨A, hA⟩ : ∃ A, A = x % 6 - 1 := ⟨_, rfl⟩
  obtain ⟨B, hB⟩ : ∃ B, B = y % 6 - 1 := ⟨_, rfl⟩
  rw [← hA, ← hB]
  have hcl := compX_len l A
  refine w_region ?_
  refine wl_det rfl rfl rfl (op_move rfl) ?_
  refine wl_det rfl rfl rfl (op_move rfl) ?_
  refine wl_det rfl rfl rfl (op_move rfl) ?_
  refine wl_op [] rfl rfl rfl rfl (op_fn Try.func40 rfl rfl rfl (extreme_any 34 A B (Sl.lab 21 rfl (by unfold maxLen; omega)) hsm hin)) ?_
  rintro _ _ ⟨v34, a34, c34, hv34, rfl, rfl⟩
  refine wl_det rfl rfl rfl (op_move rfl) ?_
  refine wl_det rfl rfl rfl (op_extract rfl rfl) ?_
  refine wl_det rfl rfl rfl (op_extract rfl rfl) ?_
  refine wl_det rfl rfl rfl (op_assign rfl) ?_
  refine wl_det rfl rfl rfl (op_assign rfl) ?_
  refine wl_nil ?_
  refine st_tn ?_
  refine w_seq ?_
  refine w_region ?_
  refine wl_det rfl rfl rfl (op_move rfl) ?_
  refine wl_det rfl rfl rfl (op_move rfl) ?_
  refine wl_det rfl rfl rfl (op_move rfl) ?_
  refine wl_det rfl rfl rfl (op_fn Try.func23 rfl rfl rfl (rdist_any A B (Sl.lab 21 rfl (by unfold maxLen; omega)) hsm hin)) ?_
  refine wl_det rfl rfl rfl (op_move rfl) ?_
  refine wl_det rfl rfl rfl (op_extract rfl rfl) ?_
  refine wl_det rfl rfl rfl (op_extract rfl rfl) ?_
  refine wl_det rfl rfl rfl (op_assign rfl) ?_
  refine wl_det rfl rfl rfl (op_assign rfl) ?_
  refine wl_nil ?_
  refine st_tn ?_
  refine w_seq ?_
  refine w_seq ?_
  have hvl : v34.length ≤ 1048576 := by
    rcases hv34 with ⟨_, h1⟩ | ⟨_, h1⟩
    · rw [h1]; simp
    · have := h1.len; omega
  refine w_region ?_
  refine wl_det rfl rfl rfl (op_move rfl) ?_
  refine wl_det rfl rfl rfl (op_move rfl) ?_
  refine wl_det rfl rfl rfl (op_val (v' := .bool false) (by simp) (op_neq rfl rfl)) ?_
  refine wl_nil ?_
  refine st_tn ?_
  refine w_cond_f (rfl) ?_
  refine w_skip ?_
  refine st_tn ?_
  refine w_seq ?_
  refine w_seq ?_
  refine w_region ?_
  refine wl_det rfl rfl rfl (op_move rfl) ?_
  refine wl_det rfl rfl rfl (op_val (v' := .bool (decide ((distR l A B).2 ≠ 0))) (by simp) (op_neq rfl rfl)) ?_
  refine wl_nil ?_
  refine st_tn ?_
  refine w_cond_d rfl (fun hc48 => ?_) (fun hc48 => ?_)
  · -- c48.t
    have h1 : v34 = [] := by
      rcases hv34 with ⟨_, h1⟩ | ⟨h0, _⟩
      · exact h1
      · exact absurd h0 hc48
    refine w_seq ?_
    refine w_region ?_
    refine wl_det rfl rfl rfl (op_move rfl) ?_
    refine wl_det rfl rfl rfl (op_lenT rfl tS45ex (Sl.ent (Sl.lab 34 rfl (by unfold maxLen; omega)))) ?_
    refine wl_det rfl rfl rfl (op_val (v' := .bool true) (by rw [h1]; rfl) (op_eql rfl rfl)) ?_
    refine wl_det rfl rfl rfl (op_assign rfl) ?_
    refine wl_nil ?_
    refine st_tn ?_
    refine w_ret ?_
    refine st_tr ?_
    refine st_ret (vs := [_]) [] Try.results14 ⟨rfl, trivial⟩ rfl ?_
    refine ⟨_, rfl, ?_⟩
    exact ⟨rfl, rfl⟩
  · -- c48.f
    have hE0 : (distR l A B).2 = 0 := Classical.not_not.1 hc48
    have hV : ExtV l A B v34 := by
      rcases hv34 with ⟨h0, _⟩ | ⟨_, h1⟩
      · exact absurd h0 hc48
      · exact h1
    have hnd := hV.nod
    have hfs := hV.fst
    have hsn := hV.snd
    have hsat := hV.sat
    refine w_skip ?_
    refine st_tn ?_
    refine w_seq ?_
    refine w_region ?_
    refine wl_det rfl rfl rfl (op_move rfl) ?_
    refine wl_det rfl rfl rfl (op_move rfl) ?_
    refine wl_det rfl rfl rfl (op_move rfl) ?_
    refine wl_op [] rfl rfl rfl rfl (op_fn Try.func42 rfl rfl rfl (rcomp_any 55 A (Sl.lab 21 rfl (by unfold maxLen; omega)) (by omega))) ?_
    rintro _ _ ⟨s55, a55, c55, hss55, hsm55, rfl, rfl⟩
    refine wl_op [] rfl rfl rfl rfl (op_fn Try.func41 rfl rfl rfl (withinO_any (C := s55) (x := A) 56 (Sl.lab 21 rfl (by unfold maxLen; omega)) (Sl.lab 55 rfl (by have := Nat.le_trans (nodup_le hss55.nodup fun q hq => (hsm55 q).1 hq) hcl; unfold maxLen; omega)) (by omega) hsm55)) ?_
    rintro _ _ ⟨a56, c56, rfl, rfl⟩
    refine wl_det rfl rfl rfl (op_assign rfl) ?_
    refine wl_nil ?_
    refine st_tn ?_
    refine w_seq ?_
    refine w_region ?_
    refine wl_det rfl rfl rfl (op_assign rfl) ?_
    refine wl_det rfl rfl rfl (op_assign rfl) ?_
    refine wl_nil ?_
    refine st_tn ?_
    refine w_seq ?_
    refine w_seq ?_
    refine w_region ?_
    refine wl_det rfl rfl rfl (op_assign rfl) ?_
    refine wl_nil ?_
    refine st_tn ?_
    refine w_block ?_
    refine w_loopQ (X := Int × Int × Nat) (fun z => z.2.2 ≤ v34.length ∧ z.1 = (lookK KZ (v34.take z.2.2) A).getD 1 ∧ z.2.1 = (lookK KZ (v34.take z.2.2) B).getD 0) (fun z => [(15, .int .i64 (z.1)), (16, .int .i64 (z.2.1)), (17, .int .i64 (z.2.2))]) (fun _ => []) (fun z => v34.length - z.2.2) ((1, 0, 0)) [(8, _), (9, _), (10, _), (12, _), (14, _)] [(21, _), (34, _), (55, _), (56, _)] [21, 34, 55, 56] rfl (rfl) (.cons rfl (.cons rfl (.cons rfl (.nil _)))) (.cons rfl (.cons rfl (.cons rfl (.cons rfl (.cons rfl (.nil _)))))) (by
        try dsimp only
        exact ⟨Nat.zero_le _, rfl, rfl⟩) ?_
    rintro ⟨f1, f2, i⟩ ⟨hi, hf1, hf2⟩
    refine w_norm2 (by dsimp only [List.cons_append, List.nil_append]) (by dsimp only [List.cons_append, List.nil_append]) ?_
    try dsimp only at hi hf1 hf2 ⊢
    refine w_seq ?_
    refine w_seq ?_
    refine w_region ?_
    refine wl_det rfl rfl rfl (op_move rfl) ?_
    refine wl_det rfl rfl rfl (op_move rfl) ?_
    refine wl_det rfl rfl rfl (op_lenT rfl tS45ex (Sl.ent (Sl.lab 34 rfl (by unfold maxLen; omega)))) ?_
    refine wl_det rfl rfl rfl (op_lss rfl rfl) ?_
    refine wl_nil ?_
    refine st_tn ?_
    refine w_cond_d rfl (fun hc60 => ?_) (fun hc60 => ?_)
    · -- c60.t
      obtain ⟨e, he⟩ := getE (l := v34) (i := i) (by omega)
      have hnew := take_new hnd he
      have hlkA := look_snoc hnew A
      have hlkB := look_snoc hnew B
      rw [← take_snoc he] at hlkA hlkB
      refine w_skip ?_
      refine st_tn ?_
      refine w_seq ?_
      refine w_block ?_
      refine w_seq ?_
      refine w_seq ?_
      refine w_region ?_
      refine wl_det rfl rfl rfl (op_move rfl) ?_
      refine wl_det rfl rfl rfl (op_move rfl) ?_
      refine wl_det rfl rfl rfl (op_idx rfl rfl tS45ex (Sl.ent (Sl.lab 34 rfl (by unfold maxLen; omega))) (by omega)) ?_
      refine wl_det rfl rfl rfl (op_fieldAddr (off := 0) rfl tF49_0ex) ?_
      refine wl_det rfl rfl rfl (op_ldxf rfl tO3ex (Sl.lab 34 rfl (by unfold maxLen; omega)) (by assumption) (by rfl)) ?_
      refine wl_det rfl rfl rfl (op_move rfl) ?_
      refine wl_det rfl rfl rfl (op_eql rfl rfl) ?_
      refine wl_nil ?_
      refine st_tn ?_
      refine w_cond_d rfl (fun hc69 => ?_) (fun hc69 => ?_)
      · -- c69.t
        refine w_region ?_
        refine wl_det rfl rfl rfl (op_move rfl) ?_
        refine wl_det rfl rfl rfl (op_move rfl) ?_
        refine wl_det rfl rfl rfl (op_idx rfl rfl tS45ex (Sl.ent (Sl.lab 34 rfl (by unfold maxLen; omega))) (by omega)) ?_
        refine wl_det rfl rfl rfl (op_fieldAddr (off := 1) rfl tF49_1ex) ?_
        refine wl_det rfl rfl rfl (op_ldxf rfl tO3ex (Sl.lab 34 rfl (by unfold maxLen; omega)) (by assumption) (by rfl)) ?_
        refine wl_det rfl rfl rfl (op_assign rfl) ?_
        refine wl_nil ?_
        refine st_tn ?_
        refine w_seq ?_
        refine w_region ?_
        refine wl_det rfl rfl rfl (op_move rfl) ?_
        refine wl_det rfl rfl rfl (op_move rfl) ?_
        refine wl_det rfl rfl rfl (op_idx rfl rfl tS45ex (Sl.ent (Sl.lab 34 rfl (by unfold maxLen; omega))) (by omega)) ?_
        refine wl_det rfl rfl rfl (op_fieldAddr (off := 0) rfl tF49_0ex) ?_
        refine wl_det rfl rfl rfl (op_ldxf rfl tO3ex (Sl.lab 34 rfl (by unfold maxLen; omega)) (by assumption) (by rfl)) ?_
        refine wl_det rfl rfl rfl (op_move rfl) ?_
        refine wl_det rfl rfl rfl (op_eql rfl rfl) ?_
        refine wl_nil ?_
        refine st_tn ?_
        refine w_cond_d rfl (fun hc81 => ?_) (fun hc81 => ?_)
        · -- c81.t
          refine w_region ?_
          refine wl_det rfl rfl rfl (op_move rfl) ?_
          refine wl_det rfl rfl rfl (op_move rfl) ?_
          refine wl_det rfl rfl rfl (op_idx rfl rfl tS45ex (Sl.ent (Sl.lab 34 rfl (by unfold maxLen; omega))) (by omega)) ?_
          refine wl_det rfl rfl rfl (op_fieldAddr (off := 1) rfl tF49_1ex) ?_
          refine wl_det rfl rfl rfl (op_ldxf rfl tO3ex (Sl.lab 34 rfl (by unfold maxLen; omega)) (by assumption) (by rfl)) ?_
          refine wl_det rfl rfl rfl (op_assign rfl) ?_
          refine wl_nil ?_
          refine st_bn ?_
          refine st_tn ?_
          refine w_region ?_
          refine wl_det rfl rfl rfl (op_move rfl) ?_
          refine wl_det rfl rfl rfl (op_add' rfl rfl (by omega)) ?_
          refine wl_det rfl rfl rfl (op_assign rfl) ?_
          refine wl_nil ?_
          refine st_roundQ (x := (f1, f2, i)) ((e.2, e.2, i + 1)) [21, 34, 55, 56] rfl (rfl) (.cons rfl (.cons rfl (.cons rfl (.nil _)))) (.cons rfl (.cons rfl (.cons rfl (.cons rfl (.cons rfl (.nil _)))))) (by
              try dsimp only
              exact ⟨by omega, by rw [hlkA]; first | (rw [if_pos hc69]; rfl) | (rw [if_neg hc69]; exact hf1), by rw [hlkB]; first | (rw [if_pos hc81]; rfl) | (rw [if_neg hc81]; exact hf2)⟩) (by
              try dsimp only
              omega) 
        · -- c81.f
          refine w_skip ?_
          refine st_bn ?_
          refine st_tn ?_
          refine w_region ?_
          refine wl_det rfl rfl rfl (op_move rfl) ?_
          refine wl_det rfl rfl rfl (op_add' rfl rfl (by omega)) ?_
          refine wl_det rfl rfl rfl (op_assign rfl) ?_
          refine wl_nil ?_
          refine st_roundQ (x := (f1, f2, i)) ((e.2, _, i + 1)) [21, 34, 55, 56] rfl (rfl) (.cons rfl (.cons rfl (.cons rfl (.nil _)))) (.cons rfl (.cons rfl (.cons rfl (.cons rfl (.cons rfl (.nil _)))))) (by
              try dsimp only
              exact ⟨by omega, by rw [hlkA]; first | (rw [if_pos hc69]; rfl) | (rw [if_neg hc69]; exact hf1), by rw [hlkB]; first | (rw [if_pos hc81]; rfl) | (rw [if_neg hc81]; exact hf2)⟩) (by
              try dsimp only
              omega) 
      · -- c69.f
        refine w_skip ?_
        refine st_tn ?_
        refine w_seq ?_
        refine w_region ?_
        refine wl_det rfl rfl rfl (op_move rfl) ?_
        refine wl_det rfl rfl rfl (op_move rfl) ?_
        refine wl_det rfl rfl rfl (op_idx rfl rfl tS45ex (Sl.ent (Sl.lab 34 rfl (by unfold maxLen; omega))) (by omega)) ?_
        refine wl_det rfl rfl rfl (op_fieldAddr (off := 0) rfl tF49_0ex) ?_
        refine wl_det rfl rfl rfl (op_ldxf rfl tO3ex (Sl.lab 34 rfl (by unfold maxLen; omega)) (by assumption) (by rfl)) ?_
        refine wl_det rfl rfl rfl (op_move rfl) ?_
        refine wl_det rfl rfl rfl (op_eql rfl rfl) ?_
        refine wl_nil ?_
        refine st_tn ?_
        refine w_cond_d rfl (fun hc81 => ?_) (fun hc81 => ?_)
        · -- c81.t
          refine w_region ?_
          refine wl_det rfl rfl rfl (op_move rfl) ?_
          refine wl_det rfl rfl rfl (op_move rfl) ?_
          refine wl_det rfl rfl rfl (op_idx rfl rfl tS45ex (Sl.ent (Sl.lab 34 rfl (by unfold maxLen; omega))) (by omega)) ?_
          refine wl_det rfl rfl rfl (op_fieldAddr (off := 1) rfl tF49_1ex) ?_
          refine wl_det rfl rfl rfl (op_ldxf rfl tO3ex (Sl.lab 34 rfl (by unfold maxLen; omega)) (by assumption) (by rfl)) ?_
          refine wl_det rfl rfl rfl (op_assign rfl) ?_
          refine wl_nil ?_
          refine st_bn ?_
          refine st_tn ?_
          refine w_region ?_
          refine wl_det rfl rfl rfl (op_move rfl) ?_
          refine wl_det rfl rfl rfl (op_add' rfl rfl (by omega)) ?_
          refine wl_det rfl rfl rfl (op_assign rfl) ?_
          refine wl_nil ?_
          refine st_roundQ (x := (f1, f2, i)) ((_, e.2, i + 1)) [21, 34, 55, 56] rfl (rfl) (.cons rfl (.cons rfl (.cons rfl (.nil _)))) (.cons rfl (.cons rfl (.cons rfl (.cons rfl (.cons rfl (.nil _)))))) (by
              try dsimp only
              exact ⟨by omega, by rw [hlkA]; first | (rw [if_pos hc69]; rfl) | (rw [if_neg hc69]; exact hf1), by rw [hlkB]; first | (rw [if_pos hc81]; rfl) | (rw [if_neg hc81]; exact hf2)⟩) (by
              try dsimp only
              omega) 
        · -- c81.f
          refine w_skip ?_
          refine st_bn ?_
          refine st_tn ?_
          refine w_region ?_
          refine wl_det rfl rfl rfl (op_move rfl) ?_
          refine wl_det rfl rfl rfl (op_add' rfl rfl (by omega)) ?_
          refine wl_det rfl rfl rfl (op_assign rfl) ?_
          refine wl_nil ?_
          refine st_roundQ (x := (f1, f2, i)) ((_, _, i + 1)) [21, 34, 55, 56] rfl (rfl) (.cons rfl (.cons rfl (.cons rfl (.nil _)))) (.cons rfl (.cons rfl (.cons rfl (.cons rfl (.cons rfl (.nil _)))))) (by
              try dsimp only
              exact ⟨by omega, by rw [hlkA]; first | (rw [if_pos hc69]; rfl) | (rw [if_neg hc69]; exact hf1), by rw [hlkB]; first | (rw [if_pos hc81]; rfl) | (rw [if_neg hc81]; exact hf2)⟩) (by
              try dsimp only
              omega) 
    · -- c60.f
      refine w_exit ?_
      refine st_te ?_
      refine st_te ?_
      refine st_be ?_
      refine st_tn ?_
      refine w_seq ?_
      rw [take_all (by omega)] at hf1 hf2
      rw [hfs] at hf1; rw [hsn] at hf2
      subst hf1
      subst hf2
      have hol : (ownL l A).length ≤ l.length := List.length_filter_le _ _
      refine w_region ?_
      refine wl_det rfl rfl rfl (op_move rfl) ?_
      refine wl_det rfl rfl rfl (op_move rfl) ?_
      refine wl_det rfl rfl rfl (op_fn Try.func34 rfl rfl rfl (rsat_any (Sl.lab 56 rfl (by unfold maxLen; omega)) (Sl.lab 34 rfl (by unfold maxLen; omega)) (own_small hsm) (own_inb hin) hV.oko hvl)) ?_
      refine wl_det rfl rfl rfl (op_val (v' := .bool true) (by rw [hsat]; rfl) (op_eql rfl rfl)) ?_
      refine wl_det rfl rfl rfl (op_move rfl) ?_
      refine wl_wanted_det rfl rfl rfl rfl rfl rfl rfl (op_move rfl) ?_
      refine wl_wanted_det rfl rfl rfl rfl rfl rfl rfl (op_val (v' := .bool true) (by simp) (op_eql rfl rfl)) ?_
      refine wl_det rfl rfl rfl (op_pick_t rfl rfl) ?_
      refine wl_det rfl rfl rfl (op_move rfl) ?_
      refine wl_wanted_det rfl rfl rfl rfl rfl rfl rfl (op_move rfl) ?_
      refine wl_wanted_det rfl rfl rfl rfl rfl rfl rfl (op_move rfl) ?_
      refine wl_wanted_det rfl rfl rfl rfl rfl rfl rfl (op_val (v' := .bool true) (by simp) (op_eql rfl rfl)) ?_
      refine wl_det rfl rfl rfl (op_pick_t rfl rfl) ?_
      refine wl_det rfl rfl rfl (op_assign rfl) ?_
      refine wl_nil ?_
      refine st_tn ?_
      refine w_ret ?_
      refine st_ret (vs := [_]) [] Try.results14 ⟨rfl, trivial⟩ rfl ?_
      refine ⟨_, rfl, ?_⟩
      exact ⟨rfl, rfl⟩

end Go.Proofs.Ytgdjnjbipemdcaa
