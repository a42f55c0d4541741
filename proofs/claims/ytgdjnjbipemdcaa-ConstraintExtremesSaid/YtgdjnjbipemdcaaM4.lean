/- The theory of the search, without a program: rounds, last constraints, negative cycles. Conditions: none. -/
import Derived.Test.YtgdjnjbipemdcaaM2
namespace Go.ConM
open Go Go.SL
open Go.Proofs.Ytgdjnjbipemdcaa (srt length_srt mem_srt srt_perm I64)
set_option linter.unusedVariables false
set_option linter.unusedSimpArgs false
/-- The way back along last constraints. -/
inductive Pth (l : List Con) (B : ZM) : Int → Nat → Int → Int → Prop
  | nil (v : Int) : Pth l B v 0 v 0
  | step {v u n : Int} {i j : Nat} {c : Con} (hb : lookK KZ B v = some (i : Int)) (hc : l[i]? = some c) (h : Pth l B c.f j u n) : Pth l B v (j + 1) u (n + c.b)
/-- Within round R, after k constraints: what holds. r is the round of a node's last change. -/
structure Inv (use : Nat → Bool) (l : List Con) (fr : List Int) (R k : Nat) (s : St) (r : Int → Nat) : Prop where
  by_ : ∀ v z, lookK KZ s.B v = some z → ∃ (i : Nat) (c : Con) (x y : Int), z = i ∧ l[i]? = some c ∧ use i = true ∧ c.t = v ∧ lookK KZ s.L c.f = some x ∧ lookK KZ s.L v = some y ∧ x + c.b ≤ y ∧ 1 ≤ r v ∧ r v ≤ r c.f + 1
  le : ∀ v, r v ≤ R
  no : ∀ v y, lookK KZ s.L v = some y → lookK KZ s.B v = none → v ∈ fr ∧ y = 0 ∧ r v = 0
  try_ : ∀ (i : Nat) (c : Con) (x : Int), l[i]? = some c → use i = true → lookK KZ s.L c.f = some x → r c.f < (if i < k then R else R - 1) → ∃ y, lookK KZ s.L c.t = some y ∧ y ≤ x + c.b
  cyc : ∀ v (j : Nat) n, Pth l s.B v (j + 1) v n → n < 0
theorem kz_eq (a b : Int) : KZ.eq a b = decide (a = b) := rfl
theorem lset (m : ZM) (k v x : Int) : lookK KZ (setK KZ m k v) x = if x = k then some v else lookK KZ m x := by
  rw [look_set, kz_eq]; by_cases h : x = k <;> simp [h]
section upd
variable {use : Nat → Bool} {l : List Con} {fr : List Int} {R k : Nat} {s : St} {r : Int → Nat}
theorem pth_new (h : Inv use l fr R k s r) {c : Con} {a : Int} (hc : l[k]? = some c) (ha : lookK KZ s.L c.f = some a) (hlt : ∀ b, lookK KZ s.L c.t = some b → a + c.b < b) {w u n : Int} {j : Nat}
    (hp : Pth l (setK KZ s.B c.t k) w j u n) : (0 < j → ∃ x, lookK KZ s.L u = some x) ∧ ∀ xu yw, lookK KZ s.L u = some xu → lookK KZ s.L w = some yw → xu + n ≤ yw ∧ (Pth l s.B w j u n ∨ xu + n < yw) := by
  induction hp with
  | nil v => exact ⟨fun h => by omega, fun xu yw h1 h2 => by rw [h1] at h2; simp at h2; subst h2; exact ⟨by omega, .inl (.nil _)⟩⟩
  | @step v u n i j c1 hb hc1 hp ih =>
    obtain ⟨ih1, ih2⟩ := ih
    rw [lset] at hb
    by_cases hv : v = c.t
    · rw [if_pos hv] at hb
      have hi : (k : Int) = i := by simpa using hb
      have hi : k = i := by omega
      subst hi
      rw [hc] at hc1; simp at hc1; subst hc1
      refine ⟨fun _ => ?_, fun xu yw h1 h2 => ?_⟩
      · rcases Nat.eq_zero_or_pos j with h0 | h0
        · subst h0; cases hp; exact ⟨a, ha⟩
        · exact ih1 h0
      · have h3 := (ih2 xu a h1 ha).1
        rw [hv] at h2
        have h4 := hlt yw h2
        exact ⟨by omega, .inr (by omega)⟩
    · rw [if_neg hv] at hb
      obtain ⟨i', c', x, y, hz, hi', _, hct, hx, hy, hxy, _⟩ := h.by_ v _ hb
      have : i = i' := by omega
      subst this
      rw [hc1] at hi'; simp at hi'; subst hi'
      refine ⟨fun _ => ?_, fun xu yw h1 h2 => ?_⟩
      · rcases Nat.eq_zero_or_pos j with h0 | h0
        · subst h0; cases hp; exact ⟨x, hx⟩
        · exact ih1 h0
      · obtain ⟨h3, h4⟩ := ih2 xu x h1 hx
        rw [hy] at h2; simp at h2; subst h2
        exact ⟨by omega, h4.elim (fun h4 => .inl (.step hb hc1 h4)) (fun h4 => .inr (by omega))⟩
theorem inv_upd (h : Inv use l fr R k s r) (hR : 1 ≤ R) {c : Con} {a : Int} (hc : l[k]? = some c) (hu : use k = true) (ha : lookK KZ s.L c.f = some a) (hlt : ∀ b, lookK KZ s.L c.t = some b → a + c.b < b) :
    Inv use l fr R (k + 1) ⟨setK KZ s.L c.t (a + c.b), setK KZ s.B c.t k⟩ (fun v => if v = c.t then R else r v) := by
  have hrf : R - 1 ≤ r c.f := Nat.le_of_not_lt fun hr => by
    obtain ⟨y, hy1, hy2⟩ := h.try_ k c a hc hu ha (by rw [if_neg (Nat.lt_irrefl _)]; exact hr)
    have := hlt y hy1; omega
  refine ⟨fun v z hb => ?_, fun v => ?_, fun v y hv hb => ?_, fun i c0 x hc0 hu0 hx hr => ?_, fun v j n hp => ?_⟩
  · dsimp only at hb ⊢
    rw [lset] at hb
    by_cases hv : v = c.t
    · rw [if_pos hv] at hb
      have hz : z = k := by simpa using hb.symm
      subst hv
      by_cases hft : c.f = c.t
      · have hneg := hlt a (by rw [← hft]; exact ha)
        exact ⟨k, c, a + c.b, a + c.b, hz, hc, hu, rfl, by rw [lset, if_pos hft], by rw [lset, if_pos rfl], by omega, by rw [if_pos rfl]; exact hR, by rw [if_pos rfl, if_pos hft]; omega⟩
      · exact ⟨k, c, a, a + c.b, hz, hc, hu, rfl, by rw [lset, if_neg hft]; exact ha, by rw [lset, if_pos rfl], by omega, by rw [if_pos rfl]; exact hR, by rw [if_pos rfl, if_neg hft]; omega⟩
    · rw [if_neg hv] at hb
      obtain ⟨i, c0, x, y, hz, hi, hui, hct, hx, hy, hxy, h1, h2⟩ := h.by_ v z hb
      have hrv := h.le v
      by_cases hf : c0.f = c.t
      · have := hlt x (by rw [← hf]; exact hx)
        exact ⟨i, c0, a + c.b, y, hz, hi, hui, hct, by rw [lset, if_pos hf], by rw [lset, if_neg hv]; exact hy, by omega, by rw [if_neg hv]; exact h1, by rw [if_neg hv, if_pos hf]; omega⟩
      · exact ⟨i, c0, x, y, hz, hi, hui, hct, by rw [lset, if_neg hf]; exact hx, by rw [lset, if_neg hv]; exact hy, hxy, by rw [if_neg hv]; exact h1, by rw [if_neg hv, if_neg hf]; exact h2⟩
  · show (if v = c.t then R else r v) ≤ R
    split
    · exact Nat.le_refl _
    · exact h.le v
  · dsimp only at hv hb ⊢
    rw [lset] at hv hb
    by_cases hvt : v = c.t
    · rw [if_pos hvt] at hb; simp at hb
    · rw [if_neg hvt] at hv hb ⊢; exact h.no v y hv hb
  · dsimp only at hx hr ⊢
    rw [lset] at hx
    by_cases hf : c0.f = c.t
    · rw [if_pos hf] at hr; split at hr <;> omega
    · rw [if_neg hf] at hx hr
      by_cases hik : i = k
      · subst hik
        rw [hc] at hc0; simp at hc0; subst hc0
        rw [ha] at hx; simp at hx; subst hx
        exact ⟨a + c.b, by rw [lset, if_pos rfl], by omega⟩
      · have hm : (if i < k + 1 then R else R - 1) = (if i < k then R else R - 1) := by
          by_cases h1 : i < k
          · rw [if_pos (by omega), if_pos h1]
          · rw [if_neg (by omega), if_neg h1]
        rw [hm] at hr
        obtain ⟨y, hy1, hy2⟩ := h.try_ i c0 x hc0 hu0 hx hr
        rw [lset]
        by_cases ht : c0.t = c.t
        · rw [if_pos ht]
          have := hlt y (by rw [← ht]; exact hy1)
          exact ⟨_, rfl, by omega⟩
        · rw [if_neg ht]; exact ⟨y, hy1, hy2⟩
  · obtain ⟨h1, h2⟩ := pth_new h hc ha hlt hp
    obtain ⟨x, hx⟩ := h1 (by omega)
    obtain ⟨h3, h4⟩ := h2 x x hx hx
    rcases h4 with h4 | h4
    · exact h.cyc v j n h4
    · omega
theorem inv_keep (h : Inv use l fr R k s r) {c : Con} (hc : l[k]? = some c) (hk : use k = true → ∀ a, lookK KZ s.L c.f = some a → ∃ y, lookK KZ s.L c.t = some y ∧ y ≤ a + c.b) : Inv use l fr R (k + 1) s r := by
  refine ⟨h.by_, h.le, h.no, fun i c0 x hc0 hu0 hx hr => ?_, h.cyc⟩
  by_cases hik : i = k
  · subst hik
    rw [hc] at hc0; simp at hc0; subst hc0
    exact hk hu0 x hx
  · have hm : (if i < k + 1 then R else R - 1) = (if i < k then R else R - 1) := by
      by_cases h1 : i < k
      · rw [if_pos (by omega), if_pos h1]
      · rw [if_neg (by omega), if_neg h1]
    rw [hm] at hr
    exact h.try_ i c0 x hc0 hu0 hx hr
end upd
/-- A state that no constraint changes. -/
def Stab (use : Nat → Bool) (l : List Con) (s : St) : Prop := ∀ (i : Nat) (c : Con) (x : Int), l[i]? = some c → use i = true → lookK KZ s.L c.f = some x → ∃ y, lookK KZ s.L c.t = some y ∧ y ≤ x + c.b
theorem step_cases (use : Nat → Bool) (i : Nat) (c : Con) (s : St × Int) :
    (step1 use i c s = s ∧ (use i = true → ∀ a, lookK KZ s.1.L c.f = some a → ∃ y, lookK KZ s.1.L c.t = some y ∧ y ≤ a + c.b)) ∨
    (∃ a, use i = true ∧ lookK KZ s.1.L c.f = some a ∧ (∀ b, lookK KZ s.1.L c.t = some b → a + c.b < b) ∧ step1 use i c s = ((⟨setK KZ s.1.L c.t (a + c.b), setK KZ s.1.B c.t i⟩ : St), (i : Int))) := by
  unfold step1
  cases ha : lookK KZ s.1.L c.f with
  | none => exact .inl ⟨rfl, fun _ a h => by simp at h⟩
  | some a =>
    dsimp only
    by_cases hu : use i = true
    · rw [if_pos hu]
      cases hb : lookK KZ s.1.L c.t with
      | none => exact .inr ⟨a, hu, rfl, fun b h => by simp at h, rfl⟩
      | some b =>
        dsimp only
        by_cases hlt : a + c.b < b
        · rw [if_pos hlt]; exact .inr ⟨a, hu, rfl, fun b' h => by simp at h; omega, rfl⟩
        · rw [if_neg hlt]; exact .inl ⟨rfl, fun _ a' h => by simp at h; subst h; exact ⟨b, rfl, by omega⟩⟩
    · rw [if_neg hu]; exact .inl ⟨rfl, fun h => absurd h hu⟩
theorem inv_relaxTo {use : Nat → Bool} {l : List Con} {fr : List Int} {R : Nat} (hR : 1 ≤ R) {s : St} {r : Int → Nat} (h : Inv use l fr R 0 s r) : ∀ k : Nat, ∃ r', Inv use l fr R k (relaxTo use l s k).1 r' ∧ (0 ≤ (relaxTo use l s k).2 → ∃ v y, r' v = R ∧ lookK KZ (relaxTo use l s k).1.L v = some y)
  | 0 => ⟨r, h, fun h => by simp [relaxTo] at h⟩
  | k + 1 => by
    obtain ⟨r', h1, h2⟩ := inv_relaxTo hR h k
    cases hc : l[k]? with
    | none =>
      unfold relaxTo; rw [hc]
      refine ⟨r', ⟨h1.by_, h1.le, h1.no, fun i c0 x hc0 hu0 hx hr => h1.try_ i c0 x hc0 hu0 hx ?_, h1.cyc⟩, h2⟩
      have hi := (List.getElem?_eq_some_iff.1 hc0).1
      have hk := List.getElem?_eq_none_iff.1 hc
      rw [if_pos (by omega)] at hr ⊢; exact hr
    | some c =>
      rw [relaxTo_succ hc]
      rcases step_cases use k c (relaxTo use l s k) with ⟨he, hk⟩ | ⟨a, hu, ha, hlt, he⟩
      · rw [he]; exact ⟨r', inv_keep h1 hc hk, h2⟩
      · rw [he]
        exact ⟨_, inv_upd h1 hR hc hu ha hlt, fun _ => ⟨c.t, a + c.b, if_pos rfl, by show lookK KZ (setK KZ _ _ _) _ = _; rw [lset, if_pos rfl]⟩⟩
theorem inv_next {use : Nat → Bool} {l : List Con} {fr : List Int} {R : Nat} {s : St} {r : Int → Nat} (h : Inv use l fr R l.length s r) : Inv use l fr (R + 1) 0 s r := by
  refine ⟨h.by_, fun v => Nat.le_succ_of_le (h.le v), h.no, fun i c0 x hc0 hu0 hx hr => h.try_ i c0 x hc0 hu0 hx ?_, h.cyc⟩
  have hi := (List.getElem?_eq_some_iff.1 hc0).1
  rw [if_pos hi]; simpa using hr
theorem inv_start (use : Nat → Bool) (l : List Con) (fr : List Int) : Inv use l fr 1 0 ⟨startM fr, []⟩ (fun _ => 0) := by
  refine ⟨fun v z h => by simp [lookK] at h, fun v => by omega, fun v y hv hb => ?_, fun i c x _ _ _ hr => by simp at hr, fun v j n hp => ?_⟩
  · dsimp only at hv
    rw [look_start] at hv
    split at hv
    · rename_i hm; simp at hv; exact ⟨hm, hv.symm, rfl⟩
    · simp at hv
  · cases hp with
    | step hb _ _ => simp [lookK] at hb
/-- The state after some rounds. -/
def Sq (use : Nat → Bool) (l : List Con) (s : St) : Nat → St
  | 0 => s
  | k + 1 => (relax use l (Sq use l s k)).1
theorem stab_relaxTo {use : Nat → Bool} {l : List Con} {s : St} (h : Stab use l s) : ∀ k, relaxTo use l s k = (s, -1)
  | 0 => rfl
  | k + 1 => by
    have ih := stab_relaxTo h k
    cases hc : l[k]? with
    | none => unfold relaxTo; rw [hc]; exact ih
    | some c =>
      rw [relaxTo_succ hc, ih]
      rcases step_cases use k c (s, -1) with ⟨he, _⟩ | ⟨a, hu, ha, hlt, _⟩
      · exact he
      · obtain ⟨y, h1, h2⟩ := h k c a hc hu ha
        have := hlt y h1; omega
theorem relaxTo_stab {use : Nat → Bool} {l : List Con} {s : St} : ∀ k, (relaxTo use l s k).2 < 0 → relaxTo use l s k = (s, -1) ∧ ∀ (i : Nat) (c : Con) (x : Int), i < k → l[i]? = some c → use i = true → lookK KZ s.L c.f = some x → ∃ y, lookK KZ s.L c.t = some y ∧ y ≤ x + c.b
  | 0, _ => ⟨rfl, fun i _ _ h => by omega⟩
  | k + 1, h => by
    cases hc : l[k]? with
    | none =>
      have he : relaxTo use l s (k + 1) = relaxTo use l s k := by conv => lhs; unfold relaxTo; rw [hc]
      rw [he] at h ⊢
      obtain ⟨h1, h2⟩ := relaxTo_stab k h
      refine ⟨h1, fun i c x hi hc0 => h2 i c x ?_ hc0⟩
      have := (List.getElem?_eq_some_iff.1 hc0).1
      have := List.getElem?_eq_none_iff.1 hc
      omega
    | some c =>
      rw [relaxTo_succ hc] at h ⊢
      rcases step_cases use k c (relaxTo use l s k) with ⟨he, hk⟩ | ⟨a, hu, ha, hlt, he⟩
      · rw [he] at h ⊢
        obtain ⟨h1, h2⟩ := relaxTo_stab k h
        rw [h1] at hk
        refine ⟨h1, fun i c0 x hi hc0 hu hx => ?_⟩
        by_cases hik : i = k
        · subst hik; rw [hc] at hc0; simp at hc0; subst hc0; exact hk hu x hx
        · exact h2 i c0 x (by omega) hc0 hu hx
      · rw [he] at h; simp at h; omega
theorem relax_iff {use : Nat → Bool} {l : List Con} {s : St} : (relax use l s).2 < 0 ↔ Stab use l s :=
  ⟨fun h i c x hc => (relaxTo_stab _ h).2 i c x (List.getElem?_eq_some_iff.1 hc).1 hc, fun h => by unfold relax; rw [stab_relaxTo h]; show (-1 : Int) < 0; decide⟩
theorem relax_of_stab {use : Nat → Bool} {l : List Con} {s : St} (h : Stab use l s) : relax use l s = (s, -1) := stab_relaxTo h _
theorem sq_stab {use : Nat → Bool} {l : List Con} {s : St} {k : Nat} (h : Stab use l (Sq use l s k)) : ∀ j, Sq use l s (k + j) = Sq use l s k
  | 0 => rfl
  | j + 1 => by
    show (relax use l (Sq use l s (k + j))).1 = _
    rw [sq_stab h j, relax_of_stab h]
theorem sq_succ (use : Nat → Bool) (l : List Con) (s : St) : ∀ k, Sq use l (relax use l s).1 k = Sq use l s (k + 1)
  | 0 => rfl
  | k + 1 => by show (relax use l (Sq use l (relax use l s).1 k)).1 = (relax use l (Sq use l s (k + 1))).1; rw [sq_succ use l s k]
theorem rounds_eq {use : Nat → Bool} {l : List Con} : ∀ (k : Nat) (s : St), rounds use l k s = relax use l (Sq use l s k)
  | 0, s => rfl
  | k + 1, s => by
    rw [rounds_succ]
    split
    · rename_i h
      have hs := relax_iff.1 h
      have h2 := sq_stab (k := 0) (s := s) hs (k + 1)
      rw [Nat.zero_add] at h2
      rw [h2]
      show _ = relax use l s
      rw [relax_of_stab hs]
    · rw [rounds_eq k, sq_succ]
theorem search_eq (use : Nat → Bool) (l : List Con) (fr : List Int) : search use l fr = relax use l (Sq use l ⟨startM fr, []⟩ ((nodes l).length + fr.length)) := rounds_eq _ _
theorem inv_sq (use : Nat → Bool) (l : List Con) (fr : List Int) : ∀ k, ∃ r, Inv use l fr (k + 1) 0 (Sq use l ⟨startM fr, []⟩ k) r
  | 0 => ⟨_, inv_start use l fr⟩
  | k + 1 => by
    obtain ⟨r, h⟩ := inv_sq use l fr k
    obtain ⟨r', h1, _⟩ := inv_relaxTo (by omega) h l.length
    exact ⟨r', inv_next h1⟩
theorem pth_back {use : Nat → Bool} {l : List Con} {fr : List Int} {R k : Nat} {s : St} {r : Int → Nat} (h : Inv use l fr R k s r) : ∀ (j : Nat) (v y : Int), lookK KZ s.L v = some y → j ≤ r v → ∃ u n, Pth l s.B v j u n
  | 0, v, y, _, _ => ⟨v, 0, .nil v⟩
  | j + 1, v, y, hv, hj => by
    cases hb : lookK KZ s.B v with
    | none => have := (h.no v y hv hb).2.2; omega
    | some z =>
      obtain ⟨i, c, x, y', rfl, hi, _, _, hx, _, _, _, hr⟩ := h.by_ v z hb
      obtain ⟨u, n, hp⟩ := pth_back h j c.f x hx (by omega)
      exact ⟨u, _, .step hb hi hp⟩
theorem pth_split {l : List Con} {B : ZM} : ∀ (i : Nat) {j : Nat} {v u n : Int}, Pth l B v (i + j) u n → ∃ m n1 n2, Pth l B v i m n1 ∧ Pth l B m j u n2 ∧ n = n1 + n2
  | 0, j, v, u, n, h => ⟨v, 0, n, .nil v, by rwa [Nat.zero_add] at h, by omega⟩
  | i + 1, j, v, u, n, h => by
    rw [show i + 1 + j = (i + j) + 1 by omega] at h
    cases h with
    | step hb hc hp =>
      obtain ⟨m, n1, n2, h1, h2, h3⟩ := pth_split i hp
      exact ⟨m, _, n2, .step hb hc h1, h2, by omega⟩
theorem pth_nx {l : List Con} {B : ZM} {v u n : Int} {j : Nat} (h : Pth l B v j u n) : u = nxN l B j v := by
  induction h with
  | nil v => rfl
  | @step v u n i j c hb hc hp ih =>
    have h1 : nx l B v = c.f := by unfold nx byI; rw [hb]; simp [List.getD_eq_getElem?_getD, hc]
    rw [ih, Nat.add_comm, nxN_add]
    show nxN l B j c.f = nxN l B j (nx l B v)
    rw [h1]
theorem pth_mem {l : List Con} {B : ZM} {v u n : Int} {j : Nat} (h : Pth l B v (j + 1) u n) : u ∈ nodes l := by
  generalize hk : j + 1 = k at h
  induction h generalizing j with
  | nil v => omega
  | @step v u n i j' c hb hc hp ih =>
    cases j' with
    | zero => cases hp; exact mem_nodes.2 ⟨c, List.mem_of_getElem? hc, .inl rfl⟩
    | succ j' => exact ih rfl
/-- A long way back holds a cycle. -/
theorem pth_cycle {l : List Con} {B : ZM} {v u n : Int} {j : Nat} (hv : v ∈ nodes l) (h : Pth l B v j u n) (hj : (nodes l).length ≤ j) : ∃ m k n', Pth l B m (k + 1) m n' := by
  have hall : ∀ i, i ≤ j → ∃ n1, Pth l B v i (nxN l B i v) n1 := fun i hi => by
    obtain ⟨m, n1, n2, h1, _, _⟩ := pth_split i (j := j - i) (by rw [show i + (j - i) = j by omega]; exact h)
    rw [← pth_nx h1]; exact ⟨n1, h1⟩
  have hdup : ∃ p q : Nat, p < q ∧ q ≤ (nodes l).length ∧ nxN l B p v = nxN l B q v := Classical.byContradiction fun hno => by
    have hnod : ((List.range ((nodes l).length + 1)).map fun i => nxN l B i v).Nodup := by
      rw [List.Nodup, List.pairwise_map]
      refine List.pairwise_lt_range.imp_of_mem fun {a b} _ hb hab => ?_
      have := List.mem_range.1 hb
      exact fun e => hno ⟨a, b, hab, by omega, e⟩
    have := nodup_le hnod (b := nodes l) fun y hy => by
      obtain ⟨i, hi, rfl⟩ := List.mem_map.1 hy
      have hi := List.mem_range.1 hi
      cases i with
      | zero => exact hv
      | succ i => obtain ⟨n1, h1⟩ := hall (i + 1) (by omega); exact pth_mem h1
    simp at this; omega
  obtain ⟨p, q, hpq, hq, he⟩ := hdup
  obtain ⟨n1, h1⟩ := hall q (by omega)
  obtain ⟨m, n2, n3, h2, h3, _⟩ := pth_split p (j := q - p) (by rw [show p + (q - p) = q by omega]; exact h1)
  have hm := pth_nx h2
  refine ⟨m, q - p - 1, n3, ?_⟩
  rw [show q - p - 1 + 1 = q - p by omega]
  rwa [← he, ← hm] at h3
/-- Labels along the way back in a stable state. -/
theorem pth_stab {use : Nat → Bool} {l : List Con} {fr : List Int} {R k : Nat} {s t : St} {r : Int → Nat} (h : Inv use l fr R k s r) (ht : Stab use l t) {v u n : Int} {j : Nat} (hp : Pth l s.B v j u n) : ∀ x, lookK KZ t.L u = some x → ∃ y, lookK KZ t.L v = some y ∧ y ≤ x + n := by
  induction hp with
  | nil v => intro x hx; exact ⟨x, hx, by omega⟩
  | @step v u n i j c hb hc hp ih =>
    intro x hx
    obtain ⟨y, h1, h2⟩ := ih x hx
    obtain ⟨i', c', x', y', hz, hi', hu, hct, _⟩ := h.by_ v _ hb
    have : i = i' := by omega
    subst this
    rw [hc] at hi'; simp at hi'; subst hi'
    obtain ⟨y2, h3, h4⟩ := ht i c y hc hu h1
    exact ⟨y2, by rw [← hct]; exact h3, by omega⟩
theorem lab_relaxTo {use : Nat → Bool} {l : List Con} {s : St} {v y : Int} (h : lookK KZ s.L v = some y) : ∀ k, ∃ z, lookK KZ (relaxTo use l s k).1.L v = some z
  | 0 => ⟨y, h⟩
  | k + 1 => by
    obtain ⟨z, hz⟩ := lab_relaxTo h k (use := use) (l := l)
    cases hc : l[k]? with
    | none => unfold relaxTo; rw [hc]; exact ⟨z, hz⟩
    | some c =>
      rw [relaxTo_succ hc]
      rcases step_cases use k c (relaxTo use l s k) with ⟨he, _⟩ | ⟨a, _, _, _, he⟩
      · rw [he]; exact ⟨z, hz⟩
      · rw [he]; dsimp only; rw [lset]; split
        · exact ⟨_, rfl⟩
        · exact ⟨z, hz⟩
theorem lab_sq {use : Nat → Bool} {l : List Con} {s : St} {v y : Int} {k : Nat} (h : lookK KZ (Sq use l s k).L v = some y) : ∀ j, ∃ z, lookK KZ (Sq use l s (k + j)).L v = some z
  | 0 => ⟨y, h⟩
  | j + 1 => by obtain ⟨z, hz⟩ := lab_sq h j; exact lab_relaxTo hz _
/-- A change in a late round: a cycle of last constraints, which is negative, and no stable state ever. -/
theorem late {use : Nat → Bool} {l : List Con} {fr : List Int} {k : Nat} (hk : (nodes l).length ≤ k + 1) (h : ¬ Stab use l (Sq use l ⟨startM fr, []⟩ k)) : ∃ m j n, Pth l (Sq use l ⟨startM fr, []⟩ (k + 1)).B m (j + 1) m n ∧ n < 0 ∧ ∃ y, lookK KZ (Sq use l ⟨startM fr, []⟩ (k + 1)).L m = some y := by
  obtain ⟨r, hI⟩ := inv_sq use l fr k
  obtain ⟨r', h1, h2⟩ := inv_relaxTo (by omega) hI l.length
  obtain ⟨v, y, hr, hy⟩ := h2 (Int.not_lt.1 fun hh => h (relax_iff.1 hh))
  obtain ⟨u, n, hp⟩ := pth_back h1 (k + 1) v y hy (by omega)
  have hv : v ∈ nodes l := by
    cases hp with
    | step hb hc _ =>
      obtain ⟨i, c, _, _, _, hi, _, hct, _⟩ := h1.by_ v _ hb
      exact mem_nodes.2 ⟨c, List.mem_of_getElem? hi, .inr hct.symm⟩
  obtain ⟨m, j, n', hc⟩ := pth_cycle hv hp hk
  refine ⟨m, j, n', hc, h1.cyc _ _ _ hc, ?_⟩
  cases hc with
  | step hb _ _ => obtain ⟨_, _, _, y, _, _, _, _, _, hy, _⟩ := h1.by_ m _ hb; exact ⟨y, hy⟩
theorem late_never {use : Nat → Bool} {l : List Con} {fr : List Int} {k : Nat} (hk : (nodes l).length ≤ k + 1) (h : ¬ Stab use l (Sq use l ⟨startM fr, []⟩ k)) (k' : Nat) : ¬ Stab use l (Sq use l ⟨startM fr, []⟩ k') := fun hs => by
  by_cases hle : k' ≤ k
  · have := sq_stab hs (k - k')
    rw [show k' + (k - k') = k by omega] at this
    exact h (this ▸ hs)
  · obtain ⟨m, j, n, hp, hn, y, hy⟩ := late hk h
    obtain ⟨z, hz⟩ := lab_sq hy (k' - (k + 1))
    rw [show k + 1 + (k' - (k + 1)) = k' by omega] at hz
    obtain ⟨r, hI⟩ := inv_sq use l fr (k + 1)
    obtain ⟨y2, h1, h2⟩ := pth_stab hI hs hp z hz
    rw [hz] at h1; simp at h1; omega
end Go.ConM
