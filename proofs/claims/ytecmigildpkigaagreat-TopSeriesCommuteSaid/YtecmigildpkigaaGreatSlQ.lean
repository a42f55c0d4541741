/- slices.Insert out of the kit's contracts; slices that are cut, cleared. Conditions: none. -/
import Derived.Test.YtecmigildpkigaaGreatSlL
import Derived.Test.YtecmigildpkigaaGreatSlK
import Derived.Test.YtecmigildpkigaaGreatSl7
import Derived.Test.YtecmigildpkigaaGreatSlI
import Derived.Shelf.Spec.SlicesInsertGrow
namespace Go.SL
open Go Go.RowKit
set_option linter.unusedVariables false
set_option linter.unusedSimpArgs false
theorem setsL_midQ : ∀ (vs A B C : List Value), B.length = vs.length → setsL (A ++ (B ++ C)) A.length vs = A ++ (vs ++ C)
  | [], A, B, C, h => by
    have : B = [] := List.eq_nil_of_length_eq_zero h
    subst this; rfl
  | v :: vs, A, b :: B, C, h => by
    unfold setsL
    have e : (A ++ (b :: B ++ C)).set A.length v = (A ++ [v]) ++ (B ++ C) := by
      rw [List.set_append, if_neg (Nat.lt_irrefl _), Nat.sub_self]; simp
    rw [e]
    have ih := setsL_midQ vs (A ++ [v]) B C (by simpa using h)
    rw [List.length_append, List.length_singleton] at ih
    rw [ih]; simp
  | v :: vs, A, [], C, h => by simp at h
theorem flatten_take_uniform {k : Nat} : ∀ {xs : List (List Value)} {i : Nat}, (∀ c ∈ xs, c.length = k) → xs.flatten.take (i * k) = (xs.take i).flatten
  | [], i, _ => by simp
  | x :: xs, 0, _ => by simp
  | x :: xs, i + 1, h => by
    have hx := h x (by simp)
    have ih := flatten_take_uniform (i := i) (fun c hc => h c (List.mem_cons_of_mem _ hc))
    rw [List.flatten_cons, List.take_succ_cons, List.flatten_cons, ← ih, List.take_append, Nat.succ_mul, hx, List.take_of_length_le (by omega)]
    rw [show i * k + k - k = i * k by omega]
/-- A beginning of an owned slice. -/
theorem slO_cut {E k : Nat} {a : Option Addr} {n c : Nat} {xs : List (List Value)} {m : Mem} (j : Nat) (hj : j ≤ xs.length) (h : slO E k (.slice a n c) xs m) : slO E k (.slice a j c) (xs.take j) m := by
  obtain ⟨h1, h2, hv⟩ := h
  have hl : (xs.take j).length = j := by rw [List.length_take]; omega
  refine ⟨fun x hx => h1 x (List.mem_of_mem_take hx), by omega, ?_⟩
  rcases hv with ⟨hv, hn⟩ | ⟨g, cap, cur, hv, h3, h4, h5, h6, h7⟩
  · simp only [Value.slice.injEq] at hv
    obtain ⟨rfl, rfl, rfl⟩ := hv
    subst hn
    have : j = 0 := by simpa using hj
    subst this
    exact .inl ⟨rfl, rfl⟩
  · simp only [Value.slice.injEq] at hv
    obtain ⟨rfl, rfl, rfl⟩ := hv
    refine .inr ⟨g, c, cur, by rw [hl], h3, by omega, h5, h6, ?_⟩
    rw [hl]
    have h8 := congrArg (List.take (j * k)) h7
    rw [List.take_take, Nat.min_eq_left (Nat.mul_le_mul_right k hj), flatten_take_uniform h1] at h8
    exact h8
theorem cls_cut {σ : World} {α : Type} {enc : α → List Value} {E k : Nat} {a : Option Addr} {n c : Nat} {l : List α} (j : Nat) (hj : j ≤ l.length) : Closes σ [slW E enc k (.slice a n c) l] [slW E enc k (.slice a (l.take j).length c) (l.take j)] := fun F w h => h.imp fun m hm => by
  have h1 := slO_cut j (by rw [List.length_map]; exact hj) hm
  rw [← List.map_take] at h1
  rw [show (l.take j).length = j by rw [List.length_take]; omega]
  exact h1
theorem own_take2 {σ : World} {r1 r2 : Res} {F : List Res} {w : World} (h : Own σ (r1 :: r2 :: F) w) : ∃ m1 m2, r1 m1 ∧ r2 m2 ∧ MSub m1 w ∧ MSub m2 w ∧ MDisj m1 m2 := by
  obtain ⟨_, _, _, l, hl, hm, hd⟩ := h
  match l, hl with
  | p :: q :: l, hl =>
    simp only [List.map_cons, List.cons.injEq] at hl
    obtain ⟨e1, e2, e3⟩ := hl
    subst e1; subst e2
    have h1 := hm p (by simp)
    have h2 := hm q (by simp)
    exact ⟨p.2, q.2, h1.1, h2.1, h1.2, h2.2, (List.pairwise_cons.1 hd).1 q (by simp)⟩
/-- What an owned slice of numbers is. -/
theorem ints_at {a : Option Addr} {n c : Nat} {l : List Int} {m : Mem} {w : World} (h : slW 3 encZ 1 (.slice a n c) l m) (hs : MSub m w) : n = l.length ∧ l.length ≤ maxLen ∧
    ((a = none ∧ l = [] ∧ c = 0) ∨ ∃ g, ∃ cur : Array Value, a = some ⟨g, 0, none⟩ ∧ m = single g (.cells cur 3 (0, 0)) ∧ w.heap[g]? = some (.cells cur 3 (0, 0)) ∧ l.length ≤ c ∧ c ≤ maxLen ∧ cur.size = c ∧ ∃ rest, cur.toList = l.map (Value.int .i64) ++ rest ∧ rest.length = c - l.length) := by
  obtain ⟨h1, h2, hv⟩ := h
  rw [List.length_map] at h2
  rcases hv with ⟨hv, hn⟩ | ⟨g, cap, cur, hv, h3, h4, h5, h6, h7⟩
  · simp only [Value.slice.injEq] at hv
    obtain ⟨rfl, rfl, rfl⟩ := hv
    have : l = [] := by simpa using hn
    subst this
    exact ⟨rfl, h2, .inl ⟨rfl, rfl, rfl⟩⟩
  · simp only [Value.slice.injEq, List.length_map] at hv
    obtain ⟨rfl, rfl, rfl⟩ := hv
    subst h3
    rw [List.length_map] at h4 h7
    rw [Nat.mul_one] at h6 h7
    rw [flat_one (enc0 := Value.int .i64) (enc := encZ) (fun _ => rfl)] at h7
    refine ⟨rfl, h2, .inr ⟨g, cur, rfl, rfl, hs.single, h4, h5, h6, cur.toList.drop l.length, ?_, ?_⟩⟩
    · rw [← h7, List.take_append_drop]
    · rw [List.length_drop, Array.length_toList]; omega
theorem ints_mk {g c : Nat} {l : List Int} {cur rest : List Value} (h1 : cur = l.map (Value.int .i64) ++ rest) (h2 : cur.length = c) (h3 : c ≤ maxLen) : slW 3 encZ 1 (.slice (some ⟨g, 0, none⟩) l.length c) l (single g (.cells cur.toArray 3 (0, 0))) := by
  have hl : l.length ≤ c := by rw [← h2, h1, List.length_append, List.length_map]; omega
  refine ⟨fun x hx => by obtain ⟨y, _, rfl⟩ := List.mem_map.1 hx; rfl, by rw [List.length_map]; omega, .inr ⟨g, c, cur.toArray, by rw [List.length_map], rfl, by rw [List.length_map]; exact hl, h3, by simp [h2], ?_⟩⟩
  rw [flat_one (enc0 := Value.int .i64) (enc := encZ) (fun _ => rfl), List.length_map, Nat.mul_one, List.toList_toArray, h1]
  rw [List.take_left' (by rw [List.length_map])]
theorem own_set {σ : World} {F : List Res} {w w' : World} {g c : Nat} {l l' : List Int} {cur' rest' : List Value} {n : Nat} (ho : Own σ (slW 3 encZ 1 (.slice (some ⟨g, 0, none⟩) n c) l :: F) w)
    (hos : w'.os = w.os) (ht : w'.tape = w.tape) (hu : w'.output = w.output) (hg : w'.heap[g]? = some (.cells cur'.toArray 3 (0, 0))) (hh : ∀ i, i ≠ g → ∀ o, w.heap[i]? = some o → w'.heap[i]? = some o)
    (h1 : cur' = l'.map (Value.int .i64) ++ rest') (h2 : cur'.length = c) (h3 : c ≤ maxLen) : Own σ (slW 3 encZ 1 (.slice (some ⟨g, 0, none⟩) l'.length c) l' :: F) w' := by
  refine Own.swap (b := g) (o' := .cells cur'.toArray 3 (0, 0)) ho (fun m hm => ?_) (ints_mk h1 h2 h3) hos ht hu hg hh
  obtain ⟨_, _, hv⟩ := hm
  rcases hv with ⟨hv, _⟩ | ⟨g', cap', cur', hv, rfl, _⟩
  · simp at hv
  · simp at hv; rw [← hv.1]; exact ⟨_, by simp [single]; rfl⟩
theorem own_newI {σ : World} {F : List Res} {w w' : World} {c : Nat} {l' : List Int} {cur' rest' : List Value} (ho : Own σ F w)
    (hos : w'.os = w.os) (ht : w'.tape = w.tape) (hu : w'.output = w.output) (hg : w'.heap[w.heap.size]? = some (.cells cur'.toArray 3 (0, 0))) (hh : ∀ i, i < w.heap.size → w'.heap[i]? = w.heap[i]?)
    (h1 : cur' = l'.map (Value.int .i64) ++ rest') (h2 : cur'.length = c) (h3 : c ≤ maxLen) : Own σ (slW 3 encZ 1 (.slice (some ⟨w.heap.size, 0, none⟩) l'.length c) l' :: F) w' :=
  own_new ho ⟨hos, ht, hu, by
    have := heap_lt hg; omega, fun i hi => hh i hi⟩ hg (Nat.le_refl _) (ints_mk h1 h2 h3)
/-- slices.Insert of one number. -/
theorem fn_insert {P : Program} {ρ : Go.Shelf.Ren} {σ : World} {F : List Res} (L : Go.Proofs.Lays2.n21 P ρ) (h3 : ρ.t 3 = 3) {a av : Option Addr} {c cv : Nat} {l : List Int} {x : Int} (i : Nat) (lab1 lab2 lab : Nat) (hi : i ≤ l.length) (hl : l.length ≤ 1099511627776) :
    FnT P σ F (ρ.f 21) [.slice a l.length c, .int .i64 i, .slice av 1 cv] [(lab1, slW 3 encZ 1 (.slice a l.length c) l), (lab2, slW 3 encZ 1 (.slice av 1 cv) [x])]
      (fun u R => ∃ (a' : Option Addr) (c' : Nat), u = .slice a' (l.take i ++ [x] ++ l.drop i).length c' ∧ R = [(lab, slW 3 encZ 1 (.slice a' (l.take i ++ [x] ++ l.drop i).length c') (l.take i ++ [x] ++ l.drop i))]) := by
  intro w ho
  have ho : Own σ (slW 3 encZ 1 (.slice a l.length c) l :: slW 3 encZ 1 (.slice av 1 cv) [x] :: F) w := ho
  have hF : Own σ F w := ho.tail.tail
  have ho1 : Own σ (slW 3 encZ 1 (.slice a l.length c) l :: F) w := (ho.perm (List.Perm.swap _ _ _)).tail
  obtain ⟨m1, m2, k1, k2, s1, s2, hd⟩ := own_take2 ho
  obtain ⟨_, _, q1⟩ := ints_at k1 s1
  obtain ⟨_, _, q2⟩ := ints_at k2 s2
  have hil : (l.take i ++ [x] ++ l.drop i).length = l.length + 1 := by simp only [List.length_append, List.length_take, List.length_drop, List.length_singleton]; omega
  rcases q2 with ⟨_, h, _⟩ | ⟨vb, curv, rfl, rfl, hgv, _, hcvm, hcvs, restv, hcv, _⟩
  · simp at h
  · have hvs : ∀ j v, ([Value.int .i64 x] : List Value)[j]? = some v → w.cell? ⟨vb, 0 + j, none⟩ = some v := fun j v hj => by
      have hj0 : j = 0 := by have := (List.getElem?_eq_some_iff.1 hj).1; simpa using this
      subst hj0
      have hv : v = .int .i64 x := by simpa using hj.symm
      subst hv
      have h9 : curv.toList[0]? = some (Value.int .i64 x) := by rw [hcv]; rfl
      rw [Array.getElem?_toList] at h9
      simp only [World.cell?, hgv]; simpa using h9
    have h1v : ∀ v ∈ ([Value.int .i64 x] : List Value), v.oneCell' = true := fun v hv => by rw [List.mem_singleton] at hv; subst hv; rfl
    have hcl : (l.map (Value.int .i64)).length = l.length := List.length_map ..
    have h1c : ∀ v ∈ l.map (Value.int .i64), v.oneCell' = true := fun v hv => by obtain ⟨y, _, rfl⟩ := List.mem_map.1 hv; rfl
    have heq : (l.take i ++ [x] ++ l.drop i).map (Value.int .i64) = (l.map (Value.int .i64)).take i ++ ([.int .i64 x] ++ (l.map (Value.int .i64)).drop i) := by
      rw [List.map_append, List.map_append, List.map_take, List.map_drop]; simp
    have grow : ∀ base : Option Addr, i = l.length → l.length ≤ c → c < l.length + 1 → (base = none → l.length = 0) → a = base → (∀ q, base = some q → ∀ j v, (l.map (Value.int .i64))[j]? = some v → w.cell? (q.add j) = some v) →
        Calls P (ρ.f 21) [.slice a l.length c, .int .i64 i, .slice (some ⟨vb, 0, none⟩) 1 cv].toArray w fun ex w' => ∃ v R, ex = .returned v ∧ (∃ (a' : Option Addr) (c' : Nat), v = .slice a' (l.take i ++ [x] ++ l.drop i).length c' ∧ R = [(lab, slW 3 encZ 1 (.slice a' (l.take i ++ [x] ++ l.drop i).length c') (l.take i ++ [x] ++ l.drop i))]) ∧ Own σ (rs R ++ F) w' := by
      intro base e1 e2 e3 e4 e5 e6
      subst e1; subst e5
      refine (Go.Proofs.Any2.slices_Insert_int_end_grow L a l.length c vb 0 1 cv (l.map (Value.int .i64)) [.int .i64 x] w (by omega) e2 e3 (by omega) hcl rfl e4 e6 hvs h1v).mono ?_
      rintro e w' ⟨rfl, rfl⟩
      refine ⟨_, _, rfl, ⟨_, _, by rw [hil], rfl⟩, ?_⟩
      have hge := grownCap_ge w (l.length + 1) c 3
      have hle := grownCap_le_maxLen w (l.length + 1) c 3 (by unfold maxLen; omega)
      rw [h3]
      refine own_newI (cur' := (l.map (Value.int .i64) ++ [.int .i64 x]) ++ (Builtin.zeroCells (Value.int .i64 0).cells (grownCap w (l.length + 1) c 3 - (l.length + 1))).toList) (rest' := (Builtin.zeroCells (Value.int .i64 0).cells (grownCap w (l.length + 1) c 3 - (l.length + 1))).toList) hF rfl rfl rfl ?_ (fun j hj => ?_) ?_ ?_ hle
      · show (w.heap.push _)[w.heap.size]? = _
        rw [Array.getElem?_push, if_pos rfl]
        simp
      · show (w.heap.push _)[j]? = _
        rw [Array.getElem?_push, if_neg (by omega)]
      · rw [heq, List.take_of_length_le (by omega), List.drop_eq_nil_of_le (by omega)]; simp
      · simp [Builtin.zeroCells, Value.cells]; omega
    rcases q1 with ⟨rfl, rfl, rfl⟩ | ⟨b, cur, rfl, rfl, hg, hlc, hcm, hcs, rest, hcur, hrl⟩
    · exact grow none (by simpa using hi) (by simp) (by simp) (fun _ => rfl) rfl (fun q hq => by simp at hq)
    · have hne : vb ≠ b := fun e => by
        subst e
        have := hd vb
        simp [single] at this
      have hcell : ∀ j v, cur.toList[j]? = some v → w.cell? ⟨b, j, none⟩ = some v := fun j v hj => by
        rw [Array.getElem?_toList] at hj
        simp only [World.cell?, hg]; simpa using hj
      have hcell2 : ∀ j v, (l.map (Value.int .i64))[j]? = some v → w.cell? ⟨b, 0 + j, none⟩ = some v := fun j v hj => by
        rw [Nat.zero_add]
        exact hcell j v (by rw [hcur, List.getElem?_append_left (List.getElem?_eq_some_iff.1 hj).1]; exact hj)
      have hw : w.heap[b]? = some (.cells cur.toList.toArray 3 (0, 0)) := by simpa using hg
      by_cases hroom : l.length + 1 ≤ c
      · obtain ⟨r0, rest', hrr⟩ : ∃ r0 rest', rest = r0 :: rest' := by
          cases rest with
          | nil => simp at hrl; omega
          | cons r0 rest' => exact ⟨r0, rest', rfl⟩
        have hsome : ∀ j, j < c → (w.cell? ⟨b, j, none⟩).isSome = true := fun j hj => by
          have h9 : cur.toList[j]? = some (cur.toList[j]'(by rw [Array.length_toList]; omega)) := List.getElem?_eq_getElem _
          rw [hcell j _ h9]; rfl
        have hfz : ∀ j, w.frozen? ⟨b, j, none⟩ = false := fun j => by simp [World.frozen?, hg]
        by_cases hin : i = l.length
        · subst hin
          refine (Go.Proofs.Any2.slices_Insert_int_end_room L b 0 l.length c vb 0 1 cv [.int .i64 x] w (by omega) hroom (by unfold maxLen at hcm; omega) rfl (fun j hj => hsome _ (by omega)) (fun j hj => hfz _) hvs h1v).mono ?_
          rintro e w' ⟨rfl, rfl⟩
          refine ⟨_, _, rfl, ⟨_, _, by rw [hil], rfl⟩, ?_⟩
          obtain ⟨a1, a2, a3, a4, a5⟩ := setCells_heap [.int .i64 x] w b (0 + l.length) cur.toList 3 (0, 0) hw
          have e9 : setsL cur.toList (0 + l.length) [.int .i64 x] = l.map (Value.int .i64) ++ ([.int .i64 x] ++ rest') := by
            rw [hcur, hrr, Nat.zero_add]
            have := setsL_midQ [.int .i64 x] (l.map (Value.int .i64)) [r0] rest' rfl
            rw [hcl] at this
            exact this
          rw [e9] at a1
          refine own_set (rest' := rest') ho1 a3 a4 a5 a1 (fun j hj o hj2 => (a2 j hj).trans hj2) ?_ ?_ hcm
          · rw [heq, List.take_of_length_le (by omega), List.drop_eq_nil_of_le (by omega)]; simp
          · simp only [List.length_append, List.length_map, List.length_singleton]
            rw [hrr, List.length_cons] at hrl; omega
        · have hil2 : i < l.length := by omega
          refine (Go.Proofs.Any2.slices_Insert_int_shift L b 0 l.length c i vb 0 1 cv (l.map (Value.int .i64)) [.int .i64 x] w hil2 (by omega) hroom (by unfold maxLen at hcm; omega) hne hcl rfl hcell2 (fun j hj => hsome _ (by omega)) (fun j hj => hfz _) hvs h1c h1v 3 3 curv.size cur.size
            (by simp [World.shape?, hgv]) (by simp [World.shape?, hg]) (by omega) (by simp [World.frozen?, hgv]) (by simp [World.frozen?, hgv])).mono ?_
          rintro e w' ⟨rfl, rfl⟩
          refine ⟨_, _, rfl, ⟨_, _, by rw [hil], rfl⟩, ?_⟩
          obtain ⟨q, hq⟩ : ∃ q, (l.map (Value.int .i64))[i]? = some q := ⟨_, List.getElem?_eq_getElem (by omega)⟩
          have hdq : (l.map (Value.int .i64)).drop i = q :: (l.map (Value.int .i64)).drop (i + 1) := by
            rw [List.drop_eq_getElem_cons (by omega)]
            congr 1
            have := (List.getElem?_eq_some_iff.1 hq).2; exact this
          obtain ⟨T, hT⟩ : ∃ T, T = (l.map (Value.int .i64)).take i := ⟨_, rfl⟩
          obtain ⟨D, hD⟩ : ∃ D, D = (l.map (Value.int .i64)).drop (i + 1) := ⟨_, rfl⟩
          have hTl : T.length = i := by rw [hT, List.length_take, hcl]; omega
          have hDl : D.length = l.length - (i + 1) := by rw [hD, List.length_drop, hcl]
          have hcur2 : cur.toList = (T ++ [q]) ++ ((D ++ [r0]) ++ rest') := by
            rw [hcur, hrr]
            conv => lhs; rw [← List.take_append_drop i (l.map (Value.int .i64)), hdq, ← hT, ← hD]
            simp
          have hw2 : w.drew.heap[b]? = some (.cells cur.toList.toArray 3 (0, 0)) := hw
          obtain ⟨a1, a2, a3, a4, a5⟩ := setCells_heap ((l.map (Value.int .i64)).drop i) w.drew b (0 + (i + 1)) cur.toList 3 (0, 0) hw2
          have e9 : setsL cur.toList (0 + (i + 1)) ((l.map (Value.int .i64)).drop i) = T ++ ([q] ++ (q :: D ++ rest')) := by
            rw [hcur2, Nat.zero_add, hdq, ← hD]
            have := setsL_midQ (q :: D) (T ++ [q]) (D ++ [r0]) rest' (by simp)
            rw [List.length_append, hTl, List.length_singleton] at this
            rw [this]; simp
          rw [e9] at a1
          obtain ⟨b1, b2, b3, b4, b5⟩ := setCells_heap [.int .i64 x] _ b (0 + i) _ 3 (0, 0) a1
          have e10 : setsL (T ++ ([q] ++ (q :: D ++ rest'))) (0 + i) [.int .i64 x] = T ++ ([.int .i64 x] ++ (q :: D ++ rest')) := by
            rw [Nat.zero_add]
            have := setsL_midQ [.int .i64 x] T [q] (q :: D ++ rest') rfl
            rw [hTl] at this
            exact this
          rw [e10] at b1
          refine own_set (rest' := rest') ho1 (b3.trans a3) (b4.trans a4) (b5.trans a5) b1 (fun j hj o hj2 => ((b2 j hj).trans (a2 j hj)).trans hj2) ?_ ?_ hcm
          · rw [heq, hdq, ← hT, ← hD]; simp
          · simp only [List.length_append, List.length_cons, List.length_nil, hTl, hDl]
            rw [hrr, List.length_cons] at hrl; omega
      · have hlc2 : c = l.length := by omega
        by_cases hin : i = l.length
        · exact grow (some ⟨b, 0, none⟩) hin hlc (by omega) (fun h => by simp at h) rfl (fun q hq j v hj => by
            simp only [Option.some.injEq] at hq
            subst hq
            have := hcell2 j v hj
            rw [Nat.zero_add] at this
            rw [Addr.add_mid, Nat.zero_add]; exact this)
        · have hil2 : i < l.length := by omega
          refine (Go.Proofs.Any2.slices_Insert_int_grow L b 0 l.length c i vb 0 1 cv (l.map (Value.int .i64)) [.int .i64 x] w hil2 (by omega) hlc (by omega) (by omega) hcl rfl hcell2 hvs h1c h1v).mono ?_
          rintro e w' ⟨rfl, rfl⟩
          refine ⟨_, _, rfl, ⟨_, _, by rw [hil], rfl⟩, ?_⟩
          have hge := grownCap_ge w (l.length + 1) c 3
          have hle := grownCap_le_maxLen w (l.length + 1) c 3 (by unfold maxLen; omega)
          rw [h3]
          obtain ⟨G, hG⟩ : ∃ G, G = grownCap w (l.length + 1) c 3 := ⟨_, rfl⟩
          rw [← hG] at hge hle ⊢
          obtain ⟨Z1, hZ1⟩ : ∃ Z1, Z1 = (Builtin.zeroCells (Value.int .i64 0).cells (l.length + 1 - i)).toList := ⟨_, rfl⟩
          obtain ⟨Z2, hZ2⟩ : ∃ Z2, Z2 = (Builtin.zeroCells (Value.int .i64 0).cells (G - (l.length + 1))).toList := ⟨_, rfl⟩
          have hz1 : Z1.length = l.length + 1 - i := by rw [hZ1]; simp [Builtin.zeroCells, Value.cells]
          have hz2 : Z2.length = G - (l.length + 1) := by rw [hZ2]; simp [Builtin.zeroCells, Value.cells]
          obtain ⟨z0, Z1', hzz⟩ : ∃ z0 Z1', Z1 = z0 :: Z1' := by
            cases Z1 with
            | nil => simp at hz1; omega
            | cons z0 Z1' => exact ⟨z0, Z1', rfl⟩
          obtain ⟨T, hT⟩ : ∃ T, T = (l.map (Value.int .i64)).take i := ⟨_, rfl⟩
          obtain ⟨D, hD⟩ : ∃ D, D = (l.map (Value.int .i64)).drop i := ⟨_, rfl⟩
          have hTl : T.length = i := by rw [hT, List.length_take, hcl]; omega
          have hDl : D.length = l.length - i := by rw [hD, List.length_drop, hcl]
          have harr : (((l.map (Value.int .i64)).take i).toArray ++ Builtin.zeroCells (Value.int .i64 0).cells (l.length + 1 - i) ++ Builtin.zeroCells (Value.int .i64 0).cells (G - (l.length + 1))) = (T ++ ([z0] ++ (Z1' ++ Z2))).toArray := by
            apply Array.ext'
            simp only [Array.toList_append, List.toList_toArray]
            rw [← hZ1, ← hZ2, ← hT, hzz]; simp
          rw [harr, ← hD]
          obtain ⟨W1, hW1⟩ : ∃ W1, W1 = (w.alloc (.cells (T ++ ([z0] ++ (Z1' ++ Z2))).toArray 3)).drew := ⟨_, rfl⟩
          rw [← hW1]
          have hw1 : W1.heap[w.heap.size]? = some (.cells (T ++ ([z0] ++ (Z1' ++ Z2))).toArray 3 (0, 0)) := by
            rw [hW1]
            show (w.heap.push _)[w.heap.size]? = _
            rw [Array.getElem?_push, if_pos rfl]
          obtain ⟨a1, a2, a3, a4, a5⟩ := setCells_heap [.int .i64 x] W1 w.heap.size i _ 3 (0, 0) hw1
          have e9 : setsL (T ++ ([z0] ++ (Z1' ++ Z2))) i [.int .i64 x] = T ++ ([.int .i64 x] ++ (Z1' ++ Z2)) := by
            have := setsL_midQ [.int .i64 x] T [z0] (Z1' ++ Z2) rfl
            rw [hTl] at this
            exact this
          rw [e9] at a1
          have a1' : (W1.setCells w.heap.size i [.int .i64 x]).drew.heap[w.heap.size]? = some (.cells (T ++ ([Value.int .i64 x] ++ (Z1' ++ Z2))).toArray 3 (0, 0)) := a1
          obtain ⟨b1, b2, b3, b4, b5⟩ := setCells_heap D (W1.setCells w.heap.size i [.int .i64 x]).drew w.heap.size (i + 1) _ 3 (0, 0) a1'
          have e10 : setsL (T ++ ([.int .i64 x] ++ (Z1' ++ Z2))) (i + 1) D = (T ++ [.int .i64 x]) ++ (D ++ Z2) := by
            have := setsL_midQ D (T ++ [.int .i64 x]) Z1' Z2 (by rw [hzz, List.length_cons] at hz1; omega)
            rw [List.length_append, hTl, List.length_singleton] at this
            rw [← this]; simp
          rw [e10] at b1
          refine own_newI (rest' := Z2) hF (b3.trans (a3.trans (by rw [hW1]; rfl))) (b4.trans (a4.trans (by rw [hW1]; rfl))) (b5.trans (a5.trans (by rw [hW1]; rfl))) b1 (fun j hj => ?_) ?_ ?_ hle
          · refine ((b2 j (by omega)).trans (a2 j (by omega))).trans ?_
            rw [hW1]
            show (w.heap.push _)[j]? = _
            rw [Array.getElem?_push, if_neg (by omega)]
          · rw [heq, ← hT, ← hD]; simp
          · rw [List.length_append, List.length_append, List.length_append, hTl, hDl, hz2]; show i + 1 + _ = _; omega
section
variable {P : Program} {σ : World} {n : Nat} {F : List Res} {e : Env} {dst : Option Tmp} {ty : TypeId} {pos : String} {after : Array Edge} {guard : Option (Nat × Bool)}
theorem zeroC (q : Nat) : (Builtin.zeroCells (Value.int .i64 0).cells q).toList = List.replicate q (.int .i64 0) := by
  apply List.ext_getElem
  · simp [Builtin.zeroCells, Value.cells]
  · intro j h1 h2
    simp [Builtin.zeroCells, Value.cells, Nat.mod_one]
/-- The end of an owned slice of numbers is cleared. -/
theorem op_clearZ {T by' g m c cc lab n0 : Nat} {x : Operand} {R : List Int} {ats : TypeId} (hx : ev e x = some (.slice (some ⟨g, m, none⟩) (n0 - m) cc)) (hT : appB P T 3 1 by' = true) (hn : R.length = n0) (hm : m < n0)
    (hz : ∀ i z, P.info? 3 = some i → i.zero = some z → z = .int .i64 0) (ha : ats = T := by rfl) :
    OpT P σ n F ⟨dst, .call ⟨.builtin .clear, #[x], #[ats]⟩, ty, pos, after, guard⟩ e [(lab, slW 3 encZ 1 (.slice (some ⟨g, 0, none⟩) n0 c) R)] (fun r ρ => r = .tuple #[] ∧ ρ = [(lab, slW 3 encZ 1 (.slice (some ⟨g, 0, none⟩) n0 c) (R.take m ++ List.replicate (R.length - m) 0))]) := by
  subst ha; subst hn
  intro Q K a w hr ho kk
  obtain ⟨i, z, ht, hi, hzz, hsz, hby, hzs, hk0⟩ := appB_spec hT
  obtain ⟨cur, hg, h3, h4, h5, h6⟩ := slO_at ho (by omega)
  have hv := hz i z hi hzz
  subst hv
  rw [Nat.mul_one] at h5 h6
  have hst := run_storeCells_at P g m 3 (List.replicate (R.length - m) (Value.int .i64 0)) 0 cur w hg (by rw [List.length_replicate]; omega) (fun u hu => by rw [List.eq_of_mem_replicate hu]; rfl)
  simp only [Nat.add_zero, List.length_replicate] at hst
  have hzv : (zeroValue 3).run P w = .ok (.int .i64 0) w := by simp [zeroValue, typeInfo, hi, hzz]
  have hrun : (Builtin.clear_ #[ats] ty #[.slice (some ⟨g, m, none⟩) (R.length - m) cc]).run P w = .ok (.tuple #[]) (w.setRow g (cur.toList.take m ++ List.replicate (R.length - m) (Value.int .i64 0) ++ cur.toList.drop (m + (R.length - m))).toArray) := by
    obtain ⟨q, hq⟩ : ∃ q, R.length - m = q + 1 := ⟨R.length - m - 1, by omega⟩
    rw [hq] at hst ⊢
    simp [Builtin.clear_, run_underlying ht, hzv, zeroC, hst]
  have hexec : (execOp a.eval ⟨dst, .call ⟨.builtin .clear, #[x], #[ats]⟩, ty, pos, after, guard⟩).run P w = .ok (.value (.tuple #[])) (w.setRow g (cur.toList.take m ++ List.replicate (R.length - m) (Value.int .i64 0) ++ cur.toList.drop (m + (R.length - m))).toArray) := by
    simp [execOp, resolve, hr.ev hx, invoke, builtin, Sem.run_bind, hrun]
  unfold Oper.wp
  rw [hexec]
  refine kk _ _ _ ⟨rfl, rfl⟩ ?_
  have hl : (R.take m ++ List.replicate (R.length - m) (0 : Int)).length = R.length := by rw [List.length_append, List.length_take, List.length_replicate]; omega
  show Own σ (slW 3 encZ 1 (.slice (some ⟨g, 0, none⟩) R.length c) (R.take m ++ List.replicate (R.length - m) 0) :: F) _
  rw [show Value.slice (some ⟨g, 0, none⟩) R.length c = .slice (some ⟨g, 0, none⟩) (R.take m ++ List.replicate (R.length - m) (0 : Int)).length c by rw [hl]]
  refine own_put (fun _ => rfl) ho (by omega) hg (by omega) h4 ?_ ?_
  · simp only [List.size_toArray, List.length_append, List.length_drop, List.length_take, List.length_replicate, Array.length_toList]
    omega
  · rw [hl, Nat.mul_one, List.toList_toArray]
    have hf := flat_one (enc0 := Value.int .i64) (enc := encZ) (fun _ => rfl)
    rw [hf] at h6 ⊢
    have e1 : cur.toList.take m = (R.map (Value.int .i64)).take m := by
      have := congrArg (List.take m) h6
      rwa [List.take_take, Nat.min_eq_left (by omega)] at this
    have e2 : (cur.toList.take m ++ List.replicate (R.length - m) (Value.int .i64 0)).length = R.length := by
      rw [e1, List.length_append, List.length_take, List.length_map, List.length_replicate]; omega
    rw [List.take_left' e2, e1, List.map_append, List.map_take, List.map_replicate]
end
theorem w_hdrS {P : Program} {σ : World} {n : Nat} {F : List Res} {e : Env} {R B0 : RL} {Q : Exit → Act → World → Prop} {c : Code} {E k : Nat} {a : Option Addr} {m cc : Nat} {xs : List (List Value)} (m' l l' : Nat) (ht : takeL R [l] = some ([(l, slO E k (.slice a m cc) xs)], B0)) (he : m = m') (kk : W P σ n c Q e ((l', slO E k (.slice a m' cc) xs) :: B0) F) : W P σ n c Q e R F := by
  subst he
  exact w_cls [l] (A := [(l, slO E k (.slice a m cc) xs)]) (C := [(l', slO E k (.slice a m cc) xs)]) (fun F w h => h) ht kk
theorem w_opnS {P : Program} {σ : World} {n : Nat} {F : List Res} {e : Env} {R A B0 : RL} {Q : Exit → Act → World → Prop} {c : Code} {ι : Type} (L : List Nat) {B : ι → RL} (ho : Opens σ (rs A) ι (fun i => rs (B i))) (ht : takeL R L = some (A, B0)) (k : ∀ i, W P σ n c Q e (B i ++ B0) F) : W P σ n c Q e R F := fun a w hr hw => by
  have h1 := hw.take ht
  obtain ⟨i, h2⟩ := ho _ w h1
  refine k i a w hr ?_
  have : rs (B i ++ B0) = rs (B i) ++ rs B0 := by unfold rs; rw [List.map_append]
  rw [this, List.append_assoc]; exact h2
/-- The empty pool: the slice that is nil. -/
theorem pool_start : pool 3 encZ 1 [((.slice none 0 0 : Value), ([] : List Int))] (fun _ => none) :=
  ⟨fun _ => none, fun _ => none, fun _ => .inl rfl, by funext i; rfl, slO_nil 3 1, rfl⟩
section
variable {P : Program} {σ : World} {n : Nat} {F : List Res} {e : Env} {R : RL} {dst : Option Tmp} {ty : TypeId} {pos : String} {after : Array Edge} {guard : Option (Nat × Bool)}
/-- A whole element of an owned slice is stored. -/
theorem op_storeA {α : Type} {enc : α → List Value} {T E k i lab : Nat} {x y : Operand} {a : Option Addr} {m c : Nat} {p : Addr} {l : List α} {b' : α} (hx : ev e x = some (.pointer (some p))) (hy : ev e y = some (.agg (enc b').toArray)) (hsz : (P.info? T).map (·.size) = some k)
    (hE : Enc1 enc k) (hp : p = idxA (.slice a m c) i k) (hi : i < l.length) :
    OpT P σ n F ⟨dst, .store T x y, ty, pos, after, guard⟩ e [(lab, slW E enc k (.slice a m c) l)] (fun u ρ => u = undef ∧ ρ = [(lab, slW E enc k (.slice a m c) (l.set i b'))]) := by
  intro Q K A w hr ho kk
  obtain ⟨M, hM, hMs⟩ := own_head ho
  obtain ⟨hk1, hl1, hv⟩ := hM
  rcases hv with ⟨_, hn⟩ | ⟨g, cap, cur, hva, rfl, h3, h4, h5, h6⟩
  · have : l = [] := by simpa using hn
    subst this; simp at hi
  · simp only [List.length_map] at hva h3 h5 h6
    simp at hva
    obtain ⟨rfl, rfl, rfl⟩ := hva
    have hg := hMs.single
    have hpa : p = ⟨g, i * k, none⟩ := by rw [hp]; simp [idxA, Addr.add_mid]
    subst hpa
    have hw : w.heap[g]? = some (.cells cur.toList.toArray E (0, 0)) := by simpa using hg
    obtain ⟨q, hq⟩ : ∃ q, l[i]? = some q := ⟨_, List.getElem?_eq_getElem hi⟩
    have hsplit : l = l.take i ++ (q :: l.drop (i + 1)) := by
      rw [← (List.getElem?_eq_some_iff.1 hq).2, ← List.drop_eq_getElem_cons hi, List.take_append_drop]
    obtain ⟨rest, hrest⟩ : ∃ rest, cur.toList = (l.map enc).flatten ++ rest := ⟨cur.toList.drop (l.length * k), by rw [← h6, List.take_append_drop]⟩
    have hAl : (((l.take i).map enc).flatten).length = i * k := by rw [length_flat hE.len, List.length_take, Nat.min_eq_left (by omega)]
    have hcur : cur.toList = ((l.take i).map enc).flatten ++ (enc q ++ (((l.drop (i + 1)).map enc).flatten ++ rest)) := by
      rw [hrest]
      conv => lhs; rw [hsplit]
      simp
    obtain ⟨a1, a2, a3, a4, a5⟩ := setCells_heap (enc b') w g (i * k) cur.toList E (0, 0) hw
    have e9 : setsL cur.toList (i * k) (enc b') = ((l.take i).map enc).flatten ++ (enc b' ++ (((l.drop (i + 1)).map enc).flatten ++ rest)) := by
      rw [hcur]
      have := setsL_midQ (enc b') ((l.take i).map enc).flatten (enc q) (((l.drop (i + 1)).map enc).flatten ++ rest) (by rw [hE.len, hE.len])
      rw [hAl] at this
      exact this
    rw [e9] at a1
    have hlen : cur.toList.length = i * k + (k + (((l.drop (i + 1)).map enc).flatten ++ rest).length) := by
      rw [hcur, List.length_append, List.length_append, hAl, hE.len]
    have hset : ((l.set i b').map enc).flatten = ((l.take i).map enc).flatten ++ (enc b' ++ ((l.drop (i + 1)).map enc).flatten) := by
      rw [List.set_eq_take_append_cons_drop, if_pos hi]; simp
    have hfl : ((l.set i b').map enc).flatten.length = l.length * k := by rw [length_flat hE.len, List.length_set]
    unfold Oper.wp
    have : (execOp A.eval ⟨dst, .store T x y, ty, pos, after, guard⟩).run P w = .ok .skip (w.setCells g (i * k) (enc b')) := by
      have hst := run_storeVar (P := P) (T := T) (v := .agg (enc b').toArray) (b := g) (o := i * k) hw hsz (by show (enc b').toArray.size = k; rw [List.size_toArray, hE.len]) (by
        show (enc b').toArray.all (·.oneCell') = true
        rw [Array.all_eq_true_iff_forall_mem]
        intro u hu
        exact hE.one b' u (by simpa using hu)) (by omega)
      rw [show (Value.agg (enc b').toArray).cells.toList = enc b' from by show (enc b').toArray.toList = _; simp] at hst
      simp [execOp, hr.ev hx, hr.ev hy, Instr.storeAt, Instr.sureAddr, Sem.run_bind, hst]
    rw [this]
    refine kk undef _ _ ⟨rfl, rfl⟩ ?_
    refine Own.swap (b := g) (o' := _) ho (fun m hm => ?_) ?_ a3 a4 a5 a1 (fun i hi o' h => by rw [a2 i hi]; exact h)
    · obtain ⟨_, _, hv⟩ := hm
      rcases hv with ⟨hv, _⟩ | ⟨g', cap', cur', hv, rfl, _⟩
      · simp at hv
      · simp at hv; rw [← hv.1]; exact ⟨_, by simp [single]; rfl⟩
    · refine ⟨?_, by simpa using hl1, .inr ⟨g, c, _, by simp, rfl, by simpa using h3, h4, ?_, ?_⟩⟩
      · intro c hc
        obtain ⟨y, _, rfl⟩ := List.mem_map.1 hc
        exact hE.len y
      · rw [List.size_toArray]
        have h9 : cur.toList.length = c * k := by rw [Array.length_toList]; exact h5
        rw [List.length_append, List.length_append, hAl, hE.len]
        omega
      · rw [List.toList_toArray, List.length_map, List.length_set, hset, ← hfl, hset]
        rw [show ((l.take i).map enc).flatten ++ (enc b' ++ (((l.drop (i + 1)).map enc).flatten ++ rest)) = (((l.take i).map enc).flatten ++ (enc b' ++ ((l.drop (i + 1)).map enc).flatten)) ++ rest by simp]
        exact List.take_left
def makeK (P : Program) (T E b k : Nat) : Option Value := match P.underlying T, P.info? E with
  | some (.slice e), some i => if (e == E && i.size == k && i.bytes == b) = true then i.zero else none
  | _, _ => none
theorem made_flat (z : Array Value) (hk : 0 < z.size) : ∀ m, (madeCells z (m * z.size)).toList = (List.replicate m z.toList).flatten
  | 0 => by simp [madeCells]
  | m + 1 => by
    have ih := made_flat z hk m
    unfold madeCells at ih ⊢
    rw [Array.toList_map, Array.toList_range] at ih ⊢
    rw [List.replicate_succ', List.flatten_append, ← ih, Nat.succ_mul, List.range_add, List.map_append]
    congr 1
    rw [List.flatten_singleton, List.map_map]
    apply List.ext_getElem
    · simp
    · intro i h1 h2
      have hi : i < z.size := by simpa using h2
      simp [Nat.add_mod, Nat.mod_eq_of_lt hi, hi]
theorem op_makeSliceK {α : Type} {enc : α → List Value} {T E b m k lab : Nat} {x y : Operand} {k1 k2 : IntKind} {z : Value} {a0 : α} (hx : ev e x = some (.int k1 m)) (hy : ev e y = some (.int k2 m)) (ht : makeK P T E b k = some z) (hk : ∀ a, (enc a).length = k) (hk0 : 0 < k) (he : z.cells.toList = enc a0) (hb : b * m ≤ 281474976710656) (hm : m ≤ maxLen) :
    OpT P σ n F ⟨dst, .makeSlice T x y, ty, pos, after, guard⟩ e [] (fun v ρ => ∃ a c, v = .slice a m c ∧ ρ = [(lab, slW E enc k (.slice a m c) (List.replicate m a0))]) := by
  intro Q K a w hr ho kk
  unfold makeK at ht
  split at ht
  · rename_i e0 i hu hi
    split at ht
    · rename_i hc
      simp only [Bool.and_eq_true, beq_iff_eq] at hc
      obtain ⟨⟨rfl, h1⟩, rfl⟩ := hc
      have hrun : (execOp a.eval ⟨dst, .makeSlice T x y, ty, pos, after, guard⟩).run P w = .ok (.value (.slice (some ⟨w.heap.size, 0, none⟩) m m)) (w.alloc (.cells (madeCells z.cells (m * i.size)) e0)) := by
        simp only [execOp, Sem.run_bind]; rw [hr.ev hx, hr.ev hy]
        rw [run_make w T e0 i z hu hi ht k1 k2 m m (by omega) (by omega) (by rw [← Int.natCast_mul]; exact Int.ofNat_le.2 hb) (by unfold maxLen at hm; omega)]
        rfl
      unfold Oper.wp
      rw [hrun]
      have hzs : z.cells.size = i.size := by rw [← Array.length_toList, he, hk, h1]
      have hcells : (madeCells z.cells (m * i.size)).toList = ((List.replicate m a0).map enc).flatten := by
        rw [← hzs, made_flat z.cells (by omega), he, List.map_replicate]
      refine kk _ _ _ ⟨_, _, rfl, rfl⟩ (ho.alloc ?_)
      refine ⟨fun c hc => by obtain ⟨q, _, rfl⟩ := List.mem_map.1 hc; exact hk q, by simpa using hm, .inr ⟨w.heap.size, m, _, by simp, rfl, by simp, hm, ?_, ?_⟩⟩
      · rw [← Array.length_toList, hcells, length_flat hk, List.length_replicate]
      · rw [hcells]
        have hfl : ((List.replicate m a0).map enc).flatten.length = ((List.replicate m a0).map enc).length * k := by rw [length_flat hk, List.length_map]
        rw [← hfl, List.take_length]
    · simp at ht
  · simp at ht
end
end Go.SL
