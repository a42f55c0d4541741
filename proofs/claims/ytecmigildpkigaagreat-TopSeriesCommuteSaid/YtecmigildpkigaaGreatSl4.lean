/- Literals, append, stores into slices, for the symbolic logic of Sl0. Conditions: none. -/
import Derived.Test.YtecmigildpkigaaGreatSl2
namespace Go.SL
open Go.RowKit
set_option linter.unusedSimpArgs false
set_option linter.unusedVariables false

/-! ### Literals -/
def fillS (pl : List (Nat × Nat)) : List Value → List (Nat × Value) → Option (List Value)
  | c, [] => some c
  | c, (i, v) :: r => match pl[i]? with
    | none => none
    | some (off, s) => bif Nat.beq v.cells.size s && Nat.ble (off + s) c.length then fillS pl (setsL c off v.cells.toList) r else none
theorem length_setsL : ∀ (vs : List Value) (c : List Value) (o : Nat), (setsL c o vs).length = c.length
  | [], c, o => rfl
  | v :: vs, c, o => by rw [setsL, length_setsL vs]; simp
theorem foldl_sets : ∀ (vs : List Value) (c : List Value) (off j : Nat),
    ((vs.zipIdx j).foldl (fun (cs : Array Value) (p : Value × Nat) => cs.setIfInBounds (off + p.2) p.1) c.toArray) = (setsL c (off + j) vs).toArray
  | [], c, off, j => rfl
  | v :: vs, c, off, j => by
    simp only [List.zipIdx_cons, List.foldl_cons, setsL]
    rw [List.setIfInBounds_toArray, foldl_sets vs (c.set (off + j) v) off (j + 1)]
    rfl
theorem fill_of {pl : List (Nat × Nat)} {place : Nat → Option (Nat × Nat)} (hp : ∀ i p, pl[i]? = some p → place i = some p) : ∀ {parts : List (Nat × Value)} {c c' : List Value}, fillS pl c parts = some c' → Instr.fill place c.toArray parts = some c'.toArray
  | [], c, c', h => by simp [fillS] at h; simp [Instr.fill, h]
  | (i, v) :: r, c, c', h => by
    simp only [fillS] at h
    split at h
    · simp at h
    · rename_i off s hpl
      cases hb : (Nat.beq v.cells.size s && Nat.ble (off + s) c.length) with
      | false => rw [hb] at h; simp at h
      | true =>
        rw [hb] at h
        simp only [cond_true] at h
        simp only [Bool.and_eq_true, Nat.ble_eq] at hb
        have hs := Nat.eq_of_beq_eq_true hb.1
        have := fill_of hp h
        unfold Instr.fill
        simp only [hp i _ hpl]
        rw [if_neg (by simp [hs]; omega)]
        rw [← Array.foldl_toList, Array.toList_zipIdx]
        have h2 := foldl_sets v.cells.toList c off 0
        simp only [Nat.add_zero] at h2
        rw [h2]
        exact this
def placesB (P : Program) (T : TypeId) : Option (List (Nat × Nat) × List Value) := match P.info? T, P.underlying T with
  | some it, some (.struct fs) => match it.zero, fs.toList.mapM (fun f => (P.info? f.type).map fun i => (f.offset, i.size)) with
    | some z, some pl => some (pl, z.cells.toList)
    | _, _ => none
  | _, _ => none
def zerosB (P : Program) (T E k len : Nat) : Option (List Value) := match P.underlying T, P.info? E with
  | some (.slice e), some i => match i.zero with
    | some z => if e == E && i.size == k && Nat.ble 1 (len * k) && Nat.ble (len * k) 16777216 then some ((Array.range (len * k)).map (z.cells[· % z.cells.size]!)).toList else none
    | none => none
  | _, _ => none
def evp (e : Env) : List (Nat × Operand) → Option (List (Nat × Value))
  | [] => some []
  | (i, x) :: l => match ev e x, evp e l with
    | some v, some vs => some ((i, v) :: vs)
    | _, _ => none
theorem Rel.evp {n : Nat} {e : Env} {a : Act} (h : Rel n e a) : ∀ {l : List (Nat × Operand)} {vs : List (Nat × Value)}, evp e l = some vs → (l.map fun (i, x) => (i, a.eval x)) = vs
  | [], vs, hx => by simp [SL.evp] at hx; simp [hx]
  | (i, x) :: l, vs, hx => by
    simp only [SL.evp] at hx
    split at hx
    · rename_i v us hv hu
      simp at hx; subst hx
      simp [h.ev hv, h.evp hu]
    · simp at hx
section
variable {P : Program} {σ : World} {n : Nat} {F : List Res} {e : Env} {dst : Option Tmp} {ty : TypeId} {pos : String} {after : Array Edge} {guard : Option (Nat × Bool)}
theorem op_build {T : TypeId} {parts : Array (Nat × Operand)} {pl : List (Nat × Nat)} {z cs : List Value} {vs : List (Nat × Value)} (ht : placesB P T = some (pl, z)) (hx : evp e parts.toList = some vs) (h : fillS pl z vs = some cs) :
    OpT P σ n F ⟨dst, .build T parts, ty, pos, after, guard⟩ e [] (Det (.agg cs.toArray)) :=
  opt_run fun a w hr _ => by
    have hparts : (parts.map fun (i, x) => (i, a.eval x)).toList = vs := by simpa using hr.evp hx
    have hb : P.built T vs = some cs.toArray := by
      unfold placesB at ht
      split at ht
      · rename_i it fs hi hu
        split at ht
        · rename_i z0 pl0 hz hm
          simp at ht; obtain ⟨rfl, rfl⟩ := ht
          unfold Program.built
          simp only [hi, hu, hz, hm]
          simpa using fill_of (place := (pl0.toArray[·]?)) (fun i p hp => by simpa using hp) h
        · simp at ht
      · simp at ht
    simp only [execOp, Sem.run_bind]
    rw [run_build w T _ cs.toArray (by rw [hparts]; exact hb)]
    rfl
theorem op_buildSlice {α : Type} {enc : α → List Value} {T E k len lab : Nat} {parts : Array (Nat × Operand)} {z : List Value} {vs : List (Nat × Value)} {l : List α} (ht : zerosB P T E k len = some z) (hx : evp e parts.toList = some vs)
    (hl : l.length = len) (hk : ∀ a, (enc a).length = k) (h : fillS ((List.range len).map fun i => (i * k, k)) z vs = some (l.map enc).flatten) :
    OpT P σ n F ⟨dst, .buildSlice T len parts, ty, pos, after, guard⟩ e [] (fun v ρ => ∃ a c, v = .slice a l.length c ∧ ρ = [(lab, slW E enc k v l)]) := by
  intro Q K a w hr ho kk
  have hparts : (parts.map fun (i, x) => (i, a.eval x)).toList = vs := by simpa using hr.evp hx
  unfold zerosB at ht
  split at ht
  · rename_i e0 i hu hi
    split at ht
    · rename_i z0 hz
      split at ht
      · rename_i hc
        simp only [Bool.and_eq_true, beq_iff_eq, Nat.ble_eq] at hc
        obtain ⟨⟨⟨rfl, rfl⟩, h1⟩, h2⟩ := hc
        simp at ht
        subst ht
        have hfill : Instr.fill (fun j => some (j * i.size, i.size)) ((Array.range (len * i.size)).map (z0.cells[· % z0.cells.size]!)) (parts.map fun (j, x) => (j, a.eval x)).toList = some (l.map enc).flatten.toArray := by
          rw [hparts]
          have := fill_of (place := fun j => some (j * i.size, i.size)) (fun j p hp => by
            rw [List.getElem?_map] at hp
            cases hr : (List.range len)[j]? with
            | none => rw [hr] at hp; simp at hp
            | some j' => rw [hr] at hp; simp at hp; rw [List.getElem?_range] at hr; (· simp at hr; subst hr; rw [← hp]); exact (List.getElem?_eq_some_iff.1 hr).1 |> fun h => by simpa using h) h
          have harr : (Array.range (len * i.size)).map (z0.cells[· % z0.cells.size]!) = (List.map (fun x => z0.cells[x % z0.cells.size]!) (List.range (len * i.size))).toArray := Array.ext' (by simp)
          rw [harr]; exact this
        unfold Oper.wp
        have hrun : (execOp a.eval ⟨dst, .buildSlice T len parts, ty, pos, after, guard⟩).run P w = .ok (.value (.slice (some ⟨w.heap.size, 0, none⟩) len len)) (w.alloc (.cells (l.map enc).flatten.toArray e0)) := by
          simp only [execOp, Sem.run_bind]
          rw [run_buildSlice w T e0 len _ (l.map enc).flatten.toArray i z0 hu hi hz (by omega) (by omega) hfill]
          rfl
        rw [hrun]
        refine kk _ _ _ ⟨_, _, by rw [hl], rfl⟩ (ho.alloc ?_)
        have hlen : ∀ c ∈ l.map enc, c.length = i.size := fun c hc => by obtain ⟨x, _, rfl⟩ := List.mem_map.1 hc; exact hk x
        have hfl : (l.map enc).flatten.length = len * i.size := by
          have : ∀ (xs : List (List Value)), (∀ c ∈ xs, c.length = i.size) → xs.flatten.length = xs.length * i.size := by
            intro xs
            induction xs with
            | nil => intro _; simp
            | cons x xs ih => intro h; simp [ih (fun c hc => h c (by simp [hc])), h x (by simp), Nat.succ_mul, Nat.add_comm]
          rw [this _ hlen]; simp [hl]
        refine ⟨hlen, by simp [hl, maxLen]; have := Nat.le_mul_of_pos_right len (show 0 < i.size by rcases Nat.eq_zero_or_pos i.size with h | h; (· rw [h] at h1; simp at h1); exact h); omega, .inr ⟨w.heap.size, len, _, by simp [hl], rfl, by simp [hl], ?_, by simp; simpa using hfl, ?_⟩⟩
        · have := Nat.le_mul_of_pos_right len (show 0 < i.size by rcases Nat.eq_zero_or_pos i.size with h | h; (· rw [h] at h1; simp at h1); exact h)
          unfold maxLen; omega
        · simp only [List.length_map, hl]
          rw [List.take_of_length_le (by omega)]
      · simp at ht
    · simp at ht
  · simp at ht

/-! ### append -/
def appB (P : Program) (T E k by' : Nat) : Bool := match P.underlying T, P.info? E with
  | some (.slice e), some i => match i.zero with
    | some z => e == E && i.size == k && i.bytes == by' && z.cells.size == k && Nat.ble 1 k
    | none => false
  | _, _ => false
theorem appB_spec {T E k by' : Nat} (h : appB P T E k by' = true) : ∃ i z, P.underlying T = some (.slice E) ∧ P.info? E = some i ∧ i.zero = some z ∧ i.size = k ∧ i.bytes = by' ∧ z.cells.size = k ∧ 0 < k := by
  unfold appB at h
  split at h
  · rename_i e0 i hu hi
    split at h
    · rename_i z hz
      simp at h
      obtain ⟨⟨⟨⟨rfl, h1⟩, h2⟩, h3⟩, h4⟩ := h
      exact ⟨i, z, hu, hi, hz, h1, h2, h3, h4⟩
    · simp at h
  · simp at h
/-- An encoding in k plain cells. -/
structure Enc1 {α : Type} (enc : α → List Value) (k : Nat) : Prop where
  len : ∀ a, (enc a).length = k
  one : ∀ a, ∀ u ∈ enc a, u.oneCell' = true
theorem enc1Z : Enc1 encZ 1 := ⟨fun _ => rfl, fun a u h => by simp [encZ] at h; subst h; rfl⟩
theorem enc1S : Enc1 encS 1 := ⟨fun _ => rfl, fun a u h => by simp [encS] at h; subst h; rfl⟩
theorem enc1B : Enc1 encB 1 := ⟨fun _ => rfl, fun a u h => by simp [encB] at h; subst h; rfl⟩
theorem enc1U : Enc1 encU 1 := ⟨fun _ => rfl, fun a u h => by simp [encU] at h; subst h; rfl⟩
theorem length_flat {α : Type} {enc : α → List Value} {k : Nat} (h : ∀ a, (enc a).length = k) (l : List α) : (l.map enc).flatten.length = l.length * k := by
  induction l with
  | nil => simp
  | cons x l ih => simp [ih, h x, Nat.succ_mul, Nat.add_comm]
theorem own_head {σ : World} {r : Res} {F : List Res} {w : World} (h : Own σ (r :: F) w) : ∃ m, r m ∧ MSub m w := h.mem_of (List.mem_cons_self)
theorem own_change {σ : World} {r r' : Res} {F : List Res} {w : World} (h : Own σ (r :: F) w) (hr : ∀ m, r m → MSub m w → r' m) : Own σ (r' :: F) w := by
  obtain ⟨h1, h2, h3, l, hl, hm, hd⟩ := h
  cases l with
  | nil => simp at hl
  | cons p l =>
    simp at hl
    obtain ⟨rfl, rfl⟩ := hl
    refine ⟨h1, h2, h3, (r', p.2) :: l, by simp, ?_, ?_⟩
    · intro q hq
      rcases List.mem_cons.1 hq with rfl | hql
      · have := hm p (by simp); exact ⟨hr _ this.1 this.2, this.2⟩
      · exact hm q (by simp [hql])
    · exact List.pairwise_cons.2 ⟨(List.pairwise_cons.1 hd).1, (List.pairwise_cons.1 hd).2⟩
theorem own_fresh {α : Type} {enc : α → List Value} {E k : Nat} {l1 l2 : List α} {w : World} {d cap : Nat} {rest : Array Value} (hE : Enc1 enc k) (ho : Own σ F w) (hml : l1.length + l2.length ≤ 9223372036854775807)
    (hc1 : l1.length + l2.length ≤ cap) (hc2 : cap ≤ maxLen) (hrest : rest.size = (cap - (l1.length + l2.length)) * k) :
    Own σ (slW E enc k (.slice (some ⟨w.heap.size, 0, none⟩) (l1 ++ l2).length cap) (l1 ++ l2) :: F) (({ w with drawn := d } : World).alloc (.cells ((l1.map enc).flatten.toArray ++ (l2.map enc).flatten.toArray ++ rest) E)) := by
  have hfl1 := length_flat hE.len l1
  have hfl2 := length_flat hE.len l2
  have hall : ∀ c ∈ (l1 ++ l2).map enc, c.length = k := fun c hc => by obtain ⟨q, _, rfl⟩ := List.mem_map.1 hc; exact hE.len q
  have hlen : ((l1 ++ l2).map enc).length = l1.length + l2.length := by rw [List.length_map, List.length_append]
  refine (ho.drawn d).alloc ?_
  refine ⟨hall, by rw [hlen]; unfold maxLen; omega, .inr ⟨w.heap.size, cap, _, by rw [List.length_map], rfl, by rw [hlen]; exact hc1, hc2, ?_, ?_⟩⟩
  · simp only [Array.size_append, List.size_toArray, hfl1, hfl2, hrest]
    rw [← Nat.add_mul, ← Nat.add_mul]; congr 1; omega
  · have h1 : ((l1.map enc).flatten.toArray ++ (l2.map enc).flatten.toArray ++ rest).toList = ((l1 ++ l2).map enc).flatten ++ rest.toList := by simp
    rw [h1, hlen]
    have h2 : (l1.length + l2.length) * k = ((l1 ++ l2).map enc).flatten.length := by rw [length_flat hE.len, List.length_append]
    rw [h2]
    exact List.take_left
theorem run_app {α : Type} {enc : α → List Value} {T E k by' : Nat} {ty : TypeId} {v u : Value} {l1 l2 : List α} {w : World} (hT : appB P T E k by' = true) (hE : Enc1 enc k) (ho : Own σ (slW E enc k v l1 :: F) w) (hu : slT enc k u l2 w)
    (hb : (l1.length + l2.length) * by' ≤ 140737488355328) (hb2 : l1.length + l2.length ≤ 9223372036854775807) :
    ∃ a c w', (Builtin.append_ #[T, T] ty #[v, u]).run P w = .ok (.slice a (l1 ++ l2).length c) w' ∧ Own σ (slW E enc k (.slice a (l1 ++ l2).length c) (l1 ++ l2) :: F) w' := by
  obtain ⟨i, z, ht, hi, hz, hsz, hby, hzs, hk0⟩ := appB_spec hT
  obtain ⟨m, hm, hms⟩ := own_head ho
  subst hsz; subst hby
  have hfl1 := length_flat hE.len l1
  have hfl2 := length_flat hE.len l2
  have hlen : (l1 ++ l2).length = l1.length + l2.length := List.length_append
  obtain ⟨hk1, hl1, hv⟩ := hm
  obtain ⟨hk2, hl2, hu'⟩ := hu
  clear hk1 hk2
  have hgrow : ∀ cap0, (l1.length + l2.length ≤ grownCap w (l1.length + l2.length) cap0 E) ∧ grownCap w (l1.length + l2.length) cap0 E ≤ maxLen := fun cap0 =>
    ⟨grownCap_ge w _ cap0 E, grownCap_le_maxLen w _ cap0 E (by unfold maxLen; omega)⟩
  have hfr : ∀ cap0, Own σ (slW E enc i.size (.slice (some ⟨w.heap.size, 0, none⟩) (l1 ++ l2).length (grownCap w (l1.length + l2.length) cap0 E)) (l1 ++ l2) :: F) (w.drew.alloc (.cells ((l1.map enc).flatten.toArray ++ (l2.map enc).flatten.toArray ++ Builtin.zeroCells z.cells (grownCap w (l1.length + l2.length) cap0 E - (l1.length + l2.length))) E)) := fun cap0 =>
    own_fresh hE ho.tail hb2 (hgrow cap0).1 (hgrow cap0).2 (by rw [size_zeroCells, hzs])
  clear hgrow
  rcases hu' with ⟨a0, c0, rfl, hl2n⟩ | ⟨b2, o2, cap2, rfl, hle2, hra2⟩
  · have hl20 : l2 = [] := by simpa using hl2n
    subst hl20
    clear hfr
    simp only [List.append_nil]
    rcases hv with ⟨rfl, hn⟩ | ⟨g, cap, cur, rfl, rfl, h3, h4, h5, h6⟩
    · have hl10 : l1 = [] := by simpa using hn
      subst hl10
      exact ⟨none, 0, w, by cases a0 <;> simp [Builtin.append_, run_underlying ht, sizeOf, typeInfo, hi, Builtin.lenOf, Builtin.firstCells, loadCells, loadCellsFrom], ho⟩
    · simp only [List.length_map] at h3 ho ⊢
      exact ⟨some ⟨g, 0, none⟩, cap, w, by cases a0 <;> simp [Builtin.append_, run_underlying ht, sizeOf, typeInfo, hi, Builtin.lenOf, Builtin.firstCells, loadCells, loadCellsFrom, h3, storeCells, Sem.run_bind], ho⟩
  · have hnews : ∀ j q, (l2.map enc).flatten[j]? = some q → w.cell? ((⟨b2, o2, none⟩ : Addr).add j) = some q := fun j q hj => by rw [Addr.add_mid]; exact hra2 j q hj
    have hone : ∀ q ∈ (l2.map enc).flatten, q.oneCell' = true := fun q hq => by
      obtain ⟨c, hc, hqc⟩ := List.mem_flatten.1 hq
      obtain ⟨p, _, rfl⟩ := List.mem_map.1 hc
      exact hE.one p q hqc
    simp only [List.length_map] at hle2 ⊢
    clear hra2
    rcases hv with ⟨rfl, hn⟩ | ⟨g, cap, cur, rfl, rfl, h3, h4, h5, h6⟩
    · have hl10 : l1 = [] := by simpa using hn
      subst hl10
      by_cases hz2 : l2.length = 0
      · have hl20 : l2 = [] := List.eq_nil_of_length_eq_zero hz2
        subst hl20
        clear hfr
        exact ⟨none, 0, w, by simp [Builtin.append_, run_underlying ht, sizeOf, typeInfo, hi, Builtin.lenOf, Builtin.firstCells, loadCells, loadCellsFrom], ho⟩
      · have hr2 := run_append_nil (P := P) w T ty E i z ht hi hz ⟨b2, o2, none⟩ l2.length cap2 (l2.map enc).flatten hfl2 hnews (by omega) (by simp at hb2; omega) (by simp at hb; omega)
        have h0 := hfr 0
        simp only [List.length_nil, Nat.zero_add, List.nil_append, List.map_nil, List.flatten_nil, Array.empty_append] at h0 ⊢
        exact ⟨_, _, _, hr2, h0⟩
    · simp only [List.length_map] at h3 h5 h6 ho ⊢
      have hg := hms.single
      by_cases hroom : l1.length + l2.length ≤ cap
      · have hfit : l1.length * i.size + (l2.map enc).flatten.length ≤ cur.size := by rw [hfl2, h5, ← Nat.add_mul]; exact Nat.mul_le_mul_right _ hroom
        have hr2 := run_append_room (P := P) w T ty E i ht hi g l1.length cap cur hg ⟨b2, o2, none⟩ l2.length cap2 (l2.map enc).flatten hfl2 hnews hone hroom hfit
        rw [hlen]
        refine ⟨_, _, _, hr2, ?_⟩
        refine Own.swap (b := g) (o' := _) ho (fun m hm => ?_) ?_ rfl rfl rfl (setRow_heap w g cur _ E _ hg) (fun j hj o' h => by rw [setRow_other w g j _ hj]; exact h)
        · obtain ⟨_, _, hv⟩ := hm
          rcases hv with ⟨hv, _⟩ | ⟨g', cap', cur', hv, rfl, _⟩
          · simp at hv
          · simp at hv; rw [← hv.1]; exact ⟨_, by simp [single]; rfl⟩
        · have hall : ∀ c ∈ (l1 ++ l2).map enc, c.length = i.size := fun c hc => by obtain ⟨q, _, rfl⟩ := List.mem_map.1 hc; exact hE.len q
          have hlm : ((l1 ++ l2).map enc).length = l1.length + l2.length := by rw [List.length_map, hlen]
          refine ⟨hall, by rw [hlm]; unfold maxLen; omega, .inr ⟨g, cap, _, by rw [hlm], rfl, by rw [hlm]; exact hroom, h4, ?_, ?_⟩⟩
          · simp only [List.size_toArray, List.length_append, List.length_take, List.length_drop, Array.length_toList]
            omega
          · rw [h6, hlm]
            have h2 : (l1.length + l2.length) * i.size = ((l1.map enc).flatten ++ (l2.map enc).flatten).length := by rw [List.length_append, hfl1, hfl2, Nat.add_mul]
            rw [h2, List.map_append, List.flatten_append]
            exact List.take_left
      · have holds : ∀ j q, (l1.map enc).flatten[j]? = some q → w.cell? ((⟨g, 0, none⟩ : Addr).add j) = some q := fun j q hj => by
          rw [Addr.add_mid]
          simp only [World.cell?, hg]
          rw [← h6, List.getElem?_take] at hj
          split at hj
          · simpa using hj
          · simp at hj
        have hr2 := run_append_grow (P := P) w T ty E i z ht hi hz ⟨g, 0, none⟩ l1.length cap (l1.map enc).flatten hfl1 holds ⟨b2, o2, none⟩ l2.length cap2 (l2.map enc).flatten hfl2 hnews (by omega) (by omega) (growslice_fits (by omega) hb)
        have h0 := hfr cap
        rw [hlen] at h0 ⊢
        exact ⟨_, _, _, hr2, h0⟩
theorem op_append {α : Type} {enc : α → List Value} {T E k by' : Nat} {x y : Operand} {v u : Value} {l1 l2 : List α} {lab lab' : Nat} {ats : TypeId} {ats2 : TypeId} (hx : ev e x = some v) (hy : ev e y = some u) (hT : appB P T E k by' = true) (hE : Enc1 enc k)
    (hu : Sl σ F enc k u l2) (hb : (l1.length + l2.length) * by' ≤ 140737488355328) (hb2 : l1.length + l2.length ≤ 9223372036854775807) (ha : ats = T := by rfl) (ha2 : ats2 = T := by rfl) :
    OpT P σ n F ⟨dst, .call ⟨.builtin .append, #[x, y], #[ats, ats2]⟩, ty, pos, after, guard⟩ e [(lab, slW E enc k v l1)] (fun r ρ => ∃ a c, r = .slice a (l1 ++ l2).length c ∧ ρ = [(lab', slW E enc k r (l1 ++ l2))]) := by
  subst ha; subst ha2
  intro Q K a w hr ho kk
  obtain ⟨aa, c, w', hrun, hown⟩ := run_app (ty := ty) hT hE ho (hu.ent w ho.drop) hb hb2
  have hexec : (execOp a.eval ⟨dst, .call ⟨.builtin .append, #[x, y], #[ats2, ats2]⟩, ty, pos, after, guard⟩).run P w = .ok (.value (.slice aa (l1 ++ l2).length c)) w' := by
    simp [execOp, resolve, hr.ev hx, hr.ev hy, invoke, builtin, Sem.run_bind, hrun]
  unfold Oper.wp
  rw [hexec]
  exact kk _ _ _ ⟨_, _, rfl, rfl⟩ hown
end
end Go.SL
