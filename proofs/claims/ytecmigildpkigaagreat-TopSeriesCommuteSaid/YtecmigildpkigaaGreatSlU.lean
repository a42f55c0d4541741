/- Growing a nil slice; slices with a bound of capacity; joining. Conditions: none. -/
import Derived.Test.YtecmigildpkigaaGreatSlT
import Derived.Lib.AppendZerosOnto
namespace Go.SL
open Go Go.RowKit Go.Lib
set_option linter.unusedVariables false
set_option linter.unusedSimpArgs false
section
variable {P : Program} {σ : World} {n : Nat} {F : List Res} {e : Env} {R : RL} {dst : Option Tmp} {ty : TypeId} {pos : String} {after : Array Edge} {guard : Option (Nat × Bool)}
theorem op_cap {T E k m c : Nat} {x : Operand} {a : Option Addr} (hx : ev e x = some (.slice a m c)) (ht : sliceB P T E k = true) :
    OpT P σ n F ⟨dst, .call ⟨.builtin .cap, #[x], #[T]⟩, ty, pos, after, guard⟩ e [] (Det (.int .i64 c)) :=
  opt_run fun A w hr ho => by
    obtain ⟨i, hu, hi', hsz⟩ := sliceB_spec ht
    simp [execOp, resolve, hr.ev hx, invoke, builtin, Builtin.cap_, run_underlying hu, Sem.run_bind, goInt]
theorem op_slice00 {T E k m c : Nat} {x z : Operand} {a : Option Addr} (hx : ev e x = some (.slice a m c)) (hz : ev e z = some (.int .i64 0)) (hT : sliceB P T E k = true) (ha : a = none ∨ ∃ g, a = some ⟨g, 0, none⟩) :
    OpT P σ n F ⟨dst, .slice T x none (some z) none, ty, pos, after, guard⟩ e [] (Det (.slice a 0 c)) :=
  opt_run fun A w hr ho => by
    obtain ⟨i, hu, hi', hsz⟩ := sliceB_spec hT
    have hs2 : (sizeOf E).run P w = .ok k w := by simp [sizeOf, typeInfo, hi', hsz]
    have h4 : (if c = 0 then a else a.map (·.add (0 * k))) = a := by
      split
      · rfl
      · rcases ha with rfl | ⟨g, rfl⟩ <;> simp [Addr.add_mid]
    simp only [Nat.zero_mul] at h4
    simp [execOp, hr.ev hx, hr.ev hz, Instr.sliceAt, Instr.slice, run_underlying hu, Sem.run_bind, Instr.sliceBounds, Instr.sliceBound, asIntOf, hs2, h4]
/-- append(nil, make(.., m)..), told as a slice that holds nothing yet. -/
theorem op_appendMake0 {α : Type} {enc : α → List Value} {T E k by' m lab : Nat} {x y : Operand} {ats ats2 : TypeId} {kn : IntKind} (hx : ev e x = some (.slice none 0 0)) (hy : ev e y = some (.int .i64 m)) (hT : appB P T E k by' = true) (hn : P.underlying ats2 = some (.int kn)) (h0 : 0 < m) (hb : m * by' ≤ 140737488355328) (hm : m ≤ maxLen) (ha : ats = T := by rfl) :
    OpT P σ n F ⟨dst, .call ⟨.builtin .append, #[x, y], #[ats, ats2]⟩, ty, pos, after, guard⟩ e [] (fun v ρ => ∃ g c, v = .slice (some ⟨g, 0, none⟩) m c ∧ ρ = [(lab, slW E enc k (.slice (some ⟨g, 0, none⟩) 0 c) [])]) := by
  subst ha
  intro Q K a w hr ho kk
  obtain ⟨i, z, ht, hi, hz, hsz, hby, hzs, hk0⟩ := appB_spec hT
  subst hsz; subst hby
  have hnx : Builtin.nextslicecap (0 + m) 0 = m := by simp [Builtin.nextslicecap, h0]
  have hrun := run_append_grow_zeros (P := P) w ats ats2 ty E i z .i64 kn ht hn hi hz none 0 0 [] (by
    show (pure #[] : Sem (Array Value)).run P w.drew = _; rfl) m h0 hk0 (by omega) (by unfold maxLen at hm; omega) (by omega) (by rw [hnx]; omega)
  rw [Nat.zero_add] at hrun
  have hexec : (execOp a.eval ⟨dst, .call ⟨.builtin .append, #[x, y], #[ats, ats2]⟩, ty, pos, after, guard⟩).run P w = .ok (.value (.slice (some ⟨w.heap.size, 0, none⟩) m (grownCap w m 0 E))) (w.drew.alloc (.cells ([].toArray ++ Builtin.zeroCells z.cells m ++ Builtin.zeroCells z.cells (grownCap w m 0 E - m)) E)) := by
    simp [execOp, resolve, hr.ev hx, hr.ev hy, invoke, builtin, Sem.run_bind, hrun]
  unfold Oper.wp
  rw [hexec]
  have h3 := grownCap_ge w m 0 E
  have h4 := grownCap_le_maxLen w m 0 E hm
  refine kk _ _ _ ⟨w.heap.size, _, rfl, rfl⟩ ?_
  refine Own.alloc (w := w.drew) (ho.drawn _) ?_
  refine ⟨by simp, by simp, .inr ⟨w.heap.size, _, _, rfl, rfl, Nat.zero_le _, h4, ?_, by simp⟩⟩
  simp only [List.toArray, Array.empty_append, Array.size_append, size_zeroCells, hzs]
  rw [← Nat.add_mul]; congr 1; omega
/-- x[:hi:hi]. -/
theorem op_slice3R {α : Type} {enc : α → List Value} {T E k hi : Nat} {x z y : Operand} {a : Option Addr} {m c : Nat} {l : List α} (hx : ev e x = some (.slice a m c)) (hz : ev e z = some (.int .i64 hi)) (hy : ev e y = some (.int .i64 hi)) (hT : sliceB P T E k = true)
    (h : Sl σ F enc k (.slice a m c) l) (h2 : hi ≤ l.length) : OpT P σ n F ⟨dst, .slice T x none (some z) (some y), ty, pos, after, guard⟩ e [] (Det (.slice (SL.sub a hi 0 k) hi hi)) :=
  opt_run fun A w hr ho => by
    obtain ⟨i, hu, hi', hsz⟩ := sliceB_spec hT
    obtain ⟨hm, hn, hc⟩ := h.shape w ho
    have h3 : hi ≤ c := by omega
    have hs2 : (sizeOf E).run P w = .ok k w := by simp [sizeOf, typeInfo, hi', hsz]
    simp [execOp, hr.ev hx, hr.ev hz, hr.ev hy, Instr.sliceAt, Instr.slice, run_underlying hu, Sem.run_bind, Instr.sliceBounds, Instr.sliceBound, asIntOf, h3, hs2, SL.sub]
theorem Sl.sub3 {α : Type} {enc : α → List Value} {k : Nat} {a : Option Addr} {m c : Nat} {l : List α} (h : Sl σ F enc k (.slice a m c) l) {hi : Nat} (h2 : hi ≤ l.length) : Sl σ F enc k (.slice (SL.sub a hi 0 k) hi hi) (l.take hi) := by
  refine ⟨h.ent.mono fun w hw => ?_, by have := h.le; rw [List.length_take]; omega⟩
  obtain ⟨h3, h4, h5⟩ := hw
  have hlen : (l.take hi).length = hi := by rw [List.length_take]; omega
  refine ⟨fun x hx => h3 x (by rw [List.map_take] at hx; exact List.mem_of_mem_take hx), by rw [List.length_map, hlen]; rw [List.length_map] at h4; omega, ?_⟩
  by_cases h0 : hi = 0
  · subst h0; exact .inl ⟨_, _, rfl, by simp⟩
  · rcases h5 with ⟨a', c', hv, hl⟩ | ⟨b, o, cap, hv, hle, hr⟩
    · simp at hl; subst hl; simp at h2; omega
    · simp at hv
      obtain ⟨rfl, rfl, rfl⟩ := hv
      refine .inr ⟨b, o, hi, ?_, by rw [List.length_map, hlen]; exact Nat.le_refl _, fun j v hj => hr j v ?_⟩
      · rw [List.length_map, hlen]; simp [SL.sub, h0, Addr.add_mid]
      · rw [← List.take_append_drop hi l, List.map_append, List.flatten_append, List.getElem?_append_left (by
          rcases Nat.lt_or_ge j ((l.take hi).map enc).flatten.length with h | h
          · exact h
          · rw [List.getElem?_eq_none h] at hj; simp at hj)]
        exact hj
/-- append to a slice that is full: a new one. -/
theorem op_appendFresh {α : Type} {enc : α → List Value} {T E k by' : Nat} {x y : Operand} {a : Option Addr} {m : Nat} {u : Value} {l1 l2 : List α} {lab' : Nat} {ats : TypeId} {ats2 : TypeId} (hx : ev e x = some (.slice a m m)) (hy : ev e y = some u) (hT : appB P T E k by' = true) (hE : Enc1 enc k)
    (hv : Sl σ F enc k (.slice a m m) l1) (hu : Sl σ F enc k u l2) (h0 : l2 ≠ []) (hb : (l1.length + l2.length) * by' ≤ 140737488355328) (hb2 : l1.length + l2.length ≤ 9223372036854775807) (ha : ats = T := by rfl) (ha2 : ats2 = T := by rfl) :
    OpT P σ n F ⟨dst, .call ⟨.builtin .append, #[x, y], #[ats, ats2]⟩, ty, pos, after, guard⟩ e [] (fun r ρ => ∃ a c, r = .slice a (l1 ++ l2).length c ∧ ρ = [(lab', slW E enc k r (l1 ++ l2))]) := by
  subst ha; subst ha2
  intro Q K aa w hr ho kk
  have ho' : Own σ F w := by simpa [rs] using ho
  obtain ⟨i, z, ht, hi, hz, hsz, hby, hzs, hk0⟩ := appB_spec hT
  subst hsz; subst hby
  have hfl1 := length_flat hE.len l1
  have hfl2 := length_flat hE.len l2
  have hlen : (l1 ++ l2).length = l1.length + l2.length := List.length_append
  have hpos : 0 < l2.length := List.length_pos_iff.2 h0
  obtain ⟨hm, hnn, _⟩ := hv.shape w ho'
  obtain ⟨_, _, hu'⟩ := hu.ent w ho'
  obtain ⟨_, _, hv'⟩ := hv.ent w ho'
  rcases hu' with ⟨a0, c0, rfl, hl2n⟩ | ⟨b2, o2, cap2, rfl, hle2, hra2⟩
  · simp at hl2n; exact absurd hl2n h0
  · have hnews : ∀ j q, (l2.map enc).flatten[j]? = some q → w.cell? ((⟨b2, o2, none⟩ : Addr).add j) = some q := fun j q hj => by rw [Addr.add_mid]; exact hra2 j q hj
    simp only [List.length_map] at hle2 hy ⊢
    have hgrow : ∀ cap0, (l1.length + l2.length ≤ grownCap w (l1.length + l2.length) cap0 E) ∧ grownCap w (l1.length + l2.length) cap0 E ≤ maxLen := fun cap0 =>
      ⟨grownCap_ge w _ cap0 E, grownCap_le_maxLen w _ cap0 E (by unfold maxLen; omega)⟩
    have hfr : ∀ cap0, Own σ (slW E enc i.size (.slice (some ⟨w.heap.size, 0, none⟩) (l1 ++ l2).length (grownCap w (l1.length + l2.length) cap0 E)) (l1 ++ l2) :: F) (w.drew.alloc (.cells ((l1.map enc).flatten.toArray ++ (l2.map enc).flatten.toArray ++ Builtin.zeroCells z.cells (grownCap w (l1.length + l2.length) cap0 E - (l1.length + l2.length))) E)) := fun cap0 =>
      own_fresh hE ho' hb2 (hgrow cap0).1 (hgrow cap0).2 (by rw [size_zeroCells, hzs])
    clear hgrow
    have fin : ∀ (cap0 : Nat), (Builtin.append_ #[ats2, ats2] ty #[.slice a m m, .slice (some ⟨b2, o2, none⟩) l2.length cap2]).run P w = .ok (.slice (some ⟨w.heap.size, 0, none⟩) (l1 ++ l2).length (grownCap w (l1.length + l2.length) cap0 E)) (w.drew.alloc (.cells ((l1.map enc).flatten.toArray ++ (l2.map enc).flatten.toArray ++ Builtin.zeroCells z.cells (grownCap w (l1.length + l2.length) cap0 E - (l1.length + l2.length))) E)) →
        (⟨dst, .call ⟨.builtin .append, #[x, y], #[ats2, ats2]⟩, ty, pos, after, guard⟩ : Oper).wp P aa w K Q := fun cap0 hrun => by
      have hexec : (execOp aa.eval ⟨dst, .call ⟨.builtin .append, #[x, y], #[ats2, ats2]⟩, ty, pos, after, guard⟩).run P w = .ok (.value (.slice (some ⟨w.heap.size, 0, none⟩) (l1 ++ l2).length (grownCap w (l1.length + l2.length) cap0 E))) (w.drew.alloc (.cells ((l1.map enc).flatten.toArray ++ (l2.map enc).flatten.toArray ++ Builtin.zeroCells z.cells (grownCap w (l1.length + l2.length) cap0 E - (l1.length + l2.length))) E)) := by
        simp [execOp, resolve, hr.ev hx, hr.ev hy, invoke, builtin, Sem.run_bind, hrun]
      unfold Oper.wp
      rw [hexec]
      exact kk _ _ _ ⟨_, _, rfl, rfl⟩ (hfr cap0)
    cases a with
    | none =>
      have hl10 : l1 = [] := hnn rfl
      subst hl10
      simp only [List.length_nil] at hm
      subst hm
      have hr2 := run_append_nil (P := P) w ats2 ty E i z ht hi hz ⟨b2, o2, none⟩ l2.length cap2 (l2.map enc).flatten hfl2 hnews hpos (by simp at hb2; omega) (by simp at hb; omega)
      refine fin 0 ?_
      simpa using hr2
    | some ad =>
      have holds : ∀ j q, (l1.map enc).flatten[j]? = some q → w.cell? (ad.add j) = some q := fun j q hj => by
        rcases hv' with ⟨a0, c0, hv', hl1n⟩ | ⟨b1, o1, cap1, hv', hle1, hra1⟩
        · rw [hl1n] at hj; simp at hj
        · simp at hv'
          obtain ⟨rfl, _, _⟩ := hv'
          rw [Addr.add_mid]; exact hra1 j q hj
      have hr2 := run_append_grow (P := P) w ats2 ty E i z ht hi hz ad l1.length m (l1.map enc).flatten hfl1 holds ⟨b2, o2, none⟩ l2.length cap2 (l2.map enc).flatten hfl2 hnews (by omega) (by omega) (growslice_fits (by omega) hb)
      refine fin m ?_
      rw [hm, hlen] at *
      exact hr2
theorem Sl.dropL {α : Type} {enc : α → List Value} {k : Nat} {a : Option Addr} {m c : Nat} {l : List α} (h : Sl σ F enc k (.slice a m c) l) {lo : Nat} (h2 : lo ≤ l.length) : Sl σ F enc k (.slice (SL.sub a c lo k) (l.length - lo) (c - lo)) (l.drop lo) := by
  have := Sl.sub h h2 (Nat.le_refl _)
  rwa [List.take_length] at this
theorem Sl.takeR {α : Type} {enc : α → List Value} {k : Nat} {a : Option Addr} {m c : Nat} {l : List α} (h : Sl σ F enc k (.slice a m c) l) {hi : Nat} (h2 : hi ≤ l.length) : Sl σ F enc k (.slice (SL.sub a c 0 k) (hi - 0) (c - 0)) (l.take hi) := by
  have := Sl.sub h (Nat.zero_le hi) h2
  rwa [List.drop_zero] at this
theorem sub_none {a : Option Addr} {c lo k : Nat} (h : SL.sub a c lo k = none) : a = none := by
  unfold SL.sub at h; split at h
  · exact h
  · simpa using h
end
end Go.SL
