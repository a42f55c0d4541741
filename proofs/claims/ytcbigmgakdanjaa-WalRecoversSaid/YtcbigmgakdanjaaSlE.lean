/- append of a string's bytes. Conditions: none. -/
import Derived.Test.YtcbigmgakdanjaaSlV
import Derived.Lib.AppendStr
namespace Go.SL
open Go Go.RowKit Go.Lib
set_option linter.unusedVariables false
set_option linter.unusedSimpArgs false
section
variable {P : Program} {σ : World} {n : Nat} {F : List Res} {e : Env} {R : RL} {dst : Option Tmp} {ty : TypeId} {pos : String} {after : Array Edge} {guard : Option (Nat × Bool)}
theorem strCells_flat (x : List UInt8) : strCells (str x) = (x.map encU).flatten := by
  rw [flat_encU]; unfold strCells str; simp
theorem run_appS {T U E : Nat} {v : Value} {l1 x : List UInt8} {w : World} (hT : appB P T E 1 1 = true) (hU : P.underlying U = some .string) (ho : Own σ (slW E encU 1 v l1 :: F) w)
    (hb : l1.length + x.length ≤ 140737488355328) :
    ∃ a c w', (Builtin.append_ #[T, U] ty #[v, .string (str x)]).run P w = .ok (.slice a (l1 ++ x).length c) w' ∧ Own σ (slW E encU 1 (.slice a (l1 ++ x).length c) (l1 ++ x) :: F) w' := by
  obtain ⟨i, z, ht, hi, hz, hsz, hby, hzs, hk0⟩ := appB_spec hT
  obtain ⟨m, hm, hms⟩ := own_head ho
  have hfl1 := length_flat enc1U.len l1
  have hfl2 := length_flat enc1U.len x
  have hlen : (l1 ++ x).length = l1.length + x.length := List.length_append
  have hss : (str x).size = x.length := str_size x
  obtain ⟨hk1, hl1, hv⟩ := hm
  clear hk1
  have hgrow : ∀ cap0, (l1.length + x.length ≤ grownCap w (l1.length + x.length) cap0 E) ∧ grownCap w (l1.length + x.length) cap0 E ≤ maxLen := fun cap0 =>
    ⟨grownCap_ge w _ cap0 E, grownCap_le_maxLen w _ cap0 E (by unfold maxLen; omega)⟩
  have hfr : ∀ cap0, Own σ (slW E encU 1 (.slice (some ⟨w.heap.size, 0, none⟩) (l1 ++ x).length (grownCap w (l1.length + x.length) cap0 E)) (l1 ++ x) :: F) (w.drew.alloc (.cells ((l1.map encU).flatten.toArray ++ (x.map encU).flatten.toArray ++ Builtin.zeroCells z.cells (grownCap w (l1.length + x.length) cap0 E - (l1.length + x.length))) E)) := fun cap0 =>
    own_fresh enc1U ho.tail (by omega) (hgrow cap0).1 (hgrow cap0).2 (by rw [size_zeroCells, hzs])
  rcases hv with ⟨rfl, hn⟩ | ⟨g, cap, cur, rfl, rfl, h3, h4, h5, h6⟩
  · have hl10 : l1 = [] := by simpa using hn
    subst hl10
    by_cases hz2 : x.length = 0
    · have hl20 : x = [] := List.eq_nil_of_length_eq_zero hz2
      subst hl20
      refine ⟨none, 0, w, ?_, ho⟩
      have hf := run_firstCells_string (P := P) w i.size (str [])
      rw [show (str []).size = 0 from rfl] at hf
      simp [Builtin.append_, run_underlying ht, run_underlying hU, sizeOf, typeInfo, hi, Builtin.lenOf, show (str []).size = 0 from rfl, hf]
    · have hr2 := run_append_nil_string (P := P) w T U ty E i z ht hU hi hz (str x) (by omega) (by omega) (by rw [hby, hss]; simp only [List.length_nil] at hb; omega)
      have h0 := hfr 0
      have e1 : ((str x).data.map fun b => Value.int .u8 b.toNat) = (x.map encU).flatten.toArray := by
        apply Array.ext'
        have := strCells_flat x
        unfold strCells at this
        simpa using this
      rw [e1, hss] at hr2
      simp only [List.length_nil, Nat.zero_add, List.nil_append, List.map_nil, List.flatten_nil, Array.empty_append] at h0 ⊢
      exact ⟨_, _, _, hr2, h0⟩
  · simp only [List.length_map] at h3 h5 h6 ho ⊢
    have hg := hms.single
    by_cases hroom : l1.length + x.length ≤ cap
    · have hr2 := run_append_room_string (P := P) w T U ty E i ht hU hi hsz g l1.length cap cur hg (str x) (by omega) (by omega)
      rw [hlen]
      rw [hss, strCells_flat] at hr2
      refine ⟨_, _, _, hr2, ?_⟩
      refine Own.swap (b := g) (o' := _) ho (fun m hm => ?_) ?_ rfl rfl rfl (setRow_heap w g cur _ E _ hg) (fun j hj o' h => by rw [setRow_other w g j _ hj]; exact h)
      · obtain ⟨_, _, hv⟩ := hm
        rcases hv with ⟨hv, _⟩ | ⟨g', cap', cur', hv, rfl, _⟩
        · simp at hv
        · simp at hv; rw [← hv.1]; exact ⟨_, by simp [single]; rfl⟩
      · have hall : ∀ c ∈ (l1 ++ x).map encU, c.length = 1 := fun c hc => by obtain ⟨q, _, rfl⟩ := List.mem_map.1 hc; rfl
        have hlm : ((l1 ++ x).map encU).length = l1.length + x.length := by rw [List.length_map, hlen]
        have hta : cur.toList.take l1.length = (l1.map encU).flatten := by simpa using h6
        refine ⟨hall, by rw [hlm]; unfold maxLen; omega, .inr ⟨g, cap, _, by rw [hlm], rfl, by rw [hlm]; exact hroom, h4, ?_, ?_⟩⟩
        · simp only [List.size_toArray, List.length_append, List.length_take, List.length_drop, Array.length_toList]
          omega
        · rw [hta, hlm]
          have h2 : (l1.length + x.length) * 1 = ((l1.map encU).flatten ++ (x.map encU).flatten).length := by rw [List.length_append, hfl1, hfl2]; omega
          rw [h2, List.map_append, List.flatten_append]
          exact List.take_left
    · have holds : ∀ j q, (l1.map encU).flatten[j]? = some q → w.cell? ((⟨g, 0, none⟩ : Addr).add j) = some q := fun j q hj => by
        rw [Addr.add_mid]
        simp only [World.cell?, hg]
        rw [← h6, List.getElem?_take] at hj
        split at hj
        · simpa using hj
        · simp at hj
      have hr2 := run_append_grow_string (P := P) w T U ty E i z ht hU hi hz ⟨g, 0, none⟩ l1.length cap (l1.map encU).flatten (by rw [hfl1, hsz]) holds (str x) (by omega) (by omega) (by rw [hby]; exact growslice_fits (by omega) (by omega))
      have h0 := hfr cap
      rw [hss, strCells_flat] at hr2
      rw [hlen] at h0 ⊢
      exact ⟨_, _, _, hr2, h0⟩
theorem op_appendS {T E U : Nat} {x y : Operand} {v : Value} {l1 l2 : List UInt8} {lab lab' : Nat} {ats : TypeId} (hx : ev e x = some v) (hy : ev e y = some (.string (str l2))) (hT : appB P T E 1 1 = true) (hU : P.underlying U = some .string)
    (hb : l1.length + l2.length ≤ 140737488355328) (ha : ats = T := by rfl) :
    OpT P σ n F ⟨dst, .call ⟨.builtin .append, #[x, y], #[ats, U]⟩, ty, pos, after, guard⟩ e [(lab, slW E encU 1 v l1)] (fun r ρ => ∃ a c, r = .slice a (l1 ++ l2).length c ∧ ρ = [(lab', slW E encU 1 r (l1 ++ l2))]) := by
  subst ha
  intro Q K a w hr ho kk
  obtain ⟨aa, c, w', hrun, hown⟩ := run_appS (ty := ty) hT hU ho hb
  have hexec : (execOp a.eval ⟨dst, .call ⟨.builtin .append, #[x, y], #[ats, U]⟩, ty, pos, after, guard⟩).run P w = .ok (.value (.slice aa (l1 ++ l2).length c)) w' := by
    simp [execOp, resolve, hr.ev hx, hr.ev hy, invoke, builtin, Sem.run_bind, hrun]
  unfold Oper.wp
  rw [hexec]
  exact kk _ _ _ ⟨_, _, rfl, rfl⟩ hown
theorem op_sub8 {t t2 : TypeId} {x y : Operand} {a b : Int} (hx : ev e x = some (.int .u8 a)) (hy : ev e y = some (.int .u8 b)) (h : 0 ≤ a - b ∧ a - b ≤ 255) : OpT P σ n F ⟨dst, .binOp .sub t x y t2, ty, pos, after, guard⟩ e [] (Det (.int .u8 (a - b))) := by
  have h' := op_sub (P := P) (σ := σ) (n := n) (F := F) (dst := dst) (ty := ty) (pos := pos) (after := after) (guard := guard) (t := t) (t2 := t2) hx hy
  rwa [show IntKind.u8.wrap (a - b) = a - b by simp [IntKind.bits, IntKind.wrap, IntKind.signed]; omega] at h'
/-! ### An array of bytes -/
def cu (x : UInt8) : Value := .int .u8 x.toNat
theorem flat_cu (l : List UInt8) : (l.map encU).flatten = l.map cu := by
  induction l with
  | nil => rfl
  | cons x l ih => simp [encU, cu] at ih ⊢; exact ih
theorem op_sliceArr {T len k b : Nat} {x : Operand} (hx : ev e x = some (.pointer (some ⟨b, 0, none⟩))) (ht : arrB P T len k = true) (h0 : 0 < len) :
    OpT P σ n F ⟨dst, .slice T x none none none, ty, pos, after, guard⟩ e [] (Det (.slice (some ⟨b, 0, none⟩) len len)) :=
  opt_run fun a w hr ho => by
    unfold arrB at ht
    split at ht
    · rename_i m E hu
      split at ht
      · rename_i inf hinf
        simp only [Bool.and_eq_true, beq_iff_eq] at ht
        obtain ⟨rfl, h2⟩ := ht
        have hsz : (sizeOf E).run P w = .ok k w := by simp [sizeOf, typeInfo, hinf, h2]
        have hne : ¬ m = 0 := by omega
        simp [execOp, hr.ev hx, Instr.sliceAt, Instr.sliceBounds, Sem.run_bind, run_underlying hu, Instr.sureAddr, hsz, hne, Addr.add_mid]
      · simp at ht
    · simp at ht
theorem Sl.cells {R : RL} {b T : Nat} {l : List UInt8} (lab : Nat) (h : getL R lab = some (cel b (l.map cu) T)) (hl : l.length ≤ maxLen) : Sl σ (rs R ++ F) encU 1 (.slice (some ⟨b, 0, none⟩) l.length l.length) l := by
  refine ⟨(Ent.lab (σ := σ) (F := F) h (says_cel 0)).mono fun w hw => ?_, hl⟩
  obtain ⟨b', o', e, hr⟩ := hw
  cases e
  refine ⟨fun c hc => by obtain ⟨x, _, rfl⟩ := List.mem_map.1 hc; rfl, by simpa using hl, .inr ⟨b, 0, l.length, by simp, by simp, ?_⟩⟩
  rw [flat_cu]
  simpa using hr
theorem Sl.cellsN {R : RL} {b T m : Nat} {l : List UInt8} (lab : Nat) (h : getL R lab = some (cel b (l.map cu) T)) (hm : l.length = m) (hl : m ≤ maxLen) : Sl σ (rs R ++ F) encU 1 (.slice (some ⟨b, 0, none⟩) m m) l := by
  subst hm; exact Sl.cells lab h hl
end
end Go.SL
