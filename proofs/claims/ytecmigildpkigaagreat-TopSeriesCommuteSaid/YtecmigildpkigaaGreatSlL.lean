/- The first element of a slice is deleted in place. Conditions: none. -/
import Derived.Test.YtecmigildpkigaaGreatSlU
import Derived.Test.YtecmigildpkigaaGreatSlB
import Derived.Laws.CopyRow
namespace Go.SL
open Go Go.RowKit
set_option linter.unusedVariables false
set_option linter.unusedSimpArgs false
section
variable {P : Program} {σ : World} {n : Nat} {F : List Res} {e : Env} {dst : Option Tmp} {ty : TypeId} {pos : String} {after : Array Edge} {guard : Option (Nat × Bool)}
theorem slO_at {α : Type} {enc : α → List Value} {E k g c : Nat} {R : List α} {w : World} (ho : Own σ (slW E enc k (.slice (some ⟨g, 0, none⟩) R.length c) R :: F) w) (h0 : 0 < R.length) :
    ∃ cur : Array Value, w.heap[g]? = some (.cells cur E (0, 0)) ∧ R.length ≤ c ∧ c ≤ maxLen ∧ cur.size = c * k ∧ cur.toList.take (R.length * k) = (R.map enc).flatten := by
  obtain ⟨m, hm, hms⟩ := own_head ho
  obtain ⟨hk1, hl1, hv⟩ := hm
  rcases hv with ⟨hv, _⟩ | ⟨g', cap, cur, hv, rfl, h3, h4, h5, h6⟩
  · simp at hv
  · simp at hv
    obtain ⟨rfl, rfl⟩ := hv
    simp only [List.length_map] at h3 h6
    exact ⟨cur, hms.single, h3, h4, h5, h6⟩
theorem own_put {α : Type} {enc : α → List Value} {E k g c : Nat} {R S : List α} {w : World} {cur cur' : Array Value} (hE : ∀ a, (enc a).length = k) (ho : Own σ (slW E enc k (.slice (some ⟨g, 0, none⟩) R.length c) R :: F) w) (h0 : 0 < R.length)
    (hg : w.heap[g]? = some (.cells cur E (0, 0))) (hs : S.length ≤ c) (hc : c ≤ maxLen) (hsz : cur'.size = c * k) (ht : cur'.toList.take (S.length * k) = (S.map enc).flatten) :
    Own σ (slW E enc k (.slice (some ⟨g, 0, none⟩) S.length c) S :: F) (w.setRow g cur') := by
  refine Own.swap (b := g) (o' := _) ho (fun m hm => ?_) ?_ rfl rfl rfl (setRow_heap w g cur _ E _ hg) (fun j hj o' h => by rw [setRow_other w g j _ hj]; exact h)
  · obtain ⟨_, _, hv⟩ := hm
    rcases hv with ⟨hv, _⟩ | ⟨g', cap', cur', hv, rfl, _⟩
    · simp at hv
    · simp at hv; rw [← hv.1]; exact ⟨_, by simp [single]; rfl⟩
  · refine ⟨fun x hx => ?_, by rw [List.length_map]; omega, .inr ⟨g, c, cur', by rw [List.length_map], rfl, by rw [List.length_map]; exact hs, hc, hsz, by rw [List.length_map]; exact ht⟩⟩
    obtain ⟨y, _, rfl⟩ := List.mem_map.1 hx
    exact hE y
theorem op_shift {α : Type} {enc : α → List Value} {T E k by' g c lab : Nat} {x y : Operand} {R : List α} {ats ats2 : TypeId} (hx : ev e x = some (.slice (some ⟨g, 0, none⟩) 0 c)) (hy : ev e y = some (.slice (some ⟨g, k, none⟩) (R.length - 1) (c - 1))) (hT : appB P T E k by' = true) (hE : Enc1 enc k) (h2 : 1 ≤ R.length) (ha : ats = T := by rfl) (ha2 : ats2 = T := by rfl) :
    OpT P σ n F ⟨dst, .call ⟨.builtin .append, #[x, y], #[ats, ats2]⟩, ty, pos, after, guard⟩ e [(lab, slW E enc k (.slice (some ⟨g, 0, none⟩) R.length c) R)] (fun r ρ => r = .slice (some ⟨g, 0, none⟩) (R.drop 1).length c ∧ ρ = [(lab, slW E enc k (.slice (some ⟨g, 0, none⟩) (R.drop 1).length c) (R.drop 1))]) := by
  subst ha; subst ha2
  intro Q K a w hr ho kk
  obtain ⟨i, z, ht, hi, hz, hsz, hby, hzs, hk0⟩ := appB_spec hT
  obtain ⟨cur, hg, h3, h4, h5, h6⟩ := slO_at ho (by omega)
  subst hsz
  obtain ⟨news, hnews⟩ : ∃ news, news = ((R.drop 1).map enc).flatten := ⟨_, rfl⟩
  have hnl : news.length = (R.length - 1) * i.size := by rw [hnews, length_flat hE.len, List.length_drop]
  have hRl := length_flat hE.len R
  have hmul : R.length * i.size = i.size + (R.length - 1) * i.size := by
    obtain ⟨q, hq⟩ : ∃ q, R.length = q + 1 := ⟨R.length - 1, by omega⟩
    rw [hq, Nat.succ_mul]; simp; omega
  have hcm : R.length * i.size ≤ c * i.size := Nat.mul_le_mul_right _ h3
  have hcell : ∀ j u, news[j]? = some u → w.cell? ((⟨g, i.size, none⟩ : Addr).add j) = some u := fun j u hj => by
    rw [Addr.add_mid]
    simp only [World.cell?, hg]
    have hjl : j < news.length := (List.getElem?_eq_some_iff.1 hj).1
    have h7 : ((R.map enc).flatten.drop (1 * i.size))[j]? = some u := by
      rw [flatten_drop_uniform (xs := R.map enc) (i := 1) (fun x hx => by obtain ⟨y, _, rfl⟩ := List.mem_map.1 hx; exact hE.len y), ← List.map_drop, ← hnews]; exact hj
    rw [List.getElem?_drop, Nat.one_mul, ← h6, List.getElem?_take, if_pos (by omega)] at h7
    simpa using h7
  have hone : ∀ q ∈ news, q.oneCell' = true := fun q hq => by
    rw [hnews] at hq
    obtain ⟨x, hx, hqx⟩ := List.mem_flatten.1 hq
    obtain ⟨p, _, rfl⟩ := List.mem_map.1 hx
    exact hE.one p q hqx
  have hrun := run_append_room (P := P) w ats2 ty E i ht hi g 0 c cur hg ⟨g, i.size, none⟩ (R.length - 1) (c - 1) news hnl hcell hone (by omega) (by rw [Nat.zero_mul, Nat.zero_add, hnl, h5]; omega)
  rw [Nat.zero_mul, Nat.zero_add, Nat.zero_add, List.take_zero, List.nil_append] at hrun
  have hexec : (execOp a.eval ⟨dst, .call ⟨.builtin .append, #[x, y], #[ats2, ats2]⟩, ty, pos, after, guard⟩).run P w = .ok (.value (.slice (some ⟨g, 0, none⟩) (R.length - 1) c)) (w.setRow g (news ++ cur.toList.drop news.length).toArray) := by
    simp [execOp, resolve, hr.ev hx, hr.ev hy, invoke, builtin, Sem.run_bind, hrun]
  unfold Oper.wp
  rw [hexec]
  have hdl : (R.drop 1).length = R.length - 1 := List.length_drop ..
  refine kk _ _ _ ⟨by rw [hdl], rfl⟩ ?_
  show Own σ (slW E enc i.size (.slice (some ⟨g, 0, none⟩) (R.drop 1).length c) (R.drop 1) :: F) _
  refine own_put hE.len ho (by omega) hg (by omega) h4 ?_ ?_
  · simp only [List.size_toArray, List.length_append, List.length_drop, Array.length_toList]
    omega
  · have : (R.drop 1).length * i.size = news.length := by rw [hdl, hnl]
    rw [this, ← hnews]
    exact List.take_left
theorem op_slice3 {α : Type} {enc : α → List Value} {T E k lo hi mx : Nat} {x y z u : Operand} {a : Option Addr} {m c : Nat} {l : List α} (hx : ev e x = some (.slice a m c)) (hy : ev e y = some (.int .i64 lo)) (hz : ev e z = some (.int .i64 hi)) (hu2 : ev e u = some (.int .i64 mx)) (hT : sliceB P T E k = true)
    (h : Sl σ F enc k (.slice a m c) l) (h1 : lo ≤ hi) (h2 : hi ≤ mx) (h3 : mx ≤ l.length) : OpT P σ n F ⟨dst, .slice T x (some y) (some z) (some u), ty, pos, after, guard⟩ e [] (Det (.slice (SL.sub a mx lo k) (hi - lo) (mx - lo))) :=
  opt_run fun A w hr ho => by
    obtain ⟨i, hu, hi', hsz⟩ := sliceB_spec hT
    obtain ⟨hm, hn, hc⟩ := h.shape w ho
    have h3 : mx ≤ c := by omega
    have hs2 : (sizeOf E).run P w = .ok k w := by simp [sizeOf, typeInfo, hi', hsz]
    simp [execOp, hr.ev hx, hr.ev hy, hr.ev hz, hr.ev hu2, Instr.sliceAt, Instr.slice, run_underlying hu, Sem.run_bind, Instr.sliceBounds, Instr.sliceBound, asIntOf, h1, h2, h3, hs2, SL.sub]
/-- Beyond the length, within the room. -/
theorem op_reslice {T E k g m c : Nat} {x y z : Operand} (hx : ev e x = some (.slice (some ⟨g, 0, none⟩) m c)) (hy : ev e y = some (.int .i64 m)) (hz : ev e z = some (.int .i64 ((m + 1 : Nat) : Int))) (hT : sliceB P T E k = true) (hc : m + 1 ≤ c) :
    OpT P σ n F ⟨dst, .slice T x (some y) (some z) none, ty, pos, after, guard⟩ e [] (Det (.slice (some ⟨g, m * k, none⟩) 1 (c - m))) :=
  opt_run fun A w hr ho => by
    obtain ⟨i, hu, hi', hsz⟩ := sliceB_spec hT
    have hs2 : (sizeOf E).run P w = .ok k w := by simp [sizeOf, typeInfo, hi', hsz]
    have hne : ¬ c = m := by omega
    simp [execOp, hr.ev hx, hr.ev hy, hr.ev hz, Instr.sliceAt, Instr.slice, run_underlying hu, Sem.run_bind, Instr.sliceBounds, Instr.sliceBound, asIntOf, hc, hs2, hne, Addr.add_mid]
    omega
theorem op_clear1 {α : Type} {enc : α → List Value} {T E k by' g m c cc lab : Nat} {x : Operand} {R : List α} {vs : List Value} {ats : TypeId} (hx : ev e x = some (.slice (some ⟨g, m * k, none⟩) 1 cc)) (hT : appB P T E k by' = true) (hE : Enc1 enc k) (hm : R.length = m) (hm0 : 0 < m) (hmc : m + 1 ≤ c)
    (hz : ∀ i z, P.info? E = some i → i.zero = some z → (Builtin.zeroCells z.cells 1).toList = vs) (hone : ∀ u ∈ vs, u.oneCell' = true) (hvl : vs.length = k) (ha : ats = T := by rfl) :
    OpT P σ n F ⟨dst, .call ⟨.builtin .clear, #[x], #[ats]⟩, ty, pos, after, guard⟩ e [(lab, slW E enc k (.slice (some ⟨g, 0, none⟩) R.length c) R)] (fun r ρ => r = .tuple #[] ∧ ρ = [(lab, slW E enc k (.slice (some ⟨g, 0, none⟩) R.length c) R)]) := by
  subst ha; subst hm
  intro Q K a w hr ho kk
  obtain ⟨i, z, ht, hi, hzz, hsz, hby, hzs, hk0⟩ := appB_spec hT
  obtain ⟨cur, hg, h3, h4, h5, h6⟩ := slO_at ho hm0
  have hv := hz i z hi hzz
  have hmul : (R.length + 1) * k = R.length * k + k := Nat.succ_mul _ _
  have hcm : (R.length + 1) * k ≤ c * k := Nat.mul_le_mul_right _ hmc
  have hst := run_storeCells_at P g (R.length * k) E vs 0 cur w hg (by omega) hone
  simp only [Nat.add_zero] at hst
  have hzv : (zeroValue E).run P w = .ok z w := by simp [zeroValue, typeInfo, hi, hzz]
  have hrun : (Builtin.clear_ #[ats] ty #[.slice (some ⟨g, R.length * k, none⟩) 1 cc]).run P w = .ok (.tuple #[]) (w.setRow g (cur.toList.take (R.length * k) ++ vs ++ cur.toList.drop (R.length * k + vs.length)).toArray) := by
    simp [Builtin.clear_, run_underlying ht, hzv, hv, hst]
  have hexec : (execOp a.eval ⟨dst, .call ⟨.builtin .clear, #[x], #[ats]⟩, ty, pos, after, guard⟩).run P w = .ok (.value (.tuple #[])) (w.setRow g (cur.toList.take (R.length * k) ++ vs ++ cur.toList.drop (R.length * k + vs.length)).toArray) := by
    simp [execOp, resolve, hr.ev hx, invoke, builtin, Sem.run_bind, hrun]
  unfold Oper.wp
  rw [hexec]
  refine kk _ _ _ ⟨rfl, rfl⟩ ?_
  show Own σ (slW E enc k (.slice (some ⟨g, 0, none⟩) R.length c) R :: F) _
  refine own_put hE.len ho hm0 hg h3 h4 ?_ ?_
  · simp only [List.size_toArray, List.length_append, List.length_drop, List.length_take, Array.length_toList]
    omega
  · rw [List.append_assoc, h6]
    have : R.length * k = (R.map enc).flatten.length := (length_flat hE.len R).symm
    rw [this]
    exact List.take_left
end
end Go.SL
