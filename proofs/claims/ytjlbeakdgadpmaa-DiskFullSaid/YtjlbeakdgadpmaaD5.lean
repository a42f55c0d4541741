/- Contracts: Start (layer 26). Conditions: none. -/
import Derived.Test.YtjlbeakdgadpmaaD4
import Derived.Test.YtjlbeakdgadpmaaSlU
namespace Go.Proofs.Ytjlbeakdgadpmaa
open Go Go.SL Go.RowKit Go.DskM
set_option linter.unusedVariables false
set_option linter.unusedSimpArgs false
theorem tA68e : aggB Try.prog 68 3 = true := by kernel_rfl
theorem tF65_1e : fieldB Try.prog 65 1 1 = true := by kernel_rfl
theorem tF65_2e : fieldB Try.prog 65 2 2 = true := by kernel_rfl
theorem tF65_3e : fieldB Try.prog 65 3 3 = true := by kernel_rfl
theorem tF65_4e : fieldB Try.prog 65 4 4 = true := by kernel_rfl
theorem tF68_0e : fieldB Try.prog 68 0 0 = true := by kernel_rfl
theorem tF68_1e : fieldB Try.prog 68 1 1 = true := by kernel_rfl
theorem tF68_2e : fieldB Try.prog 68 2 2 = true := by kernel_rfl
theorem tMixe : Try.prog.follows .mixedOrders = true := by kernel_rfl
theorem tN68e : (Try.prog.info? 68).bind (·.zero) = some (Value.agg #[Value.string .empty, Value.int .i64 0, Value.bool false]) := by kernel_rfl
theorem tO3e : oneB Try.prog 3 = true := by kernel_rfl
theorem tO4e : oneB Try.prog 4 = true := by kernel_rfl
theorem tO63e : oneB Try.prog 63 = true := by kernel_rfl
theorem tO9e : oneB Try.prog 9 = true := by kernel_rfl
theorem tQ63e : mapB Try.prog 63 9 68 KL.desc := ⟨Try.underlying63, Try.underlying9⟩
theorem tS41e : sliceB Try.prog 41 3 1 = true := by kernel_rfl
theorem tS48e : sliceB Try.prog 48 9 1 = true := by kernel_rfl
theorem tZ3e : (Try.prog.info? 3).map (·.size) = some 1 := by kernel_rfl
theorem tZ4e : (Try.prog.info? 4).map (·.size) = some 1 := by kernel_rfl
theorem tZ68e : (Try.prog.info? 68).map (·.size) = some 3 := by kernel_rfl
theorem tZ9e : (Try.prog.info? 9).map (·.size) = some 1 := by kernel_rfl

theorem setS_mid {k : Bs} {f f' : Fl} {R : Files} : ∀ {Q : Files}, (∀ p ∈ Q, p.1 < k) → setS (Q ++ (k, f) :: R) k f' = Q ++ (k, f') :: R
  | [], _ => by
    show setS ((k, f) :: R) k f' = _
    unfold setS; rw [if_neg (lt_irrefl k), if_pos rfl]; rfl
  | q :: Q, h => by
    have h1 := h q List.mem_cons_self
    show setS (q :: (Q ++ (k, f) :: R)) k f' = _
    unfold setS
    rw [if_neg (lt_asymm h1), if_neg (ne_of_lt h1).symm, setS_mid fun p hp => h p (List.mem_cons_of_mem _ hp)]; rfl
theorem delS_none {k : Bs} {Q : Files} (h : ∀ p ∈ Q, p.1 ≠ k) : delS Q k = Q := List.filter_eq_self.2 fun p hp => decide_eq_true (h p hp)
theorem delS_mid {k : Bs} {f : Fl} {Q R : Files} (h : ∀ p ∈ Q, p.1 < k) (h2 : ∀ p ∈ R, k < p.1) : delS (Q ++ (k, f) :: R) k = Q ++ R := by
  unfold delS
  rw [List.filter_append, List.filter_cons]
  have h3 := delS_none fun p hp => ne_of_lt (h p hp)
  have h4 := delS_none fun p hp => (ne_of_lt (h2 p hp)).symm
  unfold delS at h3 h4
  rw [h3, h4]; simp
/-- What Start has done, and what is left. -/
structure SInv (fs : Files) (sc : List Int) (i : Nat) (r : List Int) (D : Files) : Prop where
  ex : ∃ Q, startF fs sc = Q ++ startF (fs.drop i) r ∧ D.Perm (Q ++ fs.drop i) ∧ (∀ p ∈ Q, ∀ q ∈ fs.drop i, p.1 < q.1) ∧ DskM.Inc Q
theorem SInv.init {fs : Files} {sc : List Int} {D : Files} (h : D.Perm fs) : SInv fs sc 0 sc D := ⟨[], by simp, by simpa using h, by simp, List.Pairwise.nil⟩
theorem SInv.fin {fs : Files} {sc : List Int} {i : Nat} {r : List Int} {D : Files} (h : SInv fs sc i r D) (hi : fs.length ≤ i) : D.Perm (startF fs sc) := by
  obtain ⟨Q, h1, h2, _⟩ := h.ex
  rw [List.drop_of_length_le hi] at h1 h2
  rw [h1]; simpa [startF] using h2
theorem drop_at {fs : Files} {i : Nat} {p : Bs × Fl} (h : fs[i]? = some p) : fs.drop i = p :: fs.drop (i + 1) := by
  obtain ⟨hi, rfl⟩ := List.getElem?_eq_some_iff.1 h
  exact (List.drop_eq_getElem_cons hi)
section
variable {fs : Files} {sc : List Int} {i : Nat} {r : List Int} {D : Files} {p : Bs × Fl}
theorem inc_mid {Q R : Files} (hi : DskM.Inc fs) (hx : fs[i]? = some p) (h3 : ∀ p ∈ Q, ∀ q ∈ fs.drop i, p.1 < q.1) (h4 : DskM.Inc Q) : DskM.Inc (Q ++ p :: fs.drop (i + 1)) ∧ (∀ q ∈ Q, q.1 < p.1) ∧ (∀ q ∈ fs.drop (i + 1), p.1 < q.1) := by
  rw [drop_at hx] at h3
  have h5 : DskM.Inc (p :: fs.drop (i + 1)) := by rw [← drop_at hx]; exact List.Pairwise.drop hi
  exact ⟨List.pairwise_append.2 ⟨h4, h5, h3⟩, fun q hq => h3 q hq p List.mem_cons_self, (List.pairwise_cons.1 h5).1⟩
theorem SInv.look (h : SInv fs sc i r D) (hi : DskM.Inc fs) (hx : fs[i]? = some p) : lookK KL D p.1 = some p.2 := by
  obtain ⟨Q, h1, h2, h3, h4⟩ := h.ex
  rw [drop_at hx] at h2
  obtain ⟨h5, _, _⟩ := inc_mid (R := []) hi hx h3 h4
  rw [look_perm h2 ((h2.map Prod.fst).nodup_iff.2 h5.nod)]
  exact find_of h5 (by simp)
theorem SInv.lost (h : SInv fs sc i r D) (hi : DskM.Inc fs) (hx : fs[i]? = some p) (hd : p.2.dur = false) : SInv fs sc (i + 1) r (delK KL D p.1) := by
  obtain ⟨Q, h1, h2, h3, h4⟩ := h.ex
  obtain ⟨h5, h6, h7⟩ := inc_mid (R := []) hi hx h3 h4
  rw [drop_at hx] at h1 h2
  have h8 : startF (p :: fs.drop (i + 1)) r = startF (fs.drop (i + 1)) r := by
    conv => lhs; unfold startF
    rw [if_neg (by simp [hd])]
  rw [h8] at h1
  refine ⟨Q, h1, ?_, fun a ha b hb => lt_trans (h6 a ha) (h7 b hb), h4⟩
  have := del_perm h2 h5 p.1
  rwa [show (Q ++ p :: fs.drop (i + 1)) = (Q ++ (p.1, p.2) :: fs.drop (i + 1)) from rfl, delS_mid h6 h7] at this
theorem SInv.same (h : SInv fs sc i r D) (hi : DskM.Inc fs) (hx : fs[i]? = some p) (hd : p.2.dur = true) (hz : p.2.data.length - p.2.syn = 0) : SInv fs sc (i + 1) r D := by
  obtain ⟨Q, h1, h2, h3, h4⟩ := h.ex
  obtain ⟨h5, h6, h7⟩ := inc_mid (R := []) hi hx h3 h4
  rw [drop_at hx] at h1 h2
  have h8 : startF (p :: fs.drop (i + 1)) r = p :: startF (fs.drop (i + 1)) r := by
    conv => lhs; unfold startF
    rw [if_pos hd, if_pos hz]
  rw [h8] at h1
  refine ⟨Q ++ [p], by rw [h1]; simp, by simpa using h2, fun a ha b hb => ?_, List.pairwise_append.2 ⟨h4, List.pairwise_singleton _ _, fun a ha b hb => ?_⟩⟩
  · rcases List.mem_append.1 ha with ha | ha
    · exact lt_trans (h6 a ha) (h7 b hb)
    · simp at ha; subst ha; exact h7 b hb
  · simp at hb; subst hb; exact h6 a ha
theorem SInv.cut_ {x : Int} (h : SInv fs sc i r D) (hi : DskM.Inc fs) (hx : fs[i]? = some p) (hd : p.2.dur = true) (hz : ¬ p.2.data.length - p.2.syn = 0) (hr : r.head?.getD 0 = x) : SInv fs sc (i + 1) r.tail (setK KL D p.1 (cut p.2 x)) := by
  obtain ⟨Q, h1, h2, h3, h4⟩ := h.ex
  obtain ⟨h5, h6, h7⟩ := inc_mid (R := []) hi hx h3 h4
  rw [drop_at hx] at h1 h2
  have h8 : startF (p :: fs.drop (i + 1)) r = (p.1, cut p.2 x) :: startF (fs.drop (i + 1)) r.tail := by
    conv => lhs; unfold startF
    rw [if_pos hd, if_neg hz, hr]
  rw [h8] at h1
  refine ⟨Q ++ [(p.1, cut p.2 x)], by rw [h1]; simp, ?_, fun a ha b hb => ?_, List.pairwise_append.2 ⟨h4, List.pairwise_singleton _ _, fun a ha b hb => ?_⟩⟩
  · have := set_perm h2 h5 p.1 (cut p.2 x)
    rw [show (Q ++ p :: fs.drop (i + 1)) = (Q ++ (p.1, p.2) :: fs.drop (i + 1)) from rfl, setS_mid h6] at this
    simpa using this
  · rcases List.mem_append.1 ha with ha | ha
    · exact lt_trans (h6 a ha) (h7 b hb)
    · simp at ha; subst ha; exact h7 b hb
  · simp at hb; subst hb; exact h6 a ha
end
theorem sta_down {s : St} {sc : List Int} (h : s.down = true) : staO s sc = { s with fs := startF s.fs sc, down := false, lim := false, left := 0 } := by unfold staO; rw [if_pos h]
theorem sta_up {s : St} {sc : List Int} (h : s.down = false) : staO s sc = s := by unfold staO; rw [if_neg (by simp [h])]
set_option maxHeartbeats 2000000 in
set_option maxRecDepth 100000 in
theorem start_any {σ : World} {F : List Res} {b m : Nat} {s : St} {l : Files} {a : Option Addr} {c : Nat} {sc : List Int} (hg : DskM.Good s) (hp : l.Perm s.fs) (hsc : Sl σ F SL.encZ 1 (.slice a sc.length c) sc) :
    FnT Try.prog σ F 26 [.pointer (some ⟨b, 0, none⟩), .slice a sc.length c] [(601, cel b (cellD s m) 65), (602, mp KL encF m l)] (fun u ρ => ∃ l', l'.Perm (staO s sc).fs ∧ u = .tuple #[] ∧ ρ = [(601, cel b (cellD (staO s sc) m) 65), (602, mp KL encF m l')]) := by
  refine fn_of 97 Try.func26 rfl Try.ntmps26 rfl ?_
  have huse := hg.use
  have hcap := hg.cap
  have hcnt := hg.cnt
  have hkl : (keysOf s.fs).length = s.fs.length := by simp [keysOf]
  refine w_seq ?_
  refine w_seq ?_
  refine w_region ?_
  refine wl_det rfl rfl rfl (op_move rfl) ?_
  refine wl_det rfl rfl rfl (op_val (v' := .bool false) (by simp) (op_eqPtr rfl Try.underlying22)) ?_
  refine wl_det rfl rfl rfl (op_move rfl) ?_
  refine wl_wanted_det rfl rfl rfl rfl rfl rfl rfl (op_move rfl) ?_
  refine wl_wanted_det rfl rfl rfl rfl rfl rfl rfl (op_nilCheck rfl) ?_
  refine wl_wanted_det rfl rfl rfl rfl rfl rfl rfl (op_fieldAddr (off := 2) rfl tF65_2e) ?_
  refine wl_wanted_det rfl rfl rfl rfl rfl rfl rfl (op_load1 rfl tO4e (Ent.lab (l := 601) rfl (says_cel 2))) ?_
  refine wl_wanted_det rfl rfl rfl rfl rfl rfl rfl (op_not rfl) ?_
  refine wl_det rfl rfl rfl (op_pick_f rfl rfl) ?_
  refine wl_nil ?_
  refine st_tn ?_
  refine w_cond rfl (fun hc18 => ?_) (fun hc18 => ?_)
  · -- c18.t
    refine w_ret ?_
    refine st_tr ?_
    refine st_ret (vs := []) [601, 602] Try.results26 trivial rfl ?_
    refine ⟨[(601, _), (602, _)], rfl, ?_⟩
    rw [sta_up (by simpa using hc18)]; exact ⟨l, hp, rfl, rfl⟩
  · -- c18.f
    have hdn : s.down = true := by simpa using hc18
    refine w_skip ?_
    refine st_tn ?_
    refine w_seq ?_
    refine w_seq ?_
    refine w_region ?_
    refine wl_det rfl rfl rfl (op_move rfl) ?_
    refine wl_det rfl rfl rfl (op_nilCheck rfl) ?_
    refine wl_det rfl rfl rfl (op_fieldAddr (off := 1) rfl tF65_1e) ?_
    refine wl_det rfl rfl rfl (op_load1 rfl tO63e (Ent.lab (l := 601) rfl (says_cel 1))) ?_
    refine wl_op [] rfl rfl rfl rfl (op_fn Try.func44 rfl rfl rfl (keys_any 23)) ?_
    rintro _ _ ⟨b23, rfl, rfl⟩
    refine wl_op [] rfl rfl rfl rfl (op_fn Try.func43 rfl rfl rfl (sortedK 24 (Ent.lab (l := 23) rfl (says_cel 0)) (Mr.lab 602 rfl) hp hg.inc (name_len hg) hg.cnt)) ?_
    rintro _ _ ⟨a24, c24, rfl, rfl⟩
    refine wl_det rfl rfl rfl (op_lenT rfl tS48e (Sl.ent (Sl.lab 24 rfl (by unfold maxLen; omega)))) ?_
    refine wl_det rfl rfl rfl (op_move rfl) ?_
    refine wl_nil ?_
    refine st_tn ?_
    refine w_block ?_
    refine w_loopQ (X := List Int × Option Addr × Nat × Nat × List (Bs × Fl)) (fun z => z.2.2.2.1 ≤ s.fs.length ∧ Sl σ F SL.encZ 1 (.slice z.2.1 z.1.length z.2.2.1) z.1 ∧ SInv s.fs sc z.2.2.2.1 z.1 z.2.2.2.2) (fun z => [(1, .slice (z.2.1) (z.1).length (z.2.2.1)), (26, .int .i64 (z.2.2.2.1))]) (fun z => [(602, mp KL encF m (z.2.2.2.2))]) (fun z => s.fs.length - z.2.2.2.1) ((sc, a, c, 0, l)) [(0, _), (24, _), (25, _)] [(601, _), (23, _), (24, _)] [602, 601, 23, 24] rfl (rfl) (.cons rfl (.cons rfl (.nil _))) (.cons rfl (.cons rfl (.cons rfl (.nil _)))) (by
        try dsimp only
        exact ⟨Nat.zero_le _, hsc, SInv.init hp⟩) ?_
    rintro ⟨r, a_r, c_r, i, D⟩ ⟨hi, hsr, hI⟩
    refine w_norm2 (by dsimp only [List.cons_append, List.nil_append]) (by dsimp only [List.cons_append, List.nil_append]) ?_
    try dsimp only at hi hsr hI ⊢
    refine w_seq ?_
    refine w_region ?_
    refine wl_det rfl rfl rfl (op_lss rfl rfl) ?_
    refine wl_nil ?_
    refine st_tn ?_
    refine w_seq ?_
    refine w_cond_d rfl (fun hc27 => ?_) (fun hc27 => ?_)
    · -- c27.t
      obtain ⟨p, hx⟩ := getE (l := s.fs) (i := i) (by omega)
      have hk : (keysOf s.fs)[i]? = some p.1 := by rw [keysOf, List.getElem?_map, hx]; rfl
      have hlook := hI.look hg.inc hx
      have hpm := List.mem_of_getElem? hx
      have hsy : p.2.syn ≤ p.2.data.length := hg.syn p hpm
      have hpl : p.2.data.length ≤ used s.fs := le_used hpm
      refine w_skip ?_
      refine st_tn ?_
      refine w_seq ?_
      refine w_block ?_
      refine w_seq ?_
      refine w_region ?_
      refine wl_det rfl rfl rfl (op_idx rfl rfl tS48e (Sl.ent (Sl.lab 24 rfl (by unfold maxLen; omega))) (by omega)) ?_
      refine wl_det rfl rfl rfl (op_ldx rfl tO9e (Sl.lab 24 rfl (by unfold maxLen; omega)) (by assumption) (by rfl)) ?_
      refine wl_det rfl rfl rfl (op_assign rfl) ?_
      refine wl_nil ?_
      refine st_tn ?_
      refine w_seq ?_
      refine w_region ?_
      refine wl_det rfl rfl rfl (op_move rfl) ?_
      refine wl_det rfl rfl rfl (op_nilCheck rfl) ?_
      refine wl_det rfl rfl rfl (op_fieldAddr (off := 1) rfl tF65_1e) ?_
      refine wl_det rfl rfl rfl (op_load1 rfl tO63e (Ent.lab (l := 601) rfl (says_cel 1))) ?_
      refine wl_det rfl rfl rfl (op_move rfl) ?_
      refine wl_det rfl rfl rfl (op_val (v' := encF p.2) (by rw [hlook]; rfl) (op_lookup (kt := KL) (encV := encF) rfl rfl tQ63e tN68e (Mr.lab 602 rfl))) ?_
      refine wl_op [] rfl rfl rfl rfl (op_alloc (l := 6) tN68e) ?_
      rintro _ _ ⟨b6, rfl, rfl⟩
      refine wl_op0 [6] rfl rfl rfl (op_store rfl rfl tZ68e (by rfl) (by rfl) (by exact Nat.le_of_ble_eq_true rfl)) ?_
      rintro _ _ ⟨rfl, rfl⟩
      refine wl_nil ?_
      refine st_tn ?_
      refine w_seq ?_
      refine w_seq ?_
      refine w_region ?_
      refine wl_det rfl rfl rfl (op_fieldAddr (off := 2) rfl tF68_2e) ?_
      refine wl_det rfl rfl rfl (op_load1 rfl tO4e (Ent.lab (l := 6) rfl (says_cel 2))) ?_
      refine wl_det rfl rfl rfl (op_not rfl) ?_
      refine wl_nil ?_
      refine st_tn ?_
      refine w_cond rfl (fun hc38 => ?_) (fun hc38 => ?_)
      · -- c38.t
        refine w_seq ?_
        refine w_region ?_
        refine wl_det rfl rfl rfl (op_move rfl) ?_
        refine wl_det rfl rfl rfl (op_nilCheck rfl) ?_
        refine wl_det rfl rfl rfl (op_fieldAddr (off := 1) rfl tF65_1e) ?_
        refine wl_det rfl rfl rfl (op_load1 rfl tO63e (Ent.lab (l := 601) rfl (says_cel 1))) ?_
        refine wl_det rfl rfl rfl (op_move rfl) ?_
        refine wl_op0 [602] rfl rfl rfl (op_delete (kt := KL) (encV := encF) (lab := 602) rfl rfl tQ63e) ?_
        rintro _ _ ⟨rfl, rfl⟩
        refine wl_nil ?_
        refine st_tn ?_
        refine w_exit ?_
        refine st_te ?_
        refine st_be ?_
        refine st_tn ?_
        refine w_region ?_
        refine wl_det rfl rfl rfl (op_add' rfl rfl (by omega)) ?_
        refine wl_det rfl rfl rfl (op_move rfl) ?_
        refine wl_nil ?_
        refine st_roundQ (x := (r, a_r, c_r, i, D)) ((r, _, _, i + 1, delK KL D p.1)) [602, 601, 23, 24] rfl (rfl) (.cons rfl (.cons rfl (.nil _))) (.cons rfl (.cons rfl (.cons rfl (.nil _)))) (by
            try dsimp only
            exact ⟨by omega, hsr, hI.lost hg.inc hx (by simpa using hc38)⟩) (by
            try dsimp only
            omega) 
      · -- c38.f
        refine w_skip ?_
        refine st_tn ?_
        refine w_seq ?_
        refine w_region ?_
        refine wl_det rfl rfl rfl (op_fieldAddr (off := 0) rfl tF68_0e) ?_
        refine wl_det rfl rfl rfl (op_load1 rfl tO9e (Ent.lab (l := 6) rfl (says_cel 0))) ?_
        refine wl_det rfl rfl rfl (op_lenBs rfl Try.underlying9) ?_
        refine wl_det rfl rfl rfl (op_fieldAddr (off := 1) rfl tF68_1e) ?_
        refine wl_det rfl rfl rfl (op_load1 rfl tO3e (Ent.lab (l := 6) rfl (says_cel 1))) ?_
        refine wl_det rfl rfl rfl (op_val (v' := .int .i64 ((p.2.data.length - p.2.syn : Nat) : Int)) (by congr 1; omega) (op_sub' rfl rfl (by omega))) ?_
        refine wl_det rfl rfl rfl (op_assign rfl) ?_
        refine wl_nil ?_
        refine st_tn ?_
        refine w_seq ?_
        refine w_seq ?_
        refine w_region ?_
        refine wl_det rfl rfl rfl (op_move rfl) ?_
        refine wl_det rfl rfl rfl (op_eql rfl rfl) ?_
        refine wl_nil ?_
        refine st_tn ?_
        refine w_cond_d rfl (fun hc51 => ?_) (fun hc51 => ?_)
        · -- c51.t
          refine w_exit ?_
          refine st_te ?_
          refine st_be ?_
          refine st_tn ?_
          refine w_region ?_
          refine wl_det rfl rfl rfl (op_add' rfl rfl (by omega)) ?_
          refine wl_det rfl rfl rfl (op_move rfl) ?_
          refine wl_nil ?_
          refine st_roundQ (x := (r, a_r, c_r, i, D)) ((r, _, _, i + 1, D)) [602, 601, 23, 24] rfl (rfl) (.cons rfl (.cons rfl (.nil _))) (.cons rfl (.cons rfl (.cons rfl (.nil _)))) (by
              try dsimp only
              exact ⟨by omega, hsr, hI.same hg.inc hx (by simpa using hc38) (by omega)⟩) (by
              try dsimp only
              omega) 
        · -- c51.f
          refine w_skip ?_
          refine st_tn ?_
          refine w_seq ?_
          refine w_region ?_
          refine wl_det rfl rfl rfl (op_assign rfl) ?_
          refine wl_nil ?_
          refine st_tn ?_
          refine w_seq ?_
          refine w_seq ?_
          refine w_region ?_
          refine wl_det rfl rfl rfl (op_move rfl) ?_
          refine wl_det rfl rfl rfl (op_lenT rfl tS41e (Sl.ent (by first | exact Sl.app (by assumption) _ | exact Sl.app (Sl.app (by assumption) _) _))) ?_
          refine wl_det rfl rfl rfl (op_gtr rfl rfl) ?_
          refine wl_nil ?_
          refine st_tn ?_
          refine w_cond_d rfl (fun hc54 => ?_) (fun hc54 => ?_)
          · -- c54.t
            obtain ⟨x, hx0⟩ := getE (l := r) (i := 0) (by omega)
            have hhd : r.head?.getD 0 = x := by rw [List.head?_eq_getElem?, hx0]; rfl
            have hks := keep_spec x (p.2.data.length - p.2.syn)
            refine w_drawW (fun β => [⟨55, [], [], [], noW (_), false, [], []⟩, ⟨56, [0], [], [], noW (_), false, [], []⟩, ⟨57, [1], [], [], noW (_), false, [], []⟩, ⟨58, [], [], [], noW (_), false, [], []⟩, ⟨59, [3], [], [], noW (_), false, [], []⟩, ⟨8, [2], [], [], noW (_), false, [], []⟩]) [] [1] [⟨55, [], [], false, [], []⟩, ⟨56, [0], [], false, [], []⟩, ⟨57, [1], [], false, [], []⟩, ⟨58, [], [], false, [], []⟩, ⟨59, [3], [], false, [], []⟩, ⟨8, [2], [], false, [], []⟩] [[], [], [], [], [], []] [[], [], [], [], [], []] tMixe (fun _ => by rfl) (fun _ => by rfl) (by kernel_rfl) (by kernel_rfl) (by rfl) (by rfl)
                (fun β => ⟨.p rfl (by intro X; exact op_move rfl),
                ⟨.p rfl (by intro X; rintro _ _ ⟨rfl, rfl⟩; exact op_idx (i := 0) rfl rfl tS41e (Sl.ent (Sl.app (Sl.app hsr X) _)) (by omega)),
                ⟨.p rfl (by intro X; rintro _ _ ⟨rfl, rfl⟩; exact op_ldx rfl tO3e (by first | exact Sl.app (by assumption) _ | exact Sl.app (Sl.app (by assumption) _) _) (by assumption) (by rfl)),
                ⟨.p rfl (by intro X; exact op_move rfl),
                ⟨.p rfl (by intro X; rintro _ _ ⟨rfl, rfl⟩; exact op_val (v' := .slice (SL.sub a_r c_r 1 1) r.tail.length (c_r - 1)) (by rw [List.length_tail]) (op_sliceL (lo := 1) (l := r) rfl rfl tS41e (Sl.app (Sl.app hsr X) _) (by omega))),
                ⟨.p rfl (by intro X; rintro _ _ ⟨rfl, rfl⟩; exact op_assign rfl),
                trivial⟩⟩⟩⟩⟩⟩)
                (fun β β' => ⟨fun _ => by rfl, ⟨fun _ => by rfl, ⟨fun _ => by rfl, ⟨fun _ => by rfl, ⟨fun _ => by rfl, ⟨fun _ => by rfl, trivial⟩⟩⟩⟩⟩⟩) ?_
            intro β
            rintro _ _ ⟨rfl, rfl⟩ _ _ ⟨rfl, rfl⟩ _ _ ⟨rfl, rfl⟩ _ _ ⟨rfl, rfl⟩ _ _ ⟨rfl, rfl⟩ _ _ ⟨rfl, rfl⟩
            refine wl_norm (e' := [(0, _), (5, _), (6, _), (7, _), (8, _), (24, _), (25, _), (26, _), (59, _)]) (.cons rfl (.cons rfl (.cons rfl (.cons rfl (.cons rfl (.cons rfl (.cons rfl (.cons rfl (.cons rfl (.nil _)))))))))) (by dsimp only [cond_false, cond_true, List.nil_append, List.cons_append]) ?_
            refine wl_det rfl rfl rfl (op_assign rfl) ?_
            refine wl_nil ?_
            refine st_tn ?_
            refine w_seq ?_
            refine w_region ?_
            refine wl_det rfl rfl rfl (op_move rfl) ?_
            refine wl_det rfl rfl rfl (op_move rfl) ?_
            refine wl_det rfl rfl rfl (op_add' rfl rfl (by omega)) ?_
            refine wl_det rfl rfl rfl (op_rem rfl rfl (by omega)) ?_
            refine wl_det rfl rfl rfl (op_assign rfl) ?_
            refine wl_nil ?_
            refine st_tn ?_
            refine w_seq ?_
            refine w_seq ?_
            refine w_region ?_
            refine wl_det rfl rfl rfl (op_move rfl) ?_
            refine wl_det rfl rfl rfl (op_lss rfl rfl) ?_
            refine wl_nil ?_
            refine st_tn ?_
            refine w_cond_d rfl (fun hc65 => ?_) (fun hc65 => ?_)
            · -- c65.t
              have hkk : ((keep x (p.2.data.length - p.2.syn) : Nat) : Int) = x.tmod (((p.2.data.length - p.2.syn : Nat) : Int) + 1) + (((p.2.data.length - p.2.syn : Nat) : Int) + 1) := by rw [hks.1, if_pos hc65]
              have hkl2 := hks.2
              refine w_region ?_
              refine wl_det rfl rfl rfl (op_move rfl) ?_
              refine wl_det rfl rfl rfl (op_move rfl) ?_
              refine wl_det rfl rfl rfl (op_add' rfl rfl (by omega)) ?_
              refine wl_det rfl rfl rfl (op_add' rfl rfl (by omega)) ?_
              refine wl_det rfl rfl rfl (op_assign rfl) ?_
              refine wl_nil ?_
              refine st_tn ?_
              refine w_seq ?_
              refine w_region ?_
              refine wl_det rfl rfl rfl (op_fieldAddr (off := 1) rfl tF68_1e) ?_
              refine wl_det rfl rfl rfl (op_load1 rfl tO3e (Ent.lab (l := 6) rfl (says_cel 1))) ?_
              refine wl_det rfl rfl rfl (op_move rfl) ?_
              refine wl_det rfl rfl rfl (op_val (v' := .int .i64 ((p.2.syn + keep x (p.2.data.length - p.2.syn) : Nat) : Int)) (by congr 1; omega) (op_add' rfl rfl (by omega))) ?_
              refine wl_det rfl rfl rfl (op_fieldAddr (off := 1) rfl tF68_1e) ?_
              refine wl_op0 [6] rfl rfl rfl (op_store rfl rfl tZ3e (by rfl) (by rfl) (by exact Nat.le_of_ble_eq_true rfl)) ?_
              rintro _ _ ⟨rfl, rfl⟩
              refine wl_nil ?_
              refine st_tn ?_
              refine w_seq ?_
              refine w_region ?_
              refine wl_det rfl rfl rfl (op_fieldAddr (off := 0) rfl tF68_0e) ?_
              refine wl_det rfl rfl rfl (op_load1 rfl tO9e (Ent.lab (l := 6) rfl (says_cel 0))) ?_
              refine wl_det rfl rfl rfl (op_fieldAddr (off := 1) rfl tF68_1e) ?_
              refine wl_det rfl rfl rfl (op_load1 rfl tO3e (Ent.lab (l := 6) rfl (says_cel 1))) ?_
              refine wl_det rfl rfl rfl (op_sliceRBs rfl rfl Try.underlying9 (by omega)) ?_
              refine wl_det rfl rfl rfl (op_fieldAddr (off := 0) rfl tF68_0e) ?_
              refine wl_op0 [6] rfl rfl rfl (op_store rfl rfl tZ9e (by rfl) (by rfl) (by exact Nat.le_of_ble_eq_true rfl)) ?_
              rintro _ _ ⟨rfl, rfl⟩
              refine wl_nil ?_
              refine st_tn ?_
              refine w_drawW (fun β => [⟨81, [], [], [], noW (_), false, [], []⟩, ⟨82, [0], [], [], noW (_), false, [], []⟩, ⟨83, [1], [], [], noW (_), false, [], []⟩, ⟨84, [2], [], [], noW (_), false, [], []⟩, ⟨85, [], [], [], noW (_), false, [], []⟩, ⟨86, [], [], [], noW (_), false, [], []⟩]) [] [0, 5, 6] [⟨81, [], [], false, [], []⟩, ⟨82, [0], [], false, [], []⟩, ⟨83, [1], [], false, [], []⟩, ⟨84, [2], [], false, [], []⟩, ⟨85, [], [], false, [], []⟩, ⟨86, [], [], false, [], []⟩] [[], [], [], [], [], []] [[], [], [], [], [], []] tMixe (fun _ => by rfl) (fun _ => by rfl) (by kernel_rfl) (by kernel_rfl) (by rfl) (by rfl)
                  (fun β => ⟨.p rfl (by intro X; exact op_move rfl),
                  ⟨.p rfl (by intro X; rintro _ _ ⟨rfl, rfl⟩; exact op_nilCheck rfl),
                  ⟨.p rfl (by intro X; rintro _ _ ⟨rfl, rfl⟩; exact op_fieldAddr (off := 1) rfl tF65_1e),
                  ⟨.p rfl (by intro X; rintro _ _ ⟨rfl, rfl⟩; exact op_load1 rfl tO63e (Ent.lab (l := 601) rfl (says_cel 1))),
                  ⟨.p rfl (by intro X; exact op_move rfl),
                  ⟨.p rfl (by intro X; exact op_loadA rfl tA68e (Ent.lab (l := 6) rfl (says_cel 0)) (Nat.le_of_ble_eq_true rfl)),
                  trivial⟩⟩⟩⟩⟩⟩)
                  (fun β β' => ⟨fun _ => by rfl, ⟨fun _ => by rfl, ⟨fun _ => by rfl, ⟨fun _ => by rfl, ⟨fun _ => by rfl, ⟨fun _ => by rfl, trivial⟩⟩⟩⟩⟩⟩) ?_
              intro β
              rintro _ _ ⟨rfl, rfl⟩ _ _ ⟨rfl, rfl⟩ _ _ ⟨rfl, rfl⟩ _ _ ⟨rfl, rfl⟩ _ _ ⟨rfl, rfl⟩ _ _ ⟨rfl, rfl⟩
              refine wl_norm (e' := [(0, _), (1, _), (24, _), (25, _), (26, _), (84, _), (85, _), (86, _)]) (.cons rfl (.cons rfl (.cons rfl (.cons rfl (.cons rfl (.cons rfl (.cons rfl (.cons rfl (.nil _))))))))) (by dsimp only [cond_false, cond_true, List.nil_append, List.cons_append]) ?_
              refine wl_op0 [602] rfl rfl rfl (op_mapUpdate (kt := KL) (encV := encF) (lab := 602) (v := cut p.2 x) rfl rfl rfl tQ63e) ?_
              rintro _ _ ⟨rfl, rfl⟩
              refine wl_nil ?_
              refine st_bn ?_
              refine st_tn ?_
              refine w_region ?_
              refine wl_det rfl rfl rfl (op_add' rfl rfl (by omega)) ?_
              refine wl_det rfl rfl rfl (op_move rfl) ?_
              refine wl_nil ?_
              refine st_roundQ (x := (r, a_r, c_r, i, D)) ((r.tail, _, _, i + 1, setK KL D p.1 (cut p.2 x))) [602, 601, 23, 24] rfl (rfl) (.cons rfl (.cons rfl (.nil _))) (.cons rfl (.cons rfl (.cons rfl (.nil _)))) (by
                  try dsimp only
                  refine ⟨by omega, ?_, hI.cut_ hg.inc hx (by simpa using hc38) (by omega) hhd⟩
                  rw [List.length_tail, ← List.drop_one]; exact hsr.dropL (lo := 1) (by omega)) (by
                  try dsimp only
                  omega) 
            · -- c65.f
              have hkk : ((keep x (p.2.data.length - p.2.syn) : Nat) : Int) = x.tmod (((p.2.data.length - p.2.syn : Nat) : Int) + 1) := by rw [hks.1, if_neg hc65]
              have hkl2 := hks.2
              refine w_skip ?_
              refine st_tn ?_
              refine w_seq ?_
              refine w_region ?_
              refine wl_det rfl rfl rfl (op_fieldAddr (off := 1) rfl tF68_1e) ?_
              refine wl_det rfl rfl rfl (op_load1 rfl tO3e (Ent.lab (l := 6) rfl (says_cel 1))) ?_
              refine wl_det rfl rfl rfl (op_move rfl) ?_
              refine wl_det rfl rfl rfl (op_val (v' := .int .i64 ((p.2.syn + keep x (p.2.data.length - p.2.syn) : Nat) : Int)) (by congr 1; omega) (op_add' rfl rfl (by omega))) ?_
              refine wl_det rfl rfl rfl (op_fieldAddr (off := 1) rfl tF68_1e) ?_
              refine wl_op0 [6] rfl rfl rfl (op_store rfl rfl tZ3e (by rfl) (by rfl) (by exact Nat.le_of_ble_eq_true rfl)) ?_
              rintro _ _ ⟨rfl, rfl⟩
              refine wl_nil ?_
              refine st_tn ?_
              refine w_seq ?_
              refine w_region ?_
              refine wl_det rfl rfl rfl (op_fieldAddr (off := 0) rfl tF68_0e) ?_
              refine wl_det rfl rfl rfl (op_load1 rfl tO9e (Ent.lab (l := 6) rfl (says_cel 0))) ?_
              refine wl_det rfl rfl rfl (op_fieldAddr (off := 1) rfl tF68_1e) ?_
              refine wl_det rfl rfl rfl (op_load1 rfl tO3e (Ent.lab (l := 6) rfl (says_cel 1))) ?_
              refine wl_det rfl rfl rfl (op_sliceRBs rfl rfl Try.underlying9 (by omega)) ?_
              refine wl_det rfl rfl rfl (op_fieldAddr (off := 0) rfl tF68_0e) ?_
              refine wl_op0 [6] rfl rfl rfl (op_store rfl rfl tZ9e (by rfl) (by rfl) (by exact Nat.le_of_ble_eq_true rfl)) ?_
              rintro _ _ ⟨rfl, rfl⟩
              refine wl_nil ?_
              refine st_tn ?_
              refine w_drawW (fun β => [⟨81, [], [], [], noW (_), false, [], []⟩, ⟨82, [0], [], [], noW (_), false, [], []⟩, ⟨83, [1], [], [], noW (_), false, [], []⟩, ⟨84, [2], [], [], noW (_), false, [], []⟩, ⟨85, [], [], [], noW (_), false, [], []⟩, ⟨86, [], [], [], noW (_), false, [], []⟩]) [] [0, 5, 6] [⟨81, [], [], false, [], []⟩, ⟨82, [0], [], false, [], []⟩, ⟨83, [1], [], false, [], []⟩, ⟨84, [2], [], false, [], []⟩, ⟨85, [], [], false, [], []⟩, ⟨86, [], [], false, [], []⟩] [[], [], [], [], [], []] [[], [], [], [], [], []] tMixe (fun _ => by rfl) (fun _ => by rfl) (by kernel_rfl) (by kernel_rfl) (by rfl) (by rfl)
                  (fun β => ⟨.p rfl (by intro X; exact op_move rfl),
                  ⟨.p rfl (by intro X; rintro _ _ ⟨rfl, rfl⟩; exact op_nilCheck rfl),
                  ⟨.p rfl (by intro X; rintro _ _ ⟨rfl, rfl⟩; exact op_fieldAddr (off := 1) rfl tF65_1e),
                  ⟨.p rfl (by intro X; rintro _ _ ⟨rfl, rfl⟩; exact op_load1 rfl tO63e (Ent.lab (l := 601) rfl (says_cel 1))),
                  ⟨.p rfl (by intro X; exact op_move rfl),
                  ⟨.p rfl (by intro X; exact op_loadA rfl tA68e (Ent.lab (l := 6) rfl (says_cel 0)) (Nat.le_of_ble_eq_true rfl)),
                  trivial⟩⟩⟩⟩⟩⟩)
                  (fun β β' => ⟨fun _ => by rfl, ⟨fun _ => by rfl, ⟨fun _ => by rfl, ⟨fun _ => by rfl, ⟨fun _ => by rfl, ⟨fun _ => by rfl, trivial⟩⟩⟩⟩⟩⟩) ?_
              intro β
              rintro _ _ ⟨rfl, rfl⟩ _ _ ⟨rfl, rfl⟩ _ _ ⟨rfl, rfl⟩ _ _ ⟨rfl, rfl⟩ _ _ ⟨rfl, rfl⟩ _ _ ⟨rfl, rfl⟩
              refine wl_norm (e' := [(0, _), (1, _), (24, _), (25, _), (26, _), (84, _), (85, _), (86, _)]) (.cons rfl (.cons rfl (.cons rfl (.cons rfl (.cons rfl (.cons rfl (.cons rfl (.cons rfl (.nil _))))))))) (by dsimp only [cond_false, cond_true, List.nil_append, List.cons_append]) ?_
              refine wl_op0 [602] rfl rfl rfl (op_mapUpdate (kt := KL) (encV := encF) (lab := 602) (v := cut p.2 x) rfl rfl rfl tQ63e) ?_
              rintro _ _ ⟨rfl, rfl⟩
              refine wl_nil ?_
              refine st_bn ?_
              refine st_tn ?_
              refine w_region ?_
              refine wl_det rfl rfl rfl (op_add' rfl rfl (by omega)) ?_
              refine wl_det rfl rfl rfl (op_move rfl) ?_
              refine wl_nil ?_
              refine st_roundQ (x := (r, a_r, c_r, i, D)) ((r.tail, _, _, i + 1, setK KL D p.1 (cut p.2 x))) [602, 601, 23, 24] rfl (rfl) (.cons rfl (.cons rfl (.nil _))) (.cons rfl (.cons rfl (.cons rfl (.nil _)))) (by
                  try dsimp only
                  refine ⟨by omega, ?_, hI.cut_ hg.inc hx (by simpa using hc38) (by omega) hhd⟩
                  rw [List.length_tail, ← List.drop_one]; exact hsr.dropL (lo := 1) (by omega)) (by
                  try dsimp only
                  omega) 
          · -- c54.f
            obtain ⟨x, hx0⟩ : ∃ x : Int, x = 0 := ⟨0, rfl⟩
            have hrn : r = [] := List.eq_nil_of_length_eq_zero (by omega)
            have hhd : r.head?.getD 0 = x := by rw [hrn, hx0]; rfl
            have hks := keep_spec x (p.2.data.length - p.2.syn)
            refine w_skip ?_
            refine st_tn ?_
            refine w_seq ?_
            refine w_region ?_
            refine wl_det rfl rfl rfl (op_move rfl) ?_
            refine wl_det rfl rfl rfl (op_move rfl) ?_
            refine wl_det rfl rfl rfl (op_add' rfl rfl (by omega)) ?_
            refine wl_det rfl rfl rfl (op_val (v' := .int .i64 (x.tmod (((p.2.data.length - p.2.syn : Nat) : Int) + 1))) (by rw [hx0]) (op_rem rfl rfl (by omega))) ?_
            refine wl_det rfl rfl rfl (op_assign rfl) ?_
            refine wl_nil ?_
            refine st_tn ?_
            refine w_seq ?_
            refine w_seq ?_
            refine w_region ?_
            refine wl_det rfl rfl rfl (op_move rfl) ?_
            refine wl_det rfl rfl rfl (op_lss rfl rfl) ?_
            refine wl_nil ?_
            refine st_tn ?_
            refine w_cond_d rfl (fun hc65 => ?_) (fun hc65 => ?_)
            · -- c65.t
              have hkk : ((keep x (p.2.data.length - p.2.syn) : Nat) : Int) = x.tmod (((p.2.data.length - p.2.syn : Nat) : Int) + 1) + (((p.2.data.length - p.2.syn : Nat) : Int) + 1) := by rw [hks.1, if_pos hc65]
              have hkl2 := hks.2
              refine w_region ?_
              refine wl_det rfl rfl rfl (op_move rfl) ?_
              refine wl_det rfl rfl rfl (op_move rfl) ?_
              refine wl_det rfl rfl rfl (op_add' rfl rfl (by omega)) ?_
              refine wl_det rfl rfl rfl (op_add' rfl rfl (by omega)) ?_
              refine wl_det rfl rfl rfl (op_assign rfl) ?_
              refine wl_nil ?_
              refine st_tn ?_
              refine w_seq ?_
              refine w_region ?_
              refine wl_det rfl rfl rfl (op_fieldAddr (off := 1) rfl tF68_1e) ?_
              refine wl_det rfl rfl rfl (op_load1 rfl tO3e (Ent.lab (l := 6) rfl (says_cel 1))) ?_
              refine wl_det rfl rfl rfl (op_move rfl) ?_
              refine wl_det rfl rfl rfl (op_val (v' := .int .i64 ((p.2.syn + keep x (p.2.data.length - p.2.syn) : Nat) : Int)) (by congr 1; omega) (op_add' rfl rfl (by omega))) ?_
              refine wl_det rfl rfl rfl (op_fieldAddr (off := 1) rfl tF68_1e) ?_
              refine wl_op0 [6] rfl rfl rfl (op_store rfl rfl tZ3e (by rfl) (by rfl) (by exact Nat.le_of_ble_eq_true rfl)) ?_
              rintro _ _ ⟨rfl, rfl⟩
              refine wl_nil ?_
              refine st_tn ?_
              refine w_seq ?_
              refine w_region ?_
              refine wl_det rfl rfl rfl (op_fieldAddr (off := 0) rfl tF68_0e) ?_
              refine wl_det rfl rfl rfl (op_load1 rfl tO9e (Ent.lab (l := 6) rfl (says_cel 0))) ?_
              refine wl_det rfl rfl rfl (op_fieldAddr (off := 1) rfl tF68_1e) ?_
              refine wl_det rfl rfl rfl (op_load1 rfl tO3e (Ent.lab (l := 6) rfl (says_cel 1))) ?_
              refine wl_det rfl rfl rfl (op_sliceRBs rfl rfl Try.underlying9 (by omega)) ?_
              refine wl_det rfl rfl rfl (op_fieldAddr (off := 0) rfl tF68_0e) ?_
              refine wl_op0 [6] rfl rfl rfl (op_store rfl rfl tZ9e (by rfl) (by rfl) (by exact Nat.le_of_ble_eq_true rfl)) ?_
              rintro _ _ ⟨rfl, rfl⟩
              refine wl_nil ?_
              refine st_tn ?_
              refine w_drawW (fun β => [⟨81, [], [], [], noW (_), false, [], []⟩, ⟨82, [0], [], [], noW (_), false, [], []⟩, ⟨83, [1], [], [], noW (_), false, [], []⟩, ⟨84, [2], [], [], noW (_), false, [], []⟩, ⟨85, [], [], [], noW (_), false, [], []⟩, ⟨86, [], [], [], noW (_), false, [], []⟩]) [] [0, 5, 6] [⟨81, [], [], false, [], []⟩, ⟨82, [0], [], false, [], []⟩, ⟨83, [1], [], false, [], []⟩, ⟨84, [2], [], false, [], []⟩, ⟨85, [], [], false, [], []⟩, ⟨86, [], [], false, [], []⟩] [[], [], [], [], [], []] [[], [], [], [], [], []] tMixe (fun _ => by rfl) (fun _ => by rfl) (by kernel_rfl) (by kernel_rfl) (by rfl) (by rfl)
                  (fun β => ⟨.p rfl (by intro X; exact op_move rfl),
                  ⟨.p rfl (by intro X; rintro _ _ ⟨rfl, rfl⟩; exact op_nilCheck rfl),
                  ⟨.p rfl (by intro X; rintro _ _ ⟨rfl, rfl⟩; exact op_fieldAddr (off := 1) rfl tF65_1e),
                  ⟨.p rfl (by intro X; rintro _ _ ⟨rfl, rfl⟩; exact op_load1 rfl tO63e (Ent.lab (l := 601) rfl (says_cel 1))),
                  ⟨.p rfl (by intro X; exact op_move rfl),
                  ⟨.p rfl (by intro X; exact op_loadA rfl tA68e (Ent.lab (l := 6) rfl (says_cel 0)) (Nat.le_of_ble_eq_true rfl)),
                  trivial⟩⟩⟩⟩⟩⟩)
                  (fun β β' => ⟨fun _ => by rfl, ⟨fun _ => by rfl, ⟨fun _ => by rfl, ⟨fun _ => by rfl, ⟨fun _ => by rfl, ⟨fun _ => by rfl, trivial⟩⟩⟩⟩⟩⟩) ?_
              intro β
              rintro _ _ ⟨rfl, rfl⟩ _ _ ⟨rfl, rfl⟩ _ _ ⟨rfl, rfl⟩ _ _ ⟨rfl, rfl⟩ _ _ ⟨rfl, rfl⟩ _ _ ⟨rfl, rfl⟩
              refine wl_norm (e' := [(0, _), (1, _), (24, _), (25, _), (26, _), (84, _), (85, _), (86, _)]) (.cons rfl (.cons rfl (.cons rfl (.cons rfl (.cons rfl (.cons rfl (.cons rfl (.cons rfl (.nil _))))))))) (by dsimp only [cond_false, cond_true, List.nil_append, List.cons_append]) ?_
              refine wl_op0 [602] rfl rfl rfl (op_mapUpdate (kt := KL) (encV := encF) (lab := 602) (v := cut p.2 x) rfl rfl rfl tQ63e) ?_
              rintro _ _ ⟨rfl, rfl⟩
              refine wl_nil ?_
              refine st_bn ?_
              refine st_tn ?_
              refine w_region ?_
              refine wl_det rfl rfl rfl (op_add' rfl rfl (by omega)) ?_
              refine wl_det rfl rfl rfl (op_move rfl) ?_
              refine wl_nil ?_
              refine st_roundQ (x := (r, a_r, c_r, i, D)) ((r, _, _, i + 1, setK KL D p.1 (cut p.2 x))) [602, 601, 23, 24] rfl (rfl) (.cons rfl (.cons rfl (.nil _))) (.cons rfl (.cons rfl (.cons rfl (.nil _)))) (by
                  try dsimp only
                  refine ⟨by omega, hsr, ?_⟩
                  have := hI.cut_ hg.inc hx (by simpa using hc38) (by omega) hhd
                  rwa [hrn] at this ⊢) (by
                  try dsimp only
                  omega) 
            · -- c65.f
              have hkk : ((keep x (p.2.data.length - p.2.syn) : Nat) : Int) = x.tmod (((p.2.data.length - p.2.syn : Nat) : Int) + 1) := by rw [hks.1, if_neg hc65]
              have hkl2 := hks.2
              refine w_skip ?_
              refine st_tn ?_
              refine w_seq ?_
              refine w_region ?_
              refine wl_det rfl rfl rfl (op_fieldAddr (off := 1) rfl tF68_1e) ?_
              refine wl_det rfl rfl rfl (op_load1 rfl tO3e (Ent.lab (l := 6) rfl (says_cel 1))) ?_
              refine wl_det rfl rfl rfl (op_move rfl) ?_
              refine wl_det rfl rfl rfl (op_val (v' := .int .i64 ((p.2.syn + keep x (p.2.data.length - p.2.syn) : Nat) : Int)) (by congr 1; omega) (op_add' rfl rfl (by omega))) ?_
              refine wl_det rfl rfl rfl (op_fieldAddr (off := 1) rfl tF68_1e) ?_
              refine wl_op0 [6] rfl rfl rfl (op_store rfl rfl tZ3e (by rfl) (by rfl) (by exact Nat.le_of_ble_eq_true rfl)) ?_
              rintro _ _ ⟨rfl, rfl⟩
              refine wl_nil ?_
              refine st_tn ?_
              refine w_seq ?_
              refine w_region ?_
              refine wl_det rfl rfl rfl (op_fieldAddr (off := 0) rfl tF68_0e) ?_
              refine wl_det rfl rfl rfl (op_load1 rfl tO9e (Ent.lab (l := 6) rfl (says_cel 0))) ?_
              refine wl_det rfl rfl rfl (op_fieldAddr (off := 1) rfl tF68_1e) ?_
              refine wl_det rfl rfl rfl (op_load1 rfl tO3e (Ent.lab (l := 6) rfl (says_cel 1))) ?_
              refine wl_det rfl rfl rfl (op_sliceRBs rfl rfl Try.underlying9 (by omega)) ?_
              refine wl_det rfl rfl rfl (op_fieldAddr (off := 0) rfl tF68_0e) ?_
              refine wl_op0 [6] rfl rfl rfl (op_store rfl rfl tZ9e (by rfl) (by rfl) (by exact Nat.le_of_ble_eq_true rfl)) ?_
              rintro _ _ ⟨rfl, rfl⟩
              refine wl_nil ?_
              refine st_tn ?_
              refine w_drawW (fun β => [⟨81, [], [], [], noW (_), false, [], []⟩, ⟨82, [0], [], [], noW (_), false, [], []⟩, ⟨83, [1], [], [], noW (_), false, [], []⟩, ⟨84, [2], [], [], noW (_), false, [], []⟩, ⟨85, [], [], [], noW (_), false, [], []⟩, ⟨86, [], [], [], noW (_), false, [], []⟩]) [] [0, 5, 6] [⟨81, [], [], false, [], []⟩, ⟨82, [0], [], false, [], []⟩, ⟨83, [1], [], false, [], []⟩, ⟨84, [2], [], false, [], []⟩, ⟨85, [], [], false, [], []⟩, ⟨86, [], [], false, [], []⟩] [[], [], [], [], [], []] [[], [], [], [], [], []] tMixe (fun _ => by rfl) (fun _ => by rfl) (by kernel_rfl) (by kernel_rfl) (by rfl) (by rfl)
                  (fun β => ⟨.p rfl (by intro X; exact op_move rfl),
                  ⟨.p rfl (by intro X; rintro _ _ ⟨rfl, rfl⟩; exact op_nilCheck rfl),
                  ⟨.p rfl (by intro X; rintro _ _ ⟨rfl, rfl⟩; exact op_fieldAddr (off := 1) rfl tF65_1e),
                  ⟨.p rfl (by intro X; rintro _ _ ⟨rfl, rfl⟩; exact op_load1 rfl tO63e (Ent.lab (l := 601) rfl (says_cel 1))),
                  ⟨.p rfl (by intro X; exact op_move rfl),
                  ⟨.p rfl (by intro X; exact op_loadA rfl tA68e (Ent.lab (l := 6) rfl (says_cel 0)) (Nat.le_of_ble_eq_true rfl)),
                  trivial⟩⟩⟩⟩⟩⟩)
                  (fun β β' => ⟨fun _ => by rfl, ⟨fun _ => by rfl, ⟨fun _ => by rfl, ⟨fun _ => by rfl, ⟨fun _ => by rfl, ⟨fun _ => by rfl, trivial⟩⟩⟩⟩⟩⟩) ?_
              intro β
              rintro _ _ ⟨rfl, rfl⟩ _ _ ⟨rfl, rfl⟩ _ _ ⟨rfl, rfl⟩ _ _ ⟨rfl, rfl⟩ _ _ ⟨rfl, rfl⟩ _ _ ⟨rfl, rfl⟩
              refine wl_norm (e' := [(0, _), (1, _), (24, _), (25, _), (26, _), (84, _), (85, _), (86, _)]) (.cons rfl (.cons rfl (.cons rfl (.cons rfl (.cons rfl (.cons rfl (.cons rfl (.cons rfl (.nil _))))))))) (by dsimp only [cond_false, cond_true, List.nil_append, List.cons_append]) ?_
              refine wl_op0 [602] rfl rfl rfl (op_mapUpdate (kt := KL) (encV := encF) (lab := 602) (v := cut p.2 x) rfl rfl rfl tQ63e) ?_
              rintro _ _ ⟨rfl, rfl⟩
              refine wl_nil ?_
              refine st_bn ?_
              refine st_tn ?_
              refine w_region ?_
              refine wl_det rfl rfl rfl (op_add' rfl rfl (by omega)) ?_
              refine wl_det rfl rfl rfl (op_move rfl) ?_
              refine wl_nil ?_
              refine st_roundQ (x := (r, a_r, c_r, i, D)) ((r, _, _, i + 1, setK KL D p.1 (cut p.2 x))) [602, 601, 23, 24] rfl (rfl) (.cons rfl (.cons rfl (.nil _))) (.cons rfl (.cons rfl (.cons rfl (.nil _)))) (by
                  try dsimp only
                  refine ⟨by omega, hsr, ?_⟩
                  have := hI.cut_ hg.inc hx (by simpa using hc38) (by omega) hhd
                  rwa [hrn] at this ⊢) (by
                  try dsimp only
                  omega) 
    · -- c27.f
      refine w_exit ?_
      refine st_te ?_
      refine st_te ?_
      refine st_be ?_
      refine st_tn ?_
      refine w_region ?_
      refine wl_det rfl rfl rfl (op_move rfl) ?_
      refine wl_det rfl rfl rfl (op_move rfl) ?_
      refine wl_det rfl rfl rfl (op_move rfl) ?_
      refine wl_det rfl rfl rfl (op_nilCheck rfl) ?_
      refine wl_det rfl rfl rfl (op_fieldAddr (off := 2) rfl tF65_2e) ?_
      refine wl_op0 [601] rfl rfl rfl (op_store rfl rfl tZ4e (by rfl) (by rfl) (by exact Nat.le_of_ble_eq_true rfl)) ?_
      rintro _ _ ⟨rfl, rfl⟩
      refine wl_det rfl rfl rfl (op_nilCheck rfl) ?_
      refine wl_det rfl rfl rfl (op_fieldAddr (off := 3) rfl tF65_3e) ?_
      refine wl_op0 [601] rfl rfl rfl (op_store rfl rfl tZ4e (by rfl) (by rfl) (by exact Nat.le_of_ble_eq_true rfl)) ?_
      rintro _ _ ⟨rfl, rfl⟩
      refine wl_det rfl rfl rfl (op_nilCheck rfl) ?_
      refine wl_det rfl rfl rfl (op_fieldAddr (off := 4) rfl tF65_4e) ?_
      refine wl_op0 [601] rfl rfl rfl (op_store rfl rfl tZ3e (by rfl) (by rfl) (by exact Nat.le_of_ble_eq_true rfl)) ?_
      rintro _ _ ⟨rfl, rfl⟩
      refine wl_nil ?_
      refine st_end (vs := []) [601, 602] Try.results26 trivial rfl ?_
      refine ⟨[(601, _), (602, _)], rfl, ?_⟩
      rw [sta_down hdn]; exact ⟨_, hI.fin (by omega), rfl, rfl⟩

end Go.Proofs.Ytjlbeakdgadpmaa
