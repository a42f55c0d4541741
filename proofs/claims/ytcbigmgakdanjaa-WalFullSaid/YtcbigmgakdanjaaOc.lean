/- Contracts: Open. Contracts: Open of a log that a disk holds. Contracts: a disk and a log as one thing each. Contracts: a log as one thing. Contracts: Append, Discard, Open of a log as one thing. Contracts: Commit. A log on a disk that does not fail: what Commit changes; Commit as one thing. Contracts: made, known. Contracts: a log that is nil; the law Nil. The law Nil (layer 27). Conditions: none. -/
import Derived.Test.YtcbigmgakdanjaaOb
import Derived.Test.YtcbigmgakdanjaaSlK
namespace Go.Proofs.Ytcbigmgakdanjaa
open Go Go.SL Go.RowKit Go.RdM Go.WalM
set_option linter.unusedVariables false
set_option linter.unusedSimpArgs false

set_option maxHeartbeats 400000 in
set_option maxRecDepth 100000 in
theorem open_nil {σ : World} {F : List Res} (nm : RdM.Bs) : FnT Try.prog σ F 16 [.pointer none, .string (str nm)] [] (fun u ρ => u = .tuple #[.pointer none, .int .i64 1] ∧ ρ = []) := by
  refine fn_of 54 Try.func16 rfl Try.ntmps16 rfl ?_
  refine w_seq ?_
  refine w_region ?_
  refine wl_det rfl rfl rfl (op_assign rfl) ?_
  refine wl_det rfl rfl rfl (op_assign rfl) ?_
  refine wl_nil ?_
  refine st_tn ?_
  refine w_seq ?_
  refine w_block ?_
  refine w_seq ?_
  refine w_region ?_
  refine wl_det rfl rfl rfl (op_move rfl) ?_
  refine wl_det rfl rfl rfl (op_val (v' := .bool true) (by simp) (op_eqPtr rfl Try.underlying22)) ?_
  refine wl_det rfl rfl rfl (op_assign rfl) ?_
  refine wl_nil ?_
  refine st_tn ?_
  refine w_cond_t (rfl) ?_
  refine w_seq ?_
  refine w_region ?_
  refine wl_det rfl rfl rfl (op_assign rfl) ?_
  refine wl_det rfl rfl rfl (op_assign rfl) ?_
  refine wl_nil ?_
  refine st_tn ?_
  refine w_ret ?_
  refine st_br ?_
  refine st_tr ?_
  refine st_ret (vs := [_, _]) [] Try.results16 ⟨rfl, ⟨rfl, trivial⟩⟩ rfl ?_
  refine ⟨_, rfl, ?_⟩
  exact ⟨rfl, rfl⟩

set_option maxHeartbeats 400000 in
set_option maxRecDepth 100000 in
theorem open_no {σ : World} {F : List Res} {d mm : Nat} {s : DskM.St} (nm : RdM.Bs) (hnl : nm.length ≤ 1099511627776) (hno : ¬ (DskM.nameB nm = true ∧ nm.length ≤ 48)) : FnT Try.prog σ F 16 [.pointer (some ⟨d, 0, none⟩), .string (str nm)] [] (fun u ρ => u = .tuple #[.pointer none, .int .i64 11] ∧ ρ = []) := by
  refine fn_of 54 Try.func16 rfl Try.ntmps16 rfl ?_
  refine w_seq ?_
  refine w_region ?_
  refine wl_det rfl rfl rfl (op_assign rfl) ?_
  refine wl_det rfl rfl rfl (op_assign rfl) ?_
  refine wl_nil ?_
  refine st_tn ?_
  refine w_seq ?_
  refine w_block ?_
  refine w_seq ?_
  refine w_region ?_
  refine wl_det rfl rfl rfl (op_move rfl) ?_
  refine wl_det rfl rfl rfl (op_val (v' := .bool false) (by simp) (op_eqPtr rfl Try.underlying22)) ?_
  refine wl_det rfl rfl rfl (op_assign rfl) ?_
  refine wl_nil ?_
  refine st_tn ?_
  refine w_cond_f (rfl) ?_
  refine w_seq ?_
  by_cases hb : DskM.nameB nm = true
  · -- hb+
    refine w_region ?_
    refine wl_det rfl rfl rfl (op_move rfl) ?_
    refine wl_det rfl rfl rfl (op_val (v' := .bool true) (by rw [hb]) (op_fn Try.func50 rfl rfl rfl (isName_any nm (by unfold maxLen; omega)))) ?_
    refine wl_det rfl rfl rfl (op_not_t rfl) ?_
    refine wl_det rfl rfl rfl (op_move rfl) ?_
    refine wl_wanted_det rfl rfl rfl rfl rfl rfl rfl (op_move rfl) ?_
    refine wl_wanted_det rfl rfl rfl rfl rfl rfl rfl (op_lenBs rfl Try.underlying9) ?_
    refine wl_wanted_det rfl rfl rfl rfl rfl rfl rfl (op_val (v' := .bool true) (by rw [decide_eq_true]; have : ¬ nm.length ≤ 48 := fun h => hno ⟨hb, h⟩; omega) (op_gtr rfl rfl)) ?_
    refine wl_det rfl rfl rfl (op_pick_f rfl rfl) ?_
    refine wl_det rfl rfl rfl (op_assign rfl) ?_
    refine wl_nil ?_
    refine st_tn ?_
    refine w_cond_t (rfl) ?_
    refine w_seq ?_
    refine w_region ?_
    refine wl_det rfl rfl rfl (op_assign rfl) ?_
    refine wl_det rfl rfl rfl (op_assign rfl) ?_
    refine wl_nil ?_
    refine st_tn ?_
    refine w_ret ?_
    refine st_br ?_
    refine st_tr ?_
    refine st_ret (vs := [_, _]) [] Try.results16 ⟨rfl, ⟨rfl, trivial⟩⟩ rfl ?_
    refine ⟨_, rfl, ?_⟩
    exact ⟨rfl, rfl⟩
  · -- hb-
    have hb : DskM.nameB nm = false := by simpa using hb
    refine w_region ?_
    refine wl_det rfl rfl rfl (op_move rfl) ?_
    refine wl_det rfl rfl rfl (op_val (v' := .bool false) (by rw [hb]) (op_fn Try.func50 rfl rfl rfl (isName_any nm (by unfold maxLen; omega)))) ?_
    refine wl_det rfl rfl rfl (op_not_f rfl) ?_
    refine wl_det rfl rfl rfl (op_move rfl) ?_
    refine wl_unwanted rfl rfl rfl rfl rfl rfl rfl rfl ?_
    refine wl_unwanted rfl rfl rfl rfl rfl rfl rfl rfl ?_
    refine wl_unwanted rfl rfl rfl rfl rfl rfl rfl rfl ?_
    refine wl_det rfl rfl rfl (op_pick_t rfl rfl) ?_
    refine wl_det rfl rfl rfl (op_assign rfl) ?_
    refine wl_nil ?_
    refine st_tn ?_
    refine w_cond_t (rfl) ?_
    refine w_seq ?_
    refine w_region ?_
    refine wl_det rfl rfl rfl (op_assign rfl) ?_
    refine wl_det rfl rfl rfl (op_assign rfl) ?_
    refine wl_nil ?_
    refine st_tn ?_
    refine w_ret ?_
    refine st_br ?_
    refine st_tr ?_
    refine st_ret (vs := [_, _]) [] Try.results16 ⟨rfl, ⟨rfl, trivial⟩⟩ rfl ?_
    refine ⟨_, rfl, ?_⟩
    exact ⟨rfl, rfl⟩

set_option maxHeartbeats 400000 in
set_option maxRecDepth 100000 in
theorem open_down {σ : World} {F : List Res} {d mm : Nat} {s : DskM.St} (nm : RdM.Bs) (hok : DskM.nameB nm = true ∧ nm.length ≤ 48) (hdn : s.down = true) (hdk : Ent σ F (At ⟨d, 0, none⟩ (cellD s mm))) : FnT Try.prog σ F 16 [.pointer (some ⟨d, 0, none⟩), .string (str nm)] [] (fun u ρ => u = .tuple #[.pointer none, .int .i64 27] ∧ ρ = []) := by
  refine fn_of 54 Try.func16 rfl Try.ntmps16 rfl ?_
  refine w_seq ?_
  refine w_region ?_
  refine wl_det rfl rfl rfl (op_assign rfl) ?_
  refine wl_det rfl rfl rfl (op_assign rfl) ?_
  refine wl_nil ?_
  refine st_tn ?_
  refine w_seq ?_
  refine w_block ?_
  refine w_seq ?_
  refine w_region ?_
  refine wl_det rfl rfl rfl (op_move rfl) ?_
  refine wl_det rfl rfl rfl (op_val (v' := .bool false) (by simp) (op_eqPtr rfl Try.underlying22)) ?_
  refine wl_det rfl rfl rfl (op_assign rfl) ?_
  refine wl_nil ?_
  refine st_tn ?_
  refine w_cond_f (rfl) ?_
  refine w_seq ?_
  refine w_region ?_
  refine wl_det rfl rfl rfl (op_move rfl) ?_
  refine wl_det rfl rfl rfl (op_val (v' := .bool true) (by rw [hok.1]) (op_fn Try.func50 rfl rfl rfl (isName_any nm (by unfold maxLen; omega)))) ?_
  refine wl_det rfl rfl rfl (op_not_t rfl) ?_
  refine wl_det rfl rfl rfl (op_move rfl) ?_
  refine wl_wanted_det rfl rfl rfl rfl rfl rfl rfl (op_move rfl) ?_
  refine wl_wanted_det rfl rfl rfl rfl rfl rfl rfl (op_lenBs rfl Try.underlying9) ?_
  refine wl_wanted_det rfl rfl rfl rfl rfl rfl rfl (op_val (v' := .bool false) (by rw [decide_eq_false (by omega)]) (op_gtr rfl rfl)) ?_
  refine wl_det rfl rfl rfl (op_pick_f rfl rfl) ?_
  refine wl_det rfl rfl rfl (op_assign rfl) ?_
  refine wl_nil ?_
  refine st_tn ?_
  refine w_cond_f (rfl) ?_
  refine w_seq ?_
  refine w_region ?_
  refine wl_det rfl rfl rfl (op_move rfl) ?_
  refine wl_det rfl rfl rfl (op_val (v' := .bool true) (by rw [hdn]) (op_fn Try.func37 rfl rfl rfl (down_any s (Ent.app hdk _)))) ?_
  refine wl_det rfl rfl rfl (op_assign rfl) ?_
  refine wl_nil ?_
  refine st_tn ?_
  refine w_cond_t (rfl) ?_
  refine w_seq ?_
  refine w_region ?_
  refine wl_det rfl rfl rfl (op_assign rfl) ?_
  refine wl_det rfl rfl rfl (op_assign rfl) ?_
  refine wl_nil ?_
  refine st_tn ?_
  refine w_ret ?_
  refine st_br ?_
  refine st_tr ?_
  refine st_ret (vs := [_, _]) [] Try.results16 ⟨rfl, ⟨rfl, trivial⟩⟩ rfl ?_
  refine ⟨_, rfl, ?_⟩
  exact ⟨rfl, rfl⟩

end Go.Proofs.Ytcbigmgakdanjaa
namespace Go.Proofs.Ytcbigmgakdanjaa
open Go Go.SL Go.RowKit Go.RdM Go.WalM
set_option linter.unusedVariables false
set_option linter.unusedSimpArgs false
theorem tB76wn : placesB Try.prog 76 = some ([(0, 1), (1, 1), (2, 1), (3, 1), (4, 1), (5, 1), (6, 1)], [Value.pointer none, Value.string .empty, Value.slice none 0 0, Value.map none, Value.slice none 0 0, Value.bool false, Value.bool false]) := by kernel_rfl
theorem tO9wn : oneB Try.prog 9 = true := by kernel_rfl
theorem tQ74wn : mapB Try.prog 74 3 9 KZ.desc := ⟨Try.underlying74, Try.underlying3⟩
theorem tS35wn : sliceB Try.prog 35 9 1 = true := by kernel_rfl

theorem read_at {s : DskM.St} (hg : DskM.Good s) (hdn : s.down = false) {p : RdM.Bs × DskM.Fl} (hp : p ∈ s.fs) (d : Bool) : DskM.readO s p.1 d = (if d = true then p.2.data.take p.2.syn else p.2.data, 0) := by
  have h1 : ¬ DskM.readyE s [p.1] ≠ 0 := by
    unfold DskM.readyE; rw [if_neg (by simp [hdn]), if_pos (by simp [hg.nam p hp])]; simp
  unfold DskM.readO
  rw [if_neg h1, DskM.find_of hg.inc hp]
theorem name_64 {s : DskM.St} (hg : DskM.Good s) : ∀ p ∈ s.fs, p.1.length ≤ 64 := fun p hp => by
  have := hg.nam p hp
  rw [nameB_iff] at this
  exact (of_decide_eq_true this).2.1
theorem holds_len : ∀ {f : Nat} {segs : List Sg} {Q : List (Nat × DskM.Fl)}, Holds f segs Q → Q.length = segs.length
  | _, [], [], _ => rfl
  | f, x :: xs, q :: r, h => by rw [List.length_cons, List.length_cons, holds_len h.2.2]
  | _, [], _ :: _, h => h.elim
  | _, _ :: _, [], h => h.elim
theorem holds_at : ∀ {f : Nat} {segs : List Sg} {Q : List (Nat × DskM.Fl)} {k : Nat} {q : Nat × DskM.Fl}, Holds f segs Q → Q[k]? = some q → ∃ x, segs[k]? = some x ∧ q.1 = x.num ∧ ∃ t, Torn (f + (allR (segs.take k)).length + x.recs.length) t ∧ q.2.data = encGs (f + (allR (segs.take k)).length) x.gs ++ t
  | _, [], [], k, q, _, hq => by simp at hq
  | f, x :: xs, p :: r, 0, q, h, hq => by
    simp at hq; subst hq
    exact ⟨x, rfl, h.1, by simpa [allR] using h.2.1⟩
  | f, x :: xs, p :: r, k + 1, q, h, hq => by
    obtain ⟨y, h1, h2, h3⟩ := holds_at h.2.2 (k := k) (q := q) (by simpa using hq)
    refine ⟨y, by simpa using h1, h2, ?_⟩
    rw [List.take_succ_cons, allR_cons, List.length_append, ← Nat.add_assoc]
    exact h3
  | _, [], _ :: _, _, _, h, _ => h.elim
  | _, _ :: _, [], _, _, h, _ => h.elim
/-- What is laid out of a log. -/
def rawL (L : Lg) : Lr := ⟨rowsOf L.first L.segs, L.pend, L.fresh, L.broken⟩
theorem rows_last {f : Nat} {S : List Sg} {x : Sg} : (rowsOf f (S ++ [x])).getLast? = some (x.num, f + (allR S).length, f + (allR S).length + x.recs.length - 1, x.gs.length) := by
  rw [rowsOf_app, rowsOf_one, List.getLast?_concat]
theorem rows_mem : ∀ {f : Nat} {S : List Sg} {r : Row}, r ∈ rowsOf f S → ∃ x ∈ S, r.1 = x.num ∧ r.2.2.2 = x.gs.length
  | _, [], _, h => by simp [rowsOf] at h
  | f, x :: S, r, h => by
    rw [rowsOf] at h
    rcases List.mem_cons.1 h with rfl | h
    · exact ⟨x, by simp, rfl, rfl⟩
    · obtain ⟨y, h1, h2⟩ := rows_mem h
      exact ⟨y, by simp [h1], h2⟩
theorem lastV_rows {f : Nat} {S : List Sg} {pend : List RdM.Bs} {fr : Bool} (hg : ∀ x ∈ S, x.gs ≠ [] ∧ ∀ g ∈ x.gs, OkG g) (hS : S ≠ []) : lastV ⟨rowsOf f S, pend, fr, false⟩ + 1 = f + (allR S).length := by
  rcases List.eq_nil_or_concat S with h | ⟨S', x, rfl⟩
  · exact absurd h hS
  · rw [List.concat_eq_append] at hg ⊢
    have h0 := OkG.recs (hg x (by simp))
    unfold lastV
    dsimp only
    rw [if_neg (by simp), rows_last, allR_app, allR_one, List.length_append]
    dsimp only
    omega
theorem recs_le {S : List Sg} {x : Sg} (h : x ∈ S) : x.recs.length ≤ (allR S).length := by
  induction S with
  | nil => simp at h
  | cons y S ih =>
    rw [allR_cons, List.length_append]
    rcases List.mem_cons.1 h with rfl | h
    · omega
    · have := ih h; omega
theorem gs_le {x : Sg} (h : x.gs ≠ [] ∧ ∀ g ∈ x.gs, OkG g) : x.gs.length ≤ x.recs.length := gs_len h.2
theorem allR_take_le (S : List Sg) (k : Nat) : (allR (S.take k)).length ≤ (allR S).length := by
  conv => rhs; rw [← List.take_append_drop k S, allR_app]
  rw [List.length_append]; omega
theorem segs_le (nm : RdM.Bs) : ∀ fs : DskM.Files, (segsOf nm fs).length ≤ fs.length
  | [] => by simp [segsOf]
  | p :: fs => by
    have := segs_le nm fs
    rw [segsOf_cons, List.length_append, List.length_cons]
    cases parseN nm p.1 <;> simp <;> omega
theorem segs_take {nm : RdM.Bs} {fs : DskM.Files} {i : Nat} {p : RdM.Bs × DskM.Fl} (h : fs[i]? = some p) : segsOf nm (fs.take (i + 1)) = segsOf nm (fs.take i) ++ (match parseN nm p.1 with | some n => [(n, p.2)] | none => []) := by
  rw [take_snoc h, segsOf_app, segsOf_cons, segsOf_nil, List.append_nil]
  cases parseN nm p.1 <;> rfl
theorem segs_get {nm : RdM.Bs} {fs : DskM.Files} {i n : Nat} {p : RdM.Bs × DskM.Fl} (h : fs[i]? = some p) (hn : parseN nm p.1 = some n) : (segsOf nm fs)[(segsOf nm (fs.take i)).length]? = some (n, p.2) := by
  have hlt := (List.getElem?_eq_some_iff.1 h).1
  have hre := (List.getElem?_eq_some_iff.1 h).2
  have hspl : fs = fs.take i ++ p :: fs.drop (i + 1) := by rw [← hre, ← List.drop_eq_getElem_cons hlt, List.take_append_drop]
  conv => lhs; rw [hspl]
  rw [segsOf_app, segsOf_cons, hn]
  have : (fs.take i ++ p :: fs.drop (i + 1)).take i = fs.take i := by rw [← hspl]
  rw [this, List.getElem?_append_right (Nat.le_refl _), Nat.sub_self]; rfl
theorem opt_none {α : Type} {o : Option α} (h : ¬ o.isSome = true) : o = none := by cases o <;> simp at h ⊢
theorem pw_take {α : Type} {R : α → α → Prop} {l : List α} {k : Nat} {x y : α} (h : l.Pairwise R) (hx : l[k]? = some x) (hy : y ∈ l.take k) : R y x := by
  have hlt := (List.getElem?_eq_some_iff.1 hx).1
  have hre := (List.getElem?_eq_some_iff.1 hx).2
  have hspl : l = l.take k ++ x :: l.drop (k + 1) := by rw [← hre, ← List.drop_eq_getElem_cons hlt, List.take_append_drop]
  rw [hspl, List.pairwise_append] at h
  exact h.2.2 y hy x (by simp)
set_option maxHeartbeats 4000000 in
set_option maxRecDepth 100000 in
theorem open_ok {σ : World} {F : List Res} {d mm : Nat} {s : DskM.St} {lf : DskM.Files} {nm : RdM.Bs} {first : Nat} {segs : List Sg} (hok : DskM.nameB nm = true ∧ nm.length ≤ 48) (hdn : s.down = false) (hgD : DskM.Good s) (hpD : lf.Perm s.fs) (hdk : Ent σ F (At ⟨d, 0, none⟩ (cellD s mm))) (hmk : Mr σ F KL DskM.encF (.map (some mm)) lf)
    (hS : OkS first segs) (hH : Holds first segs (segsOf nm s.fs)) (hT : first + (allR segs).length ≤ 1099511627776) :
    FnT Try.prog σ F 16 [.pointer (some ⟨d, 0, none⟩), .string (str nm)] [] (fun u ρ => ∃ b m a c l, IsMap l first (allR segs) ∧ u = .tuple #[.pointer (some ⟨b, 0, none⟩), .int .i64 0] ∧ ρ = [(611, cel b (cellL d nm ⟨rowsOf first segs, [], true, false⟩ m a c none 0) 76), (612, slW 87 encRow 4 (.slice a (rowsOf first segs).length c) (rowsOf first segs)), (613, mp KZ encSV m l), (614, slW 9 encT 1 (.slice none 0 0) ([] : List RdM.Bs))]) := by
  refine fn_of 54 Try.func16 rfl Try.ntmps16 rfl ?_
  have hkl : (keysOf s.fs).length = s.fs.length := List.length_map ..
  have hfl := hgD.cnt
  have hsl := segs_le nm s.fs
  have hlen := holds_len hH
  have hN64 := name_64 hgD
  have hcap := hgD.cap
  have huse := hgD.use
  refine w_seq ?_
  refine w_region ?_
  refine wl_det rfl rfl rfl (op_assign rfl) ?_
  refine wl_det rfl rfl rfl (op_assign rfl) ?_
  refine wl_nil ?_
  refine st_tn ?_
  refine w_seq ?_
  refine w_block ?_
  refine w_seq ?_
  refine w_region ?_
  refine wl_det rfl rfl rfl (op_move rfl) ?_
  refine wl_det rfl rfl rfl (op_val (v' := .bool false) (by simp) (op_eqPtr rfl Try.underlying22)) ?_
  refine wl_det rfl rfl rfl (op_assign rfl) ?_
  refine wl_nil ?_
  refine st_tn ?_
  refine w_cond_f (rfl) ?_
  refine w_seq ?_
  refine w_region ?_
  refine wl_det rfl rfl rfl (op_move rfl) ?_
  refine wl_det rfl rfl rfl (op_val (v' := .bool true) (by rw [hok.1]) (op_fn Try.func50 rfl rfl rfl (isName_any nm (by unfold maxLen; omega)))) ?_
  refine wl_det rfl rfl rfl (op_not_t rfl) ?_
  refine wl_det rfl rfl rfl (op_move rfl) ?_
  refine wl_wanted_det rfl rfl rfl rfl rfl rfl rfl (op_move rfl) ?_
  refine wl_wanted_det rfl rfl rfl rfl rfl rfl rfl (op_lenBs rfl Try.underlying9) ?_
  refine wl_wanted_det rfl rfl rfl rfl rfl rfl rfl (op_val (v' := .bool false) (by rw [decide_eq_false (by omega)]) (op_gtr rfl rfl)) ?_
  refine wl_det rfl rfl rfl (op_pick_f rfl rfl) ?_
  refine wl_det rfl rfl rfl (op_assign rfl) ?_
  refine wl_nil ?_
  refine st_tn ?_
  refine w_cond_f (rfl) ?_
  refine w_seq ?_
  refine w_region ?_
  refine wl_det rfl rfl rfl (op_move rfl) ?_
  refine wl_det rfl rfl rfl (op_val (v' := .bool false) (by rw [hdn]) (op_fn Try.func37 rfl rfl rfl (down_any s (Ent.app hdk _)))) ?_
  refine wl_det rfl rfl rfl (op_assign rfl) ?_
  refine wl_nil ?_
  refine st_tn ?_
  refine w_cond_f (rfl) ?_
  refine w_skip ?_
  refine st_bn ?_
  refine st_tn ?_
  refine w_seq ?_
  refine w_region ?_
  refine wl_det rfl rfl rfl (op_move rfl) ?_
  refine wl_det rfl rfl rfl (op_move rfl) ?_
  refine wl_op [] rfl rfl rfl rfl (op_makeMap (kt := KZ) (encV := encSV) (lab := 613)) ?_
  rintro _ _ ⟨m29, rfl, rfl⟩
  refine wl_det rfl rfl rfl (op_build tB76wn rfl rfl) ?_
  refine wl_op [] rfl rfl rfl rfl (op_box (T := 76) (l := 611) rfl) ?_
  rintro _ _ ⟨b31, rfl, rfl⟩
  refine wl_det rfl rfl rfl (op_assign rfl) ?_
  refine wl_nil ?_
  refine st_tn ?_
  refine w_seq ?_
  refine w_seq ?_
  refine w_emp 612 (slO_nil 87 4) ?_
  refine w_emp 614 (slO_nil 9 1) ?_
  refine w_region ?_
  refine wl_det rfl rfl rfl (op_move rfl) ?_
  refine wl_op [] rfl rfl rfl rfl (op_fn Try.func51 rfl rfl rfl (list_to (k := keysOf s.fs) (by unfold listO; rw [if_neg (by simp [hdn])]) 33 hgD hpD (Ent.app hdk _) (Ent.app hmk _))) ?_
  rintro _ _ ⟨a33, c33, rfl, rfl⟩
  refine wl_det rfl rfl rfl (op_lenT rfl tS35wn (Sl.ent (Sl.lab 33 rfl (by have : (keysOf s.fs).length = s.fs.length := List.length_map ..; unfold maxLen; omega)))) ?_
  refine wl_det rfl rfl rfl (op_move rfl) ?_
  refine wl_nil ?_
  refine st_tn ?_
  refine w_block ?_
  refine w_loopQ (X := Nat × Nat × OA × Nat × List (Int × List UInt8)) (fun z => z.1 ≤ (keysOf s.fs).length ∧ z.2.1 = (segsOf nm (s.fs.take z.1)).length ∧ IsMap z.2.2.2.2 first (allR (segs.take z.2.1))) (fun z => [(35, .int .i64 (z.1))]) (fun z => [(613, mp KZ encSV m29 (z.2.2.2.2)), (611, cel b31 (cellL d nm ⟨rowsOf first (segs.take (z.2.1)), [], true, false⟩ m29 (z.2.2.1) (z.2.2.2.1) none 0) 76), (612, slW 87 encRow 4 (.slice (z.2.2.1) (rowsOf first (segs.take (z.2.1))).length (z.2.2.2.1)) (rowsOf first (segs.take (z.2.1))))]) (fun z => (keysOf s.fs).length - z.1) ((0, 0, none, 0, [])) [(6, _), (33, _), (34, _)] [(614, _), (33, _)] [613, 611, 612, 614, 33] rfl (rfl) (.cons rfl (.nil _)) (.cons rfl (.cons rfl (.cons rfl (.nil _)))) (by
      try dsimp only
      exact ⟨Nat.zero_le _, by simp [segsOf_nil], by simpa [allR] using IsMap.nil first⟩) ?_
  rintro ⟨i, k, a2, c2, D⟩ ⟨hi, hk, hD⟩
  refine w_norm2 (by dsimp only [List.cons_append, List.nil_append]) (by dsimp only [List.cons_append, List.nil_append]) ?_
  try dsimp only at hi hk hD ⊢
  refine w_seq ?_
  refine w_region ?_
  refine wl_det rfl rfl rfl (op_lss rfl rfl) ?_
  refine wl_nil ?_
  refine st_tn ?_
  refine w_seq ?_
  refine w_cond_d rfl (fun hc36 => ?_) (fun hc36 => ?_)
  · -- c36.t
    obtain ⟨p, hp⟩ := getE (l := s.fs) (i := i) (by have : (keysOf s.fs).length = s.fs.length := List.length_map ..; omega)
    have hkp : (keysOf s.fs)[i]? = some p.1 := by unfold keysOf; rw [List.getElem?_map, hp]; rfl
    have hpm := List.mem_of_getElem? hp
    have hp64 := hN64 p hpm
    refine w_skip ?_
    refine st_tn ?_
    refine w_seq ?_
    refine w_block ?_
    refine w_seq ?_
    refine w_region ?_
    refine wl_det rfl rfl rfl (op_idx rfl rfl tS35wn (Sl.ent (Sl.lab 33 rfl (by have : (keysOf s.fs).length = s.fs.length := List.length_map ..; unfold maxLen; omega))) (by omega)) ?_
    refine wl_det rfl rfl rfl (op_ldx rfl tO9wn (Sl.lab 33 rfl (by have : (keysOf s.fs).length = s.fs.length := List.length_map ..; unfold maxLen; omega)) (by assumption) (by rfl)) ?_
    refine wl_det rfl rfl rfl (op_assign rfl) ?_
    refine wl_nil ?_
    refine st_tn ?_
    refine w_seq ?_
    by_cases hpn : (parseN nm p.1).isSome = true
    · -- hpn+
      obtain ⟨n, hn⟩ := Option.isSome_iff_exists.1 hpn
      obtain ⟨hpe, hn1, hn2⟩ := parse_some hn
      have hget := segs_get hp hn
      rw [← hk] at hget
      obtain ⟨x, hx, hxn, t, htorn, hdat⟩ := holds_at hH hget
      dsimp only at hxn hdat
      have hxm := List.mem_of_getElem? hx
      have hxg := hS.grp x hxm
      have hsn : segs.take (k + 1) = segs.take k ++ [x] := take_snoc hx
      have hall := allR_take_le segs (k + 1)
      rw [hsn, allR_app, allR_one, List.length_append] at hall
      have hread := read_at hgD hdn hpm false
      rw [if_neg (by simp), hdat, hpe] at hread
      have hus := le_used hpm
      rw [hdat] at hus
      have hrows : rowsOf first (segs.take k) ++ [(n, first + (allR (segs.take k)).length, first + (allR (segs.take k)).length + x.gs.flatten.length - 1, x.gs.length)] = rowsOf first (segs.take (k + 1)) := by
        rw [hsn, rowsOf_app, rowsOf_one, hxn]; rfl
      have hgrt : ∀ y ∈ segs.take k, y.gs ≠ [] ∧ ∀ g ∈ y.gs, OkG g := fun y hy => hS.grp y (List.mem_of_mem_take hy)
      have hrl := rowsOf_len (segs.take k) first
      rw [List.length_take] at hrl
      refine w_region ?_
      refine wl_det rfl rfl rfl (op_move rfl) ?_
      refine wl_det rfl rfl rfl (op_move rfl) ?_
      refine wl_det rfl rfl rfl (op_val (v' := .tuple #[.int .i64 (n : Int), .bool true]) (by rw [hn]; rfl) (op_fn Try.func52 rfl rfl rfl (parse_any p.1 (by omega) (by omega) (celLg 611 rfl)))) ?_
      refine wl_det rfl rfl rfl (op_move rfl) ?_
      refine wl_det rfl rfl rfl (op_extract rfl rfl) ?_
      refine wl_det rfl rfl rfl (op_extract rfl rfl) ?_
      refine wl_det rfl rfl rfl (op_assign rfl) ?_
      refine wl_det rfl rfl rfl (op_assign rfl) ?_
      refine wl_nil ?_
      refine st_tn ?_
      refine w_seq ?_
      refine w_region ?_
      refine wl_det rfl rfl rfl (op_move rfl) ?_
      refine wl_nil ?_
      refine st_tn ?_
      refine w_cond_t (rfl) ?_
      refine w_seq ?_
      refine w_region ?_
      refine wl_det rfl rfl rfl (op_move rfl) ?_
      refine wl_det rfl rfl rfl (op_move rfl) ?_
      refine wl_op [611, 612, 613] rfl rfl rfl rfl (op_fn Try.func53 rfl rfl rfl (load_any (F0 := first) (v := ⟨rowsOf first (segs.take k), [], true, false⟩) (all := allR (segs.take k)) (gs := x.gs) (t := t) n (first + (allR (segs.take k)).length) hgD hpD (Ent.app hdk _) (Ent.app hmk _) hread (by omega) hn2 hxg.1 hxg.2 htorn (by omega) (by show _ + x.recs.length ≤ _; omega) hD rfl rfl (fun h => lastV_rows hgrt (fun h2 => h (by rw [h2]; rfl))) (fun r hr => by obtain ⟨y, hy, hy2, _⟩ := rows_mem (List.mem_of_getLast? hr); rw [hy2, hxn]; have := pw_take hS.inc hx hy; omega) (by show (rowsOf first (segs.take k)).length ≤ _; omega) (fun r hr => by obtain ⟨y, hy, _, hy3⟩ := rows_mem hr; rw [hy3]; have h1 := gs_le (hgrt y hy); have h2 := recs_le (List.mem_of_mem_take hy); omega))) ?_
      rintro _ _ ⟨a48, c48, l48, hl48, rfl, rfl⟩
      refine wl_det rfl rfl rfl (op_assign rfl) ?_
      refine wl_nil ?_
      refine st_tn ?_
      refine w_seq ?_
      refine w_region ?_
      refine wl_det rfl rfl rfl (op_move rfl) ?_
      refine wl_det rfl rfl rfl (op_val (v' := .bool false) (by rfl) (op_neq rfl rfl)) ?_
      refine wl_nil ?_
      refine st_tn ?_
      refine w_cond_f (rfl) ?_
      refine w_skip ?_
      refine st_bn ?_
      refine st_tn ?_
      refine w_region ?_
      refine wl_det rfl rfl rfl (op_add' rfl rfl (by omega)) ?_
      refine wl_det rfl rfl rfl (op_move rfl) ?_
      refine wl_nil ?_
      refine st_roundQ (x := (i, k, a2, c2, D)) ((i + 1, k + 1, a48, c48, l48)) [613, 611, 612, 614, 33] rfl (by dsimp only; rw [hrows]; rfl) (.cons rfl (.nil _)) (.cons rfl (.cons rfl (.cons rfl (.nil _)))) (by
          try dsimp only
          refine ⟨by omega, ?_, ?_⟩
          · rw [segs_take hp, hn, List.length_append, ← hk]; rfl
          · rw [take_snoc hx, allR_app, allR_one]; exact hl48) (by
          try dsimp only
          omega) 
    · -- hpn-
      have hn : parseN nm p.1 = none := opt_none hpn
      refine w_region ?_
      refine wl_det rfl rfl rfl (op_move rfl) ?_
      refine wl_det rfl rfl rfl (op_move rfl) ?_
      refine wl_det rfl rfl rfl (op_val (v' := .tuple #[.int .i64 0, .bool false]) (by rw [hn]; rfl) (op_fn Try.func52 rfl rfl rfl (parse_any p.1 (by omega) (by omega) (celLg 611 rfl)))) ?_
      refine wl_det rfl rfl rfl (op_move rfl) ?_
      refine wl_det rfl rfl rfl (op_extract rfl rfl) ?_
      refine wl_det rfl rfl rfl (op_extract rfl rfl) ?_
      refine wl_det rfl rfl rfl (op_assign rfl) ?_
      refine wl_det rfl rfl rfl (op_assign rfl) ?_
      refine wl_nil ?_
      refine st_tn ?_
      refine w_seq ?_
      refine w_region ?_
      refine wl_det rfl rfl rfl (op_move rfl) ?_
      refine wl_nil ?_
      refine st_tn ?_
      refine w_cond_f (rfl) ?_
      refine w_skip ?_
      refine st_bn ?_
      refine st_tn ?_
      refine w_region ?_
      refine wl_det rfl rfl rfl (op_add' rfl rfl (by omega)) ?_
      refine wl_det rfl rfl rfl (op_move rfl) ?_
      refine wl_nil ?_
      refine st_roundQ (x := (i, k, a2, c2, D)) ((i + 1, k, a2, c2, D)) [613, 611, 612, 614, 33] rfl (rfl) (.cons rfl (.nil _)) (.cons rfl (.cons rfl (.cons rfl (.nil _)))) (by
          try dsimp only
          refine ⟨by omega, ?_, hD⟩
          rw [segs_take hp, hn, List.append_nil, ← hk]) (by
          try dsimp only
          omega) 
  · -- c36.f
    refine w_exit ?_
    refine st_te ?_
    refine st_te ?_
    refine st_be ?_
    refine st_tn ?_
    refine w_seq ?_
    refine w_region ?_
    refine wl_det rfl rfl rfl (op_move rfl) ?_
    refine wl_det rfl rfl rfl (op_assign rfl) ?_
    refine wl_det rfl rfl rfl (op_assign rfl) ?_
    refine wl_nil ?_
    refine st_tn ?_
    refine w_ret ?_
    refine st_ret (vs := [_, _]) [611, 612, 613, 614] Try.results16 ⟨rfl, ⟨rfl, trivial⟩⟩ rfl ?_
    refine ⟨[(611, _), (612, _), (613, _), (614, _)], rfl, ?_⟩
    have hke : k = segs.length := by rw [hk, take_all (by have : (keysOf s.fs).length = s.fs.length := List.length_map ..; omega), hlen]
    rw [take_all (by omega)] at hD ⊢
    exact ⟨b31, m29, a2, c2, D, hD, rfl, rfl⟩

end Go.Proofs.Ytcbigmgakdanjaa
namespace Go.Proofs.Ytcbigmgakdanjaa
open Go Go.SL Go.RowKit Go.RdM Go.WalM
set_option linter.unusedVariables false
set_option linter.unusedSimpArgs false

theorem fn_ro {P : Program} {σ : World} {F : List Res} {f : Nat} {args : List Value} (R : RL) {S : Value → RL → Prop} (h : FnT P σ (rs R ++ F) f args [] S) : FnT P σ F f args R (fun u ρ => ∃ ρ0, S u ρ0 ∧ ρ = ρ0 ++ R) := fun w hw => (h w hw).mono fun ex w' ⟨v, ρ, e1, e2, e3⟩ => ⟨v, ρ ++ R, e1, ⟨ρ, e2, rfl⟩, by unfold rs at e3 ⊢; rw [List.map_append, List.append_assoc]; exact e3⟩
theorem fn_fr {P : Program} {σ : World} {F : List Res} {f : Nat} {args : List Value} (R R2 : RL) {S : Value → RL → Prop} (h : FnT P σ (rs R2 ++ F) f args R S) : FnT P σ F f args (R ++ R2) (fun u ρ => ∃ ρ0, S u ρ0 ∧ ρ = ρ0 ++ R2) := fun w hw => (h w (by unfold rs at hw ⊢; rw [List.map_append, List.append_assoc] at hw; exact hw)).mono fun ex w' ⟨v, ρ, e1, e2, e3⟩ => ⟨v, ρ ++ R2, e1, ⟨ρ, e2, rfl⟩, by unfold rs at e3 ⊢; rw [List.map_append, List.append_assoc]; exact e3⟩
/-! ### A disk -/
def dkR (d : Nat) (s : DskM.St) : Res := fun mem => ∃ i : Nat × DskM.Files, i.2.Perm s.fs ∧ star (cel d (cellD s i.1) 90) (mp KL DskM.encF i.1 i.2) mem
abbrev DkI (s : DskM.St) := {i : Nat × DskM.Files // i.2.Perm s.fs}
theorem dk_opens {σ : World} (d : Nat) (s : DskM.St) : Opens σ [dkR d s] (DkI s) (fun i => [cel d (cellD s i.1.1) 90, mp KL DskM.encF i.1.1 i.1.2]) := fun F w h => by
  obtain ⟨i, h1⟩ := own_ex h
  obtain ⟨h2, h3⟩ := own_and h1
  exact ⟨⟨i, h2⟩, h3.unstar⟩
theorem dk_closes {σ : World} {d m : Nat} {s : DskM.St} {l : DskM.Files} (h : l.Perm s.fs) : Closes σ [cel d (cellD s m) 90, mp KL DskM.encF m l] [dkR d s] := fun F w hw => (hw.star).imp fun mem hm => ⟨(m, l), h, hm⟩
section
variable {σ : World} {F : List Res} {d : Nat} {s : DskM.St}
theorem dk_ro {f : Nat} {args : List Value} {v : Value} (lab : Nat) (h : ∀ F m l, l.Perm s.fs → Ent σ F (At ⟨d, 0, none⟩ (cellD s m)) → Mr σ F KL DskM.encF (.map (some m)) l → FnT Try.prog σ F f args [] (fun u ρ => u = v ∧ ρ = [])) : FnT Try.prog σ F f args [(lab, dkR d s)] (fun u ρ => u = v ∧ ρ = [(lab, dkR d s)]) :=
  fn_oc (dk_opens d s) rfl (R := fun i => [(601, cel d (cellD s i.1.1) 90), (602, mp KL DskM.encF i.1.1 i.1.2)]) (fun i => rfl) (fun i => fn_ro _ (h _ i.1.1 i.1.2 i.2 (Ent.lab (l := 601) rfl (says_cel 0)) (Mr.lab 602 rfl)))
    fun i u ρ ⟨ρ0, h1, h2⟩ => ⟨_, ⟨h1.1, rfl⟩, by rw [h2, h1.2]; exact dk_closes i.2⟩
theorem dk_wr {f : Nat} {args : List Value} {v : Value} {s' : DskM.St} (lab : Nat) (h : ∀ m l, l.Perm s.fs → FnT Try.prog σ F f args [(601, cel d (cellD s m) 90), (602, mp KL DskM.encF m l)] (fun u ρ => ∃ l', l'.Perm s'.fs ∧ u = v ∧ ρ = [(601, cel d (cellD s' m) 90), (602, mp KL DskM.encF m l')])) : FnT Try.prog σ F f args [(lab, dkR d s)] (fun u ρ => u = v ∧ ρ = [(lab, dkR d s')]) :=
  fn_oc (dk_opens d s) rfl (R := fun i => [(601, cel d (cellD s i.1.1) 90), (602, mp KL DskM.encF i.1.1 i.1.2)]) (fun i => rfl) (fun i => h i.1.1 i.1.2 i.2)
    fun i u ρ ⟨l', h1, h2, h3⟩ => ⟨_, ⟨h2, rfl⟩, by rw [h3]; exact dk_closes h1⟩
variable (lab : Nat)
theorem dapp_c (n x : RdM.Bs) (hg : DskM.Good s) (hn : n.length ≤ maxLen) (hx : x.length ≤ 1099511627776) : FnT Try.prog σ F 44 [.pointer (some ⟨d, 0, none⟩), .string (str n), .string (str x)] [(lab, dkR d s)] (fun u ρ => u = .int .i64 (DskM.appO s n x).1 ∧ ρ = [(lab, dkR d (DskM.appO s n x).2)]) := dk_wr lab fun m l hp => append_any n x hg hp hn hx
theorem dsyn_c (n : RdM.Bs) (hg : DskM.Good s) (hn : n.length ≤ maxLen) : FnT Try.prog σ F 48 [.pointer (some ⟨d, 0, none⟩), .string (str n)] [(lab, dkR d s)] (fun u ρ => u = .int .i64 (DskM.synO s n).1 ∧ ρ = [(lab, dkR d (DskM.synO s n).2)]) := dk_wr lab fun m l hp => sync_any n hg hp hn
theorem drem_c (n : RdM.Bs) (hg : DskM.Good s) (hn : n.length ≤ maxLen) : FnT Try.prog σ F 58 [.pointer (some ⟨d, 0, none⟩), .string (str n)] [(lab, dkR d s)] (fun u ρ => u = .int .i64 (DskM.remO s n).1 ∧ ρ = [(lab, dkR d (DskM.remO s n).2)]) := dk_wr lab fun m l hp => remove_any n hg hp hn
theorem dstart_c {a : Option Addr} {c : Nat} {sc : List Int} (hg : DskM.Good s) (hsc : Sl σ F SL.encZ 1 (.slice a sc.length c) sc) : FnT Try.prog σ F 38 [.pointer (some ⟨d, 0, none⟩), .slice a sc.length c] [(lab, dkR d s)] (fun u ρ => u = .tuple #[] ∧ ρ = [(lab, dkR d (DskM.staO s sc))]) := dk_wr lab fun m l hp => start_any hg hp hsc
theorem dlimit_c (k : Int) : FnT Try.prog σ F 36 [.pointer (some ⟨d, 0, none⟩), .int .i64 k] [(lab, dkR d s)] (fun u ρ => u = .tuple #[] ∧ ρ = [(lab, dkR d (DskM.limO s k))]) :=
  fn_oc (dk_opens d s) rfl (R := fun i => [(601, cel d (cellD s i.1.1) 90), (602, mp KL DskM.encF i.1.1 i.1.2)]) (fun i => rfl) (fun i => fn_fr [(601, cel d (cellD s i.1.1) 90)] [(602, mp KL DskM.encF i.1.1 i.1.2)] (limit_any (m := i.1.1) s k))
    fun i u ρ ⟨ρ0, h2, h3⟩ => ⟨_, ⟨h2.1, rfl⟩, by rw [h3, h2.2]; exact dk_closes (s := DskM.limO s k) i.2⟩
theorem dcrash_c : FnT Try.prog σ F 33 [.pointer (some ⟨d, 0, none⟩)] [(lab, dkR d s)] (fun u ρ => u = .tuple #[] ∧ ρ = [(lab, dkR d (DskM.craO s))]) :=
  fn_oc (dk_opens d s) rfl (R := fun i => [(601, cel d (cellD s i.1.1) 90), (602, mp KL DskM.encF i.1.1 i.1.2)]) (fun i => rfl) (fun i => fn_fr [(601, cel d (cellD s i.1.1) 90)] [(602, mp KL DskM.encF i.1.1 i.1.2)] (crash_any (m := i.1.1) s))
    fun i u ρ ⟨ρ0, h2, h3⟩ => ⟨_, ⟨h2.1, rfl⟩, by rw [h3, h2.2]; exact dk_closes (s := DskM.craO s) i.2⟩
theorem ddown_c : FnT Try.prog σ F 37 [.pointer (some ⟨d, 0, none⟩)] [(lab, dkR d s)] (fun u ρ => u = .bool s.down ∧ ρ = [(lab, dkR d s)]) := dk_ro lab fun F m l hp hd hm => down_any s hd
theorem dnew_c (n : Int) (hn : 0 ≤ n ∧ n ≤ 67108864) : FnT Try.prog σ F 32 [.int .i64 n] [] (fun u ρ => ∃ d, u = .tuple #[.pointer (some ⟨d, 0, none⟩), .int .i64 0] ∧ ρ = [(lab, dkR d (newS n))]) :=
  fn_mono (new_ok n 601 602 hn) fun u ρ w ⟨b, m, h1, h2⟩ ho => ⟨_, ⟨b, h1, rfl⟩, by subst h2; exact dk_closes (s := newS n) (List.Perm.refl _) _ _ ho⟩
end
end Go.Proofs.Ytcbigmgakdanjaa
namespace Go.Proofs.Ytcbigmgakdanjaa
open Go Go.SL Go.RowKit Go.RdM Go.WalM
set_option linter.unusedVariables false
set_option linter.unusedSimpArgs false

abbrev LgT := Nat × OA × Nat × OA × Nat × List (Int × List UInt8)
/-- The parts of a log. -/
def cL (b d : Nat) (nm : RdM.Bs) (L : Lg) (i : LgT) : RL := [(611, cel b (cellL d nm (rawL L) i.1 i.2.1 i.2.2.1 i.2.2.2.1 i.2.2.2.2.1) 76), (612, slW 87 encRow 4 (.slice i.2.1 (rowsOf L.first L.segs).length i.2.2.1) (rowsOf L.first L.segs)), (613, mp KZ encSV i.1 i.2.2.2.2.2), (614, slW 9 encT 1 (.slice i.2.2.2.1 L.pend.length i.2.2.2.2.1) L.pend)]
def lgR (b d : Nat) (nm : RdM.Bs) (L : Lg) : Res := fun mem => ∃ i : LgT, IsMap i.2.2.2.2.2 L.first (allR L.segs) ∧ star (cel b (cellL d nm (rawL L) i.1 i.2.1 i.2.2.1 i.2.2.2.1 i.2.2.2.2.1) 76) (star (slW 87 encRow 4 (.slice i.2.1 (rowsOf L.first L.segs).length i.2.2.1) (rowsOf L.first L.segs)) (star (mp KZ encSV i.1 i.2.2.2.2.2) (slW 9 encT 1 (.slice i.2.2.2.1 L.pend.length i.2.2.2.2.1) L.pend))) mem
abbrev LgI (L : Lg) := {i : LgT // IsMap i.2.2.2.2.2 L.first (allR L.segs)}
theorem unstar_at {σ : World} (A : List Res) {r r' : Res} {F : List Res} {w : World} (h : SL.Own σ (A ++ star r r' :: F) w) : SL.Own σ (A ++ r :: r' :: F) w := by
  have h1 := (h.perm List.perm_middle).unstar
  exact h1.perm ((List.perm_middle.trans (List.perm_middle.cons _)).symm)
theorem star_at {σ : World} (A : List Res) {r r' : Res} {F : List Res} {w : World} (h : SL.Own σ (A ++ r :: r' :: F) w) : SL.Own σ (A ++ star r r' :: F) w := by
  have h1 := (h.perm (List.perm_middle.trans (List.perm_middle.cons _))).star
  exact h1.perm List.perm_middle.symm
theorem own_un4 {σ : World} {r1 r2 r3 r4 : Res} {F : List Res} {w : World} (h : SL.Own σ (star r1 (star r2 (star r3 r4)) :: F) w) : SL.Own σ (r1 :: r2 :: r3 :: r4 :: F) w :=
  unstar_at [r1, r2] (unstar_at [r1] h.unstar)
theorem own_st4 {σ : World} {r1 r2 r3 r4 : Res} {F : List Res} {w : World} (h : SL.Own σ (r1 :: r2 :: r3 :: r4 :: F) w) : SL.Own σ (star r1 (star r2 (star r3 r4)) :: F) w :=
  (star_at [r1] (star_at [r1, r2] h)).star
theorem lg_opens {σ : World} (b d : Nat) (nm : RdM.Bs) (L : Lg) : Opens σ [lgR b d nm L] (LgI L) (fun i => rs (cL b d nm L i.1)) := fun F w h => by
  obtain ⟨i, h1⟩ := own_ex h
  obtain ⟨h2, h3⟩ := own_and h1
  exact ⟨⟨i, h2⟩, own_un4 h3⟩
theorem lg_closes {σ : World} {b d : Nat} {nm : RdM.Bs} {L : Lg} (i : LgT) (h : IsMap i.2.2.2.2.2 L.first (allR L.segs)) : Closes σ (rs (cL b d nm L i)) [lgR b d nm L] := fun F w hw => (own_st4 hw).imp fun mem hm => ⟨i, h, hm⟩
/-- What holds of a log and what waits. -/
structure OkL (L : Lg) : Prop where
  seg : OkS L.first L.segs
  pc : ∀ r ∈ L.pend, r.length ≤ 65536
  pl : L.pend.length ≤ 256
  sz : L.first + (allR L.segs).length ≤ 1000000000000
theorem segs_le_all {segs : List Sg} (h : ∀ x ∈ segs, x.gs ≠ [] ∧ ∀ g ∈ x.gs, OkG g) : segs.length ≤ (allR segs).length := by
  induction segs with
  | nil => simp
  | cons x l ih =>
    have h1 := OkG.recs (h x (by simp))
    have h2 := ih fun y hy => h y (by simp [hy])
    rw [allR_cons, List.length_append, List.length_cons]; omega
theorem OkL.segl {L : Lg} (h : OkL L) : L.segs.length ≤ 1000000000000 := by have := segs_le_all h.seg.grp; have := h.sz; omega
theorem OkL.rowl {L : Lg} (h : OkL L) : (rowsOf L.first L.segs).length ≤ 1000000000000 := by rw [rowsOf_len]; exact h.segl
theorem OkL.rown {L : Lg} (h : OkL L) : ∀ r ∈ rowsOf L.first L.segs, r.1 ≤ 999999 ∧ r.2.2.2 ≤ 1000000000000 := fun r hr => by
  obtain ⟨x, hx, h1, h2⟩ := rows_mem hr
  have h3 := gs_le (h.seg.grp x hx)
  have h4 := recs_le hx
  have h5 := h.sz
  have h6 := h.seg.num x hx
  omega
theorem lastV_raw {L : Lg} (h : OkS L.first L.segs) : lastV (rawL L) = if L.broken = true then 0 else lastN L := by
  obtain ⟨first, segs, pend, fresh, broken⟩ := L
  cases broken with
  | true => rfl
  | false =>
    rw [if_neg (by simp)]
    by_cases hs : segs = []
    · subst hs
      have := h.nil rfl
      unfold lastN rawL lastV; simp [rowsOf, allR]; dsimp only at this; omega
    · have := lastV_rows (f := first) (S := segs) (pend := pend) (fr := fresh) h.grp hs
      show lastV ⟨rowsOf first segs, pend, fresh, false⟩ = first + (allR segs).length - 1
      omega
theorem firstV_raw {L : Lg} (h : OkS L.first L.segs) : firstV (rawL L) = if L.broken = true then 0 else L.first := by
  obtain ⟨first, segs, pend, fresh, broken⟩ := L
  cases broken with
  | true => rfl
  | false =>
    rw [if_neg (by simp)]
    cases segs with
    | nil => have := h.nil rfl; unfold firstV rawL; simp [rowsOf]; exact this.symm
    | cons x l => unfold firstV rawL; simp [rowsOf]
theorem recs_raw {L : Lg} (h : OkS L.first L.segs) {l : List (Int × List UInt8)} (hm : IsMap l L.first (allR L.segs)) : Recs (rawL L) l (allR L.segs) := fun hb => by
  have hb : L.broken = false := hb
  rw [lastV_raw h, firstV_raw h, if_neg (by simp [hb]), if_neg (by simp [hb])]
  refine ⟨hm, ?_⟩
  have := h.pos
  unfold lastN; omega
section
variable {σ : World} {F : List Res} {b d : Nat} {nm : RdM.Bs} {L : Lg}
theorem lg_ro {f : Nat} {args : List Value} {v : Value} (lab : Nat) (hL : OkL L) (h : ∀ F m a c p cp l, IsMap l L.first (allR L.segs) → Ent σ F (At ⟨b, 0, none⟩ (cellL d nm (rawL L) m a c p cp)) → Sl σ F encRow 4 (.slice a (rawL L).rows.length c) (rawL L).rows → Mr σ F KZ encSV (.map (some m)) l → Sl σ F encT 1 (.slice p (rawL L).pend.length cp) (rawL L).pend → FnT Try.prog σ F f args [] (fun u ρ => u = v ∧ ρ = [])) : FnT Try.prog σ F f args [(lab, lgR b d nm L)] (fun u ρ => u = v ∧ ρ = [(lab, lgR b d nm L)]) :=
  fn_oc (lg_opens b d nm L) rfl (R := fun i => cL b d nm L i.1) (fun i => rfl) (fun i => fn_ro _ (h _ i.1.1 i.1.2.1 i.1.2.2.1 i.1.2.2.2.1 i.1.2.2.2.2.1 i.1.2.2.2.2.2 i.2 (Ent.lab (l := 611) rfl (says_cel 0)) (Sl.lab 612 rfl (by have := hL.rowl; show (rowsOf L.first L.segs).length ≤ _; unfold maxLen; omega)) (Mr.lab 613 rfl) (Sl.lab 614 rfl (by have := hL.pl; show L.pend.length ≤ _; unfold maxLen; omega))))
    fun i u ρ ⟨ρ0, h1, h2⟩ => ⟨_, ⟨h1.1, rfl⟩, by rw [h2, h1.2]; exact lg_closes i.1 i.2⟩
theorem lg_roS {f : Nat} {args : List Value} {V : Option Addr → Nat → Value} {E : Nat} {out : List RdM.Bs} (lab lab2 : Nat) (hL : OkL L) (h : ∀ F m a c p cp l, IsMap l L.first (allR L.segs) → Ent σ F (At ⟨b, 0, none⟩ (cellL d nm (rawL L) m a c p cp)) → Sl σ F encRow 4 (.slice a (rawL L).rows.length c) (rawL L).rows → Mr σ F KZ encSV (.map (some m)) l → Sl σ F encT 1 (.slice p (rawL L).pend.length cp) (rawL L).pend → FnT Try.prog σ F f args [] (fun u ρ => ∃ a' c', u = V a' c' ∧ ρ = [(lab2, slW E encT 1 (.slice a' out.length c') out)])) : FnT Try.prog σ F f args [(lab, lgR b d nm L)] (fun u ρ => ∃ a' c', u = V a' c' ∧ ρ = [(lab, lgR b d nm L), (lab2, slW E encT 1 (.slice a' out.length c') out)]) :=
  fn_oc (lg_opens b d nm L) rfl (R := fun i => cL b d nm L i.1) (fun i => rfl) (fun i => fn_ro _ (h _ i.1.1 i.1.2.1 i.1.2.2.1 i.1.2.2.2.1 i.1.2.2.2.2.1 i.1.2.2.2.2.2 i.2 (Ent.lab (l := 611) rfl (says_cel 0)) (Sl.lab 612 rfl (by have := hL.rowl; show (rowsOf L.first L.segs).length ≤ _; unfold maxLen; omega)) (Mr.lab 613 rfl) (Sl.lab 614 rfl (by have := hL.pl; show L.pend.length ≤ _; unfold maxLen; omega))))
    fun i u ρ ⟨ρ0, ⟨a', c', h1, h3⟩, h2⟩ => ⟨_, ⟨a', c', h1, rfl⟩, by
      rw [h2, h3]
      intro F w hw
      have h4 : SL.Own σ (rs (cL b d nm L i.1) ++ ([slW E encT 1 (.slice a' out.length c') out] ++ F)) w := hw.perm (by
        show ([slW E encT 1 (.slice a' out.length c') out] ++ rs (cL b d nm L i.1) ++ F).Perm _
        rw [← List.append_assoc]; exact List.perm_append_comm.append_right F)
      exact lg_closes i.1 i.2 _ _ h4⟩
theorem lg_wr {f : Nat} {args : List Value} {v : Value} {L' : Lg} (lab : Nat) (h : ∀ i : LgT, IsMap i.2.2.2.2.2 L.first (allR L.segs) → FnT Try.prog σ F f args (cL b d nm L i) (fun u ρ => ∃ i' : LgT, IsMap i'.2.2.2.2.2 L'.first (allR L'.segs) ∧ u = v ∧ ρ = cL b d nm L' i')) : FnT Try.prog σ F f args [(lab, lgR b d nm L)] (fun u ρ => u = v ∧ ρ = [(lab, lgR b d nm L')]) :=
  fn_oc (lg_opens b d nm L) rfl (R := fun i => cL b d nm L i.1) (fun i => rfl) (fun i => h i.1 i.2)
    fun i u ρ ⟨i', h1, h2, h3⟩ => ⟨_, ⟨h2, rfl⟩, by rw [h3]; exact lg_closes i' h1⟩
variable (lab : Nat) (hL : OkL L)
include hL
theorem llast_c : FnT Try.prog σ F 17 [.pointer (some ⟨b, 0, none⟩)] [(lab, lgR b d nm L)] (fun u ρ => u = .int .i64 ((if L.broken = true then 0 else lastN L : Nat) : Int) ∧ ρ = [(lab, lgR b d nm L)]) := by
  rw [← lastV_raw hL.seg]; exact lg_ro lab hL fun F m a c p cp l hm hd hs hm' hp => last_any hd hs
theorem lfirst_c : FnT Try.prog σ F 35 [.pointer (some ⟨b, 0, none⟩)] [(lab, lgR b d nm L)] (fun u ρ => u = .int .i64 ((if L.broken = true then 0 else L.first : Nat) : Int) ∧ ρ = [(lab, lgR b d nm L)]) := by
  rw [← firstV_raw hL.seg]; exact lg_ro lab hL fun F m a c p cp l hm hd hs hm' hp => first_any hd hs
theorem lpending_c : FnT Try.prog σ F 21 [.pointer (some ⟨b, 0, none⟩)] [(lab, lgR b d nm L)] (fun u ρ => u = .int .i64 ((if L.broken = true then 0 else L.pend.length : Nat) : Int) ∧ ρ = [(lab, lgR b d nm L)]) :=
  lg_ro lab hL fun F m a c p cp l hm hd hs hm' hp => pending_any hd hp
theorem lsegm_c (lab2 : Nat) (hnm : nm.length ≤ 64) : FnT Try.prog σ F 18 [.pointer (some ⟨b, 0, none⟩)] [(lab, lgR b d nm L)] (fun u ρ => ∃ a' c', u = .slice a' (if L.broken = true then [] else L.segs.map fun x => fileN nm x.num).length c' ∧ ρ = [(lab, lgR b d nm L), (lab2, slW 9 encT 1 (.slice a' (if L.broken = true then [] else L.segs.map fun x => fileN nm x.num).length c') (if L.broken = true then [] else L.segs.map fun x => fileN nm x.num))]) := by
  have e : ∀ (f : Nat) (S : List Sg), (rowsOf f S).map (fun r => fileN nm r.1) = S.map fun x => fileN nm x.num := fun f S => by
    induction S generalizing f with
    | nil => rfl
    | cons x S ih => rw [rowsOf, List.map_cons, List.map_cons, ih]
  rw [← e L.first L.segs]
  exact lg_roS (V := fun a' c' => .slice a' _ c') lab lab2 hL fun F m a c p cp l hm hd hs hm' hp => segm_any lab2 hd hs (fun r hr => (hL.rown r hr).1) (by have := hL.rowl; show (rowsOf L.first L.segs).length ≤ _; omega) hnm
theorem lread_c (n : Int) (hn : -9223372036854775808 ≤ n ∧ n ≤ 9223372036854775807) : FnT Try.prog σ F 30 [.pointer (some ⟨b, 0, none⟩), .int .i64 n] [(lab, lgR b d nm L)] (fun u ρ => u = .tuple #[.string (str (rdS (rawL L) (allR L.segs) n)), .int .i64 (rdE (rawL L) n)] ∧ ρ = [(lab, lgR b d nm L)]) :=
  lg_ro lab hL fun F m a c p cp l hm hd hs hm' hp => lread_any n hn (recs_raw hL.seg hm) (by rw [lastV_raw hL.seg]; have := hL.sz; split; (· omega); (· unfold lastN; omega)) hd hs hm'
theorem lreplay_c (lab2 : Nat) (n : Int) (hn : -9223372036854775808 ≤ n ∧ n ≤ 9223372036854775807) : FnT Try.prog σ F 24 [.pointer (some ⟨b, 0, none⟩), .int .i64 n] [(lab, lgR b d nm L)] (fun u ρ => ∃ a' c', u = .tuple #[.slice a' (repS (rawL L) (allR L.segs) n).length c', .int .i64 (repE (rawL L) n)] ∧ ρ = [(lab, lgR b d nm L), (lab2, slW 9 encT 1 (.slice a' (repS (rawL L) (allR L.segs) n).length c') (repS (rawL L) (allR L.segs) n))]) :=
  lg_roS (V := fun a' c' => .tuple #[.slice a' _ c', _]) lab lab2 hL fun F m a c p cp l hm hd hs hm' hp => replay_any lab2 n hn (recs_raw hL.seg hm) (by rw [lastV_raw hL.seg]; have := hL.sz; split; (· omega); (· unfold lastN; omega)) hd hs hm'
end
end Go.Proofs.Ytcbigmgakdanjaa
namespace Go.Proofs.Ytcbigmgakdanjaa
open Go Go.SL Go.RowKit Go.RdM Go.WalM
set_option linter.unusedVariables false
set_option linter.unusedSimpArgs false

theorem fn_pm {P : Program} {σ : World} {F : List Res} {f : Nat} {args : List Value} {R R' : RL} {S : Value → RL → Prop} (h : FnT P σ F f args R S) (hp : (rs R').Perm (rs R)) : FnT P σ F f args R' S := fun w hw => h w (hw.perm (hp.append_right F))
theorem Closes.pm {σ : World} {B A C : List Res} (hp : B.Perm A) (h : Closes σ A C) : Closes σ B C := fun F w hw => h F w (hw.perm (hp.append_right F))
theorem pm_in {α : Type} (a b c d : α) : [a, b, c, d].Perm [a, d, b, c] := (List.Perm.cons a (List.perm_append_comm (l₁ := [b, c]) (l₂ := [d])))
section
variable {σ : World} {F : List Res} {b d : Nat} {nm : RdM.Bs} {L : Lg}
theorem lg_wp {f : Nat} {args : List Value} {v : Value} {L' : Lg} (lab : Nat) (h : ∀ i : LgT, IsMap i.2.2.2.2.2 L.first (allR L.segs) → FnT Try.prog σ F f args (cL b d nm L i) (fun u ρ => ∃ i' : LgT, IsMap i'.2.2.2.2.2 L'.first (allR L'.segs) ∧ u = v ∧ (rs ρ).Perm (rs (cL b d nm L' i')))) : FnT Try.prog σ F f args [(lab, lgR b d nm L)] (fun u ρ => u = v ∧ ρ = [(lab, lgR b d nm L')]) :=
  fn_oc (lg_opens b d nm L) rfl (R := fun i => cL b d nm L i.1) (fun i => rfl) (fun i => h i.1 i.2)
    fun i u ρ ⟨i', h1, h2, h3⟩ => ⟨_, ⟨h2, rfl⟩, Closes.pm h3 (lg_closes i' h1)⟩
def appL (L : Lg) (r : RdM.Bs) : (Int × Int) × Lg :=
  if L.broken = true then ((0, 18), L)
  else if 65536 < r.length then ((0, 5), L)
  else if 256 ≤ L.pend.length then ((0, 6), L)
  else ((((lastN L + (L.pend.length + 1) : Nat) : Int), 0), { L with pend := L.pend ++ [r] })
theorem appL_raw (h : OkS L.first L.segs) (r : RdM.Bs) : appV (rawL L) r = ((appL L r).1, rawL (appL L r).2) ∧ (appL L r).2.first = L.first ∧ (appL L r).2.segs = L.segs := by
  have h1 := lastV_raw h
  unfold appV appL
  by_cases hb : L.broken = true
  · rw [if_pos (show (rawL L).broken = true from hb), if_pos hb]; exact ⟨rfl, rfl, rfl⟩
  · rw [if_neg (show ¬ (rawL L).broken = true from hb), if_neg hb]
    rw [if_neg hb] at h1
    by_cases h2 : 65536 < r.length
    · rw [if_pos h2, if_pos h2]; exact ⟨rfl, rfl, rfl⟩
    · rw [if_neg h2, if_neg h2]
      by_cases h3 : 256 ≤ L.pend.length
      · rw [if_pos (show 256 ≤ (rawL L).pend.length from h3), if_pos h3]; exact ⟨rfl, rfl, rfl⟩
      · rw [if_neg (show ¬ 256 ≤ (rawL L).pend.length from h3), if_neg h3, h1]; exact ⟨rfl, rfl, rfl⟩
theorem lastV_le (hL : OkL L) : lastV (rawL L) ≤ 1099511627776 := by rw [lastV_raw hL.seg]; have := hL.sz; split; (· omega); (· unfold lastN; omega)
variable (lab : Nat) (hL : OkL L)
include hL
theorem lappend_c (r : RdM.Bs) (hr : r.length ≤ 1099511627776) : FnT Try.prog σ F 14 [.pointer (some ⟨b, 0, none⟩), .string (str r)] [(lab, lgR b d nm L)] (fun u ρ => u = .tuple #[.int .i64 (appL L r).1.1, .int .i64 (appL L r).1.2] ∧ ρ = [(lab, lgR b d nm (appL L r).2)]) := by
  obtain ⟨e1, e2, e3⟩ := appL_raw hL.seg r
  refine lg_wp lab fun i hm => ?_
  refine fn_imp (fn_pm (fn_fr [(611, _), (614, _)] [(612, slW 87 encRow 4 (.slice i.2.1 (rowsOf L.first L.segs).length i.2.2.1) (rowsOf L.first L.segs)), (613, mp KZ encSV i.1 i.2.2.2.2.2)]
    (lappend_any (d := d) (m := i.1) (c := i.2.2.1) (cp := i.2.2.2.2.1) (nm := nm) (v := rawL L) (a := i.2.1) (p := i.2.2.2.1) r (lastV_le hL) hr (by have := hL.pl; show L.pend.length ≤ _; omega) (Sl.lab 612 rfl (by have := hL.rowl; show (rowsOf L.first L.segs).length ≤ _; unfold maxLen; omega)))) (pm_in _ _ _ _)) ?_
  rintro u ρ ⟨ρ0, ⟨p', cp', h1, h2⟩, rfl⟩
  refine ⟨(i.1, i.2.1, i.2.2.1, p', cp', i.2.2.2.2.2), by rw [e2, e3]; exact hm, ?_, ?_⟩
  · rw [h1, e1]
  · rw [h2, e1]
    unfold cL
    rw [e2, e3]
    exact (pm_in _ _ _ _).symm
omit hL
def discL (L : Lg) : Lg := if L.broken = true then L else { L with pend := [] }
theorem ldiscard_c : FnT Try.prog σ F 23 [.pointer (some ⟨b, 0, none⟩)] [(lab, lgR b d nm L)] (fun u ρ => u = .int .i64 (if L.broken = true then 18 else 0) ∧ ρ = [(lab, lgR b d nm (discL L))]) := by
  have e1 : discV (rawL L) = rawL (discL L) ∧ (discL L).first = L.first ∧ (discL L).segs = L.segs := by
    unfold discV discL
    by_cases hb : L.broken = true
    · rw [if_pos (show (rawL L).broken = true from hb), if_pos hb]; exact ⟨rfl, rfl, rfl⟩
    · rw [if_neg (show ¬ (rawL L).broken = true from hb), if_neg hb]; exact ⟨rfl, rfl, rfl⟩
  obtain ⟨e1, e2, e3⟩ := e1
  refine lg_wp lab fun i hm => ?_
  refine fn_imp (fn_pm (fn_fr [(611, _), (614, _)] [(612, slW 87 encRow 4 (.slice i.2.1 (rowsOf L.first L.segs).length i.2.2.1) (rowsOf L.first L.segs)), (613, mp KZ encSV i.1 i.2.2.2.2.2)]
    (discard_any (d := d) (m := i.1) (c := i.2.2.1) (cp := i.2.2.2.2.1) (nm := nm) (v := rawL L) (a := i.2.1) (p := i.2.2.2.1))) (pm_in _ _ _ _)) ?_
  rintro u ρ ⟨ρ0, ⟨p', cp', h1, h2⟩, rfl⟩
  refine ⟨(i.1, i.2.1, i.2.2.1, p', cp', i.2.2.2.2.2), by rw [e2, e3]; exact hm, h1, ?_⟩
  rw [h2, e1]
  unfold cL
  rw [e2, e3]
  exact (pm_in _ _ _ _).symm
theorem lopen_c {s : DskM.St} {first : Nat} {segs : List Sg} (lab2 : Nat) (hok : DskM.nameB nm = true ∧ nm.length ≤ 48) (hdn : s.down = false) (hgD : DskM.Good s) (hS : OkS first segs) (hH : Holds first segs (segsOf nm s.fs)) (hT : first + (allR segs).length ≤ 1099511627776) :
      FnT Try.prog σ F 16 [.pointer (some ⟨d, 0, none⟩), .string (str nm)] [(lab, dkR d s)] (fun u ρ => ∃ b, u = .tuple #[.pointer (some ⟨b, 0, none⟩), .int .i64 0] ∧ ρ = [(lab, dkR d s), (lab2, lgR b d nm ⟨first, segs, [], true, false⟩)]) :=
  fn_oc (dk_opens d s) rfl (R := fun i => [(601, cel d (cellD s i.1.1) 90), (602, mp KL DskM.encF i.1.1 i.1.2)]) (fun i => rfl) (fun i => fn_ro _ (open_ok hok hdn hgD i.2 (Ent.lab (l := 601) rfl (says_cel 0)) (Mr.lab 602 rfl) hS hH hT))
    fun i u ρ ⟨ρ0, ⟨b, m, a, c, l, hm, h1, h3⟩, h2⟩ => ⟨_, ⟨b, h1, rfl⟩, by
      rw [h2, h3]
      have h4 := lg_closes (σ := σ) (b := b) (d := d) (nm := nm) (L := ⟨first, segs, [], true, false⟩) (m, a, c, none, 0, l) hm
      exact ((h4.app (dk_closes i.2)) : Closes σ _ _) |> fun h => by
        intro F w hw
        exact (h F w hw).perm (List.Perm.swap _ _ _)⟩
end
end Go.Proofs.Ytcbigmgakdanjaa
namespace Go.Proofs.Ytcbigmgakdanjaa
open Go Go.SL Go.RowKit Go.RdM Go.WalM
set_option linter.unusedVariables false
set_option linter.unusedSimpArgs false
theorem tF76_0wr : fieldB Try.prog 76 0 0 = true := by kernel_rfl
theorem tF76_4wr : fieldB Try.prog 76 4 4 = true := by kernel_rfl
theorem tF76_5wr : fieldB Try.prog 76 5 5 = true := by kernel_rfl
theorem tMixwr : Try.prog.follows .mixedOrders = true := by kernel_rfl
theorem tO22wr : oneB Try.prog 22 = true := by kernel_rfl
theorem tO35wr : oneB Try.prog 35 = true := by kernel_rfl
theorem tS35wr : sliceB Try.prog 35 9 1 = true := by kernel_rfl
theorem tZ35wr : (Try.prog.info? 35).map (·.size) = some 1 := by kernel_rfl
theorem tZ4wr : (Try.prog.info? 4).map (·.size) = some 1 := by kernel_rfl

theorem note_rows (f : Nat) (S : List Sg) (n : Nat) (g : List RdM.Bs) : noteR (rowsOf f S) n (f + (allR S).length) g.length = rowsOf f (noteS S n g) := by
  rcases List.eq_nil_or_concat S with h | ⟨S', x, rfl⟩
  · subst h; simp [rowsOf, noteR, noteS, allR, Sg.recs]
  · rw [List.concat_eq_append]
    unfold noteR noteS
    rw [rows_last, List.getLast?_concat]
    dsimp only
    by_cases hx : x.num = n
    · rw [if_pos hx, if_pos hx, List.dropLast_concat, rowsOf_app, rowsOf_one, List.dropLast_concat, rowsOf_app, rowsOf_one, allR_app, allR_one]
      unfold Sg.recs
      rw [List.flatten_append, List.length_append, List.length_append, List.length_append, hx]
      simp [Nat.add_assoc]
    · rw [if_neg hx, if_neg hx, rowsOf_app (S' ++ [x]), rowsOf_one]
      unfold Sg.recs; simp
theorem nextV_raw (L : Lg) : nextV (rawL L) = nextN L.segs L.fresh := by
  rcases List.eq_nil_or_concat L.segs with h | ⟨S', x, h⟩
  · unfold nextV nextN rawL; dsimp only; rw [h]; rfl
  · rw [List.concat_eq_append] at h
    unfold nextV nextN rawL
    dsimp only
    rw [h, rows_last, List.getLast?_concat]
/-- What Commit does. -/
def comO (nm : RdM.Bs) (L : Lg) (s : DskM.St) : (Int × Int) × Lg × DskM.St :=
  if L.broken = true then ((0, 18), L, s)
  else if L.pend = [] then ((((lastN L : Nat) : Int), 0), L, s)
  else if (DskM.appO s (fileN nm (nextN L.segs L.fresh)) (encG (lastN L + 1) L.pend)).1 ≠ 0 then ((0, (DskM.appO s (fileN nm (nextN L.segs L.fresh)) (encG (lastN L + 1) L.pend)).1), { L with broken := decide ((DskM.appO s (fileN nm (nextN L.segs L.fresh)) (encG (lastN L + 1) L.pend)).1 = 27) }, (DskM.appO s (fileN nm (nextN L.segs L.fresh)) (encG (lastN L + 1) L.pend)).2)
  else if (DskM.synO (DskM.appO s (fileN nm (nextN L.segs L.fresh)) (encG (lastN L + 1) L.pend)).2 (fileN nm (nextN L.segs L.fresh))).1 ≠ 0 then ((0, (DskM.synO (DskM.appO s (fileN nm (nextN L.segs L.fresh)) (encG (lastN L + 1) L.pend)).2 (fileN nm (nextN L.segs L.fresh))).1), { L with broken := decide ((DskM.synO (DskM.appO s (fileN nm (nextN L.segs L.fresh)) (encG (lastN L + 1) L.pend)).2 (fileN nm (nextN L.segs L.fresh))).1 = 27) }, (DskM.synO (DskM.appO s (fileN nm (nextN L.segs L.fresh)) (encG (lastN L + 1) L.pend)).2 (fileN nm (nextN L.segs L.fresh))).2)
  else ((((lastN (commitL L) : Nat) : Int), 0), commitL L, (DskM.synO (DskM.appO s (fileN nm (nextN L.segs L.fresh)) (encG (lastN L + 1) L.pend)).2 (fileN nm (nextN L.segs L.fresh))).2)
theorem lastN_commit {L : Lg} (h : L.pend ≠ []) : commitL L = { L with segs := noteS L.segs (nextN L.segs L.fresh) L.pend, pend := [], fresh := false } := by unfold commitL; rw [if_neg h]
theorem noteS_len (S : List Sg) (n : Nat) (g : List RdM.Bs) : (noteS S n g).length ≤ S.length + 1 := by
  unfold noteS
  cases h : S.getLast? with
  | none => simp
  | some x =>
    dsimp only
    split
    · rw [List.length_append, List.length_dropLast]; simp
    · simp
theorem noteS_mem {S : List Sg} {n : Nat} {g : List RdM.Bs} {x : Sg} (h : x ∈ noteS S n g) : x ∈ S ∨ (∃ y ∈ S, y.num = n ∧ x = ⟨n, y.gs ++ [g]⟩) ∨ x = ⟨n, [g]⟩ := by
  rcases List.eq_nil_or_concat S with h0 | ⟨S', y, rfl⟩
  · subst h0
    simp [noteS] at h; exact .inr (.inr h)
  · rw [List.concat_eq_append] at h ⊢
    unfold noteS at h
    rw [List.getLast?_concat] at h
    dsimp only at h
    split at h
    · rename_i hy
      rw [List.dropLast_concat] at h
      rcases List.mem_append.1 h with h | h
      · exact .inl (List.mem_append_left _ h)
      · exact .inr (.inl ⟨y, by simp, hy, List.mem_singleton.1 h⟩)
    · rcases List.mem_append.1 h with h | h
      · exact .inl h
      · exact .inr (.inr (List.mem_singleton.1 h))
theorem nextN_le {S : List Sg} {fr : Bool} (hi : S.Pairwise (fun a b => a.num < b.num)) : ∀ x ∈ S, x.num ≤ nextN S fr ∧ (x.num = nextN S fr → S.getLast? = some x) := by
  intro x hx
  rcases List.eq_nil_or_concat S with h0 | ⟨S', y, rfl⟩
  · subst h0; simp at hx
  · rw [List.concat_eq_append] at hi hx ⊢
    unfold nextN
    rw [List.getLast?_concat]
    dsimp only
    rcases List.mem_append.1 hx with h | h
    · have h1 := (List.pairwise_append.1 hi).2.2 x h y (by simp)
      split <;> exact ⟨by omega, fun h => by omega⟩
    · rw [List.mem_singleton] at h; subst h
      split
      · exact ⟨by omega, fun h => by omega⟩
      · exact ⟨Nat.le_refl _, fun _ => rfl⟩
theorem nextN_pos {f : Nat} {S : List Sg} {fr : Bool} (h : OkS f S) : 1 ≤ nextN S fr := by
  rcases List.eq_nil_or_concat S with h0 | ⟨S', y, rfl⟩
  · subst h0; exact Nat.le_refl _
  · rw [List.concat_eq_append] at h ⊢
    have := (h.num y (by simp)).1
    unfold nextN
    rw [List.getLast?_concat]
    dsimp only
    split <;> omega
theorem oks_note {f n : Nat} {S : List Sg} {fr : Bool} {g : List RdM.Bs} (h : OkS f S) (hn : n = nextN S fr) (hg : OkG g) (hnx : n ≤ 999999) : OkS f (noteS S n g) := by
  have hle := nextN_le (fr := fr) h.inc
  rw [← hn] at hle
  have hp := nextN_pos (fr := fr) h
  rw [← hn] at hp
  refine ⟨h.pos, fun h0 => ?_, ?_, fun x hx => ?_, fun x hx => ?_⟩
  · have h2 : (allR (noteS S n g)).length = 0 := by rw [h0]; rfl
    rw [noteS_all, List.length_append] at h2
    have h1 := List.length_pos_iff.2 hg.ne
    omega
  · rcases List.eq_nil_or_concat S with h0 | ⟨S', y, rfl⟩
    · subst h0; simp [noteS]
    · rw [List.concat_eq_append] at h hle ⊢
      unfold noteS
      rw [List.getLast?_concat]
      dsimp only
      split
      · rename_i hy
        rw [List.dropLast_concat]
        have hi := List.pairwise_append.1 h.inc
        refine List.pairwise_append.2 ⟨hi.1, List.pairwise_singleton _ _, fun a ha b hb => ?_⟩
        rw [List.mem_singleton] at hb; subst hb
        show a.num < n
        rw [← hy]; exact hi.2.2 a ha y (by simp)
      · rename_i hy
        refine List.pairwise_append.2 ⟨h.inc, List.pairwise_singleton _ _, fun a ha b hb => ?_⟩
        rw [List.mem_singleton] at hb; subst hb
        show a.num < n
        have h1 := hle a ha
        rcases Nat.lt_or_ge a.num n with h2 | h2
        · exact h2
        · have h3 := h1.2 (by omega)
          rw [List.getLast?_concat] at h3
          simp at h3; subst h3; omega
  · rcases noteS_mem hx with h1 | ⟨y, h1, h2, h3⟩ | h1
    · exact h.num x h1
    · subst h3; exact ⟨hp, hnx⟩
    · subst h1; exact ⟨hp, hnx⟩
  · rcases noteS_mem hx with h1 | ⟨y, h1, h2, h3⟩ | h1
    · exact h.grp x h1
    · subst h3
      refine ⟨by simp, fun q hq => ?_⟩
      rcases List.mem_append.1 hq with hq | hq
      · exact (h.grp y h1).2 q hq
      · rw [List.mem_singleton] at hq; subst hq; exact hg
    · subst h1
      refine ⟨by simp, fun q hq => ?_⟩
      rw [List.mem_singleton] at hq; subst hq; exact hg
set_option maxHeartbeats 4000000 in
set_option maxRecDepth 100000 in
theorem commit_any {σ : World} {F : List Res} {b d m c cp : Nat} {nm : RdM.Bs} {L : Lg} {a p : Option Addr} {l : List (Int × List UInt8)} {s : DskM.St} (hL : OkL L) (hg : DskM.Good s) (hnm : nm.length ≤ 48) (hnx : nextN L.segs L.fresh ≤ 999999) (hm : IsMap l L.first (allR L.segs)) :
    FnT Try.prog σ F 15 [.pointer (some ⟨b, 0, none⟩)] [(601, dkR d s), (611, cel b (cellL d nm (rawL L) m a c p cp) 76), (612, slW 87 encRow 4 (.slice a (rowsOf L.first L.segs).length c) (rowsOf L.first L.segs)), (613, mp KZ encSV m l), (614, slW 9 encT 1 (.slice p L.pend.length cp) L.pend)]
      (fun u ρ => ∃ i : LgT, IsMap i.2.2.2.2.2 (comO nm L s).2.1.first (allR (comO nm L s).2.1.segs) ∧ u = .tuple #[.int .i64 (comO nm L s).1.1, .int .i64 (comO nm L s).1.2] ∧ ρ = (601, dkR d (comO nm L s).2.2) :: cL b d nm (comO nm L s).2.1 i) := by
  refine fn_of 77 Try.func15 rfl Try.ntmps15 rfl ?_
  have hseg := hL.seg
  have hpl := hL.pl
  have hsz := hL.sz
  have hrl := hL.rowl
  have hpos := hseg.pos
  have hlv := lastV_raw hseg
  have hnv := nextV_raw L
  refine w_seq ?_
  refine w_region ?_
  refine wl_det rfl rfl rfl (op_assign rfl) ?_
  refine wl_det rfl rfl rfl (op_assign rfl) ?_
  refine wl_nil ?_
  refine st_tn ?_
  refine w_seq ?_
  refine w_seq ?_
  refine w_region ?_
  refine wl_det rfl rfl rfl (op_move rfl) ?_
  refine wl_det rfl rfl rfl (op_fn Try.func42 rfl rfl rfl (lready_any (v := rawL L) (celLg 611 rfl))) ?_
  refine wl_det rfl rfl rfl (op_assign rfl) ?_
  refine wl_nil ?_
  refine st_tn ?_
  refine w_seq ?_
  refine w_region ?_
  refine wl_det rfl rfl rfl (op_move rfl) ?_
  refine wl_det rfl rfl rfl (op_neq rfl rfl) ?_
  refine wl_nil ?_
  refine st_tn ?_
  refine w_cond_d rfl (fun hc12 => ?_) (fun hc12 => ?_)
  · -- c12.t
    refine w_seq ?_
    refine w_region ?_
    refine wl_det rfl rfl rfl (op_move rfl) ?_
    refine wl_det rfl rfl rfl (op_assign rfl) ?_
    refine wl_det rfl rfl rfl (op_assign rfl) ?_
    refine wl_nil ?_
    refine st_tn ?_
    refine w_ret ?_
    refine st_tr ?_
    refine st_ret (vs := [_, _]) [601, 611, 612, 613, 614] Try.results15 ⟨rfl, ⟨rfl, trivial⟩⟩ rfl ?_
    refine ⟨[(601, _), (611, _), (612, _), (613, _), (614, _)], rfl, ?_⟩
    have hb : L.broken = true := ready_t hc12
    have h1 : comO nm L s = ((0, 18), L, s) := by unfold comO; rw [if_pos hb]
    have h2 : readyL (rawL L) = 18 := by unfold readyL; rw [if_pos (show (rawL L).broken = true from hb)]
    rw [h1, h2]; exact ⟨(m, a, c, p, cp, l), hm, rfl, rfl⟩
  · -- c12.f
    have hb : L.broken = false := ready_f hc12
    have hbf : ¬ L.broken = true := by simp [hb]
    rw [if_neg hbf] at hlv
    refine w_skip ?_
    refine st_tn ?_
    refine w_seq ?_
    refine w_seq ?_
    refine w_region ?_
    refine wl_det rfl rfl rfl (op_move rfl) ?_
    refine wl_det rfl rfl rfl (op_nilCheck rfl) ?_
    refine wl_det rfl rfl rfl (op_fieldAddr (off := 4) rfl tF76_4wr) ?_
    refine wl_det rfl rfl rfl (op_load1 rfl tO35wr (Ent.lab (l := 611) rfl (says_cel 4))) ?_
    refine wl_det rfl rfl rfl (op_lenT rfl tS35wr (Sl.ent (Sl.lab 614 rfl (by first | (unfold maxLen; omega) | (show (rowsOf L.first L.segs).length ≤ _; unfold maxLen; omega))))) ?_
    refine wl_det rfl rfl rfl (op_eql rfl rfl) ?_
    refine wl_nil ?_
    refine st_tn ?_
    refine w_cond_d rfl (fun hc19 => ?_) (fun hc19 => ?_)
    · -- c19.t
      refine w_seq ?_
      refine w_region ?_
      refine wl_det rfl rfl rfl (op_move rfl) ?_
      refine wl_det rfl rfl rfl (op_fn Try.func17 rfl rfl rfl (last_any (v := rawL L) (celLg 611 rfl) (Sl.lab 612 rfl (by show (rowsOf L.first L.segs).length ≤ _; unfold maxLen; omega)))) ?_
      refine wl_det rfl rfl rfl (op_assign rfl) ?_
      refine wl_det rfl rfl rfl (op_assign rfl) ?_
      refine wl_nil ?_
      refine st_tn ?_
      refine w_ret ?_
      refine st_tr ?_
      refine st_ret (vs := [_, _]) [601, 611, 612, 613, 614] Try.results15 ⟨rfl, ⟨rfl, trivial⟩⟩ rfl ?_
      refine ⟨[(601, _), (611, _), (612, _), (613, _), (614, _)], rfl, ?_⟩
      have hp0 : L.pend = [] := List.eq_nil_of_length_eq_zero (by omega)
      have h1 : comO nm L s = ((((lastN L : Nat) : Int), 0), L, s) := by unfold comO; rw [if_neg hbf, if_pos hp0]
      rw [h1, hlv]; exact ⟨(m, a, c, p, cp, l), hm, rfl, rfl⟩
    · -- c19.f
      have hp0 : L.pend ≠ [] := fun h => by rw [h] at hc19; exact hc19 rfl
      have hpg : OkG L.pend := ⟨hp0, hpl, hL.pc⟩
      obtain ⟨f, hf⟩ : ∃ f, f = lastN L + 1 := ⟨_, rfl⟩
      have hf2 : f = L.first + (allR L.segs).length := by rw [hf]; unfold lastN; omega
      obtain ⟨n, hn⟩ : ∃ n, n = nextN L.segs L.fresh := ⟨_, rfl⟩
      rw [← hn] at hnx hnv
      obtain ⟨A, hA⟩ : ∃ A, A = DskM.appO s (fileN nm n) (encG f L.pend) := ⟨_, rfl⟩
      obtain ⟨B, hB⟩ : ∃ B, B = DskM.synO A.2 (fileN nm n) := ⟨_, rfl⟩
      have hgA : DskM.Good A.2 := by rw [hA]; exact hg.app _ _
      have hel := encG_le (f := f) hpg (by omega)
      have hcom : comO nm L s = if A.1 ≠ 0 then ((0, A.1), { L with broken := decide (A.1 = 27) }, A.2) else if B.1 ≠ 0 then ((0, B.1), { L with broken := decide (B.1 = 27) }, B.2) else ((((lastN (commitL L) : Nat) : Int), 0), commitL L, B.2) := by
        unfold comO; rw [if_neg hbf, if_neg hp0, ← hn, ← hf, ← hA, ← hB]
      refine w_skip ?_
      refine st_tn ?_
      refine w_seq ?_
      refine w_region ?_
      refine wl_det rfl rfl rfl (op_move rfl) ?_
      refine wl_det rfl rfl rfl (op_val (v' := .int .i64 (n : Int)) (by rw [hnv]) (op_fn Try.func43 rfl rfl rfl (next_any (v := rawL L) (celLg 611 rfl) (Sl.lab 612 rfl (by show (rowsOf L.first L.segs).length ≤ _; unfold maxLen; omega)) (fun r hr => (hL.rown r hr).1)))) ?_
      refine wl_det rfl rfl rfl (op_move rfl) ?_
      refine wl_det rfl rfl rfl (op_val (v' := .int .i64 (lastN L : Int)) (by rw [hlv]) (op_fn Try.func17 rfl rfl rfl (last_any (v := rawL L) (celLg 611 rfl) (Sl.lab 612 rfl (by show (rowsOf L.first L.segs).length ≤ _; unfold maxLen; omega))))) ?_
      refine wl_det rfl rfl rfl (op_val (v' := .int .i64 (f : Int)) (by rw [hf]; rfl) (op_add' rfl rfl (by omega))) ?_
      refine wl_det rfl rfl rfl (op_assign rfl) ?_
      refine wl_det rfl rfl rfl (op_assign rfl) ?_
      refine wl_nil ?_
      refine st_tn ?_
      refine w_seq ?_
      refine w_seq ?_
      refine w_region ?_
      refine wl_det rfl rfl rfl (op_move rfl) ?_
      refine wl_det rfl rfl rfl (op_val (v' := .bool false) (by rw [decide_eq_false (by omega)]) (op_gtr rfl rfl)) ?_
      refine wl_nil ?_
      refine st_tn ?_
      refine w_cond_f (rfl) ?_
      refine w_skip ?_
      refine st_tn ?_
      refine w_seq ?_
      refine w_seq ?_
      refine w_draw (D := [⟨29, [], [], [], _, false, [], []⟩, ⟨30, [0], [], [], _, false, [], []⟩, ⟨31, [1], [], [], _, false, [], []⟩, ⟨32, [2], [], [], _, false, [], []⟩, ⟨33, [], [], [], _, false, [], []⟩, ⟨34, [], [], [], _, false, [], []⟩, ⟨35, [4, 5], [], [], _, false, [], []⟩, ⟨36, [], [], [], _, false, [], []⟩, ⟨37, [], [], [], _, false, [], []⟩, ⟨38, [8], [], [], _, false, [], []⟩, ⟨39, [9], [], [], _, false, [], []⟩, ⟨40, [10], [], [], _, false, [], []⟩, ⟨41, [7, 11], [], [], _, false, [], []⟩]) [] [0, 5, 6] [⟨29, [], [], false, [], []⟩, ⟨30, [0], [], false, [], []⟩, ⟨31, [1], [], false, [], []⟩, ⟨32, [2], [], false, [], []⟩, ⟨33, [], [], false, [], []⟩, ⟨34, [], [], false, [], []⟩, ⟨35, [4, 5], [], false, [], []⟩, ⟨36, [], [], false, [], []⟩, ⟨37, [], [], false, [], []⟩, ⟨38, [8], [], false, [], []⟩, ⟨39, [9], [], false, [], []⟩, ⟨40, [10], [], false, [], []⟩, ⟨41, [7, 11], [], false, [], []⟩] tMixwr (by rfl) (by kernel_rfl) (by rfl) (by rfl)
          ⟨.plain rfl (by intro X; exact op_move rfl),
          ⟨.plain rfl (by intro X; rintro _ _ ⟨rfl, rfl⟩; exact op_nilCheck rfl),
          ⟨.plain rfl (by intro X; rintro _ _ ⟨rfl, rfl⟩; exact op_fieldAddr (off := 0) rfl tF76_0wr),
          ⟨.plain rfl (by intro X; rintro _ _ ⟨rfl, rfl⟩; exact op_load1 rfl tO22wr (Ent.lab (l := 611) rfl (says_cel 0))),
          ⟨.plain rfl (by intro X; exact op_move rfl),
          ⟨.plain rfl (by intro X; exact op_move rfl),
          ⟨.plain rfl (by intro X; rintro _ _ ⟨rfl, rfl⟩ _ _ ⟨rfl, rfl⟩; exact op_fn Try.func45 rfl rfl rfl (file_any n hnx (by omega) (celLg (v := rawL L) 611 rfl))),
          ⟨.plain rfl (by intro X; exact op_move rfl),
          ⟨.plain rfl (by intro X; exact op_move rfl),
          ⟨.plain rfl (by intro X; rintro _ _ ⟨rfl, rfl⟩; exact op_nilCheck rfl),
          ⟨.plain rfl (by intro X; rintro _ _ ⟨rfl, rfl⟩; exact op_fieldAddr (off := 4) rfl tF76_4wr),
          ⟨.plain rfl (by intro X; rintro _ _ ⟨rfl, rfl⟩; exact op_load1 rfl tO35wr (Ent.lab (l := 611) rfl (says_cel 4))),
          ⟨.plain rfl (by intro X; rintro _ _ ⟨rfl, rfl⟩ _ _ ⟨rfl, rfl⟩; exact op_fn Try.func46 rfl rfl rfl (encode_any f L.pend (Sl.lab 614 rfl (by unfold maxLen; omega)) hpg (by omega))),
          trivial⟩⟩⟩⟩⟩⟩⟩⟩⟩⟩⟩⟩⟩ ?_
      rintro _ _ ⟨rfl, rfl⟩ _ _ ⟨rfl, rfl⟩ _ _ ⟨rfl, rfl⟩ _ _ ⟨rfl, rfl⟩ _ _ ⟨rfl, rfl⟩ _ _ ⟨rfl, rfl⟩ _ _ ⟨rfl, rfl⟩ _ _ ⟨rfl, rfl⟩ _ _ ⟨rfl, rfl⟩ _ _ ⟨rfl, rfl⟩ _ _ ⟨rfl, rfl⟩ _ _ ⟨rfl, rfl⟩ _ _ ⟨rfl, rfl⟩
      refine wl_norm (e' := [(0, _), (5, _), (6, _), (32, _), (35, _), (41, _)]) (.cons rfl (.cons rfl (.cons rfl (.cons rfl (.cons rfl (.cons rfl (.nil _))))))) (by dsimp only [cond_false, cond_true, List.nil_append, List.cons_append]) ?_
      refine wl_op [601] rfl rfl rfl rfl (op_fn Try.func44 rfl rfl rfl (dapp_c 601 (fileN nm n) (encG f L.pend) hg (by rw [len_fileN]; unfold maxLen; omega) (by omega))) ?_
      rintro _ _ ⟨rfl, rfl⟩
      refine wl_det rfl rfl rfl (op_assign rfl) ?_
      refine wl_nil ?_
      refine st_tn ?_
      refine w_seq ?_
      rw [← hA]
      refine w_region ?_
      refine wl_det rfl rfl rfl (op_move rfl) ?_
      refine wl_det rfl rfl rfl (op_neq rfl rfl) ?_
      refine wl_nil ?_
      refine st_tn ?_
      refine w_cond_d rfl (fun hc44 => ?_) (fun hc44 => ?_)
      · -- c44.t
        refine w_seq ?_
        refine w_region ?_
        refine wl_det rfl rfl rfl (op_move rfl) ?_
        refine wl_det rfl rfl rfl (op_move rfl) ?_
        refine wl_op [611] rfl rfl rfl rfl (op_fn Try.func47 rfl rfl rfl (lfail_any (v := rawL L) A.1)) ?_
        rintro _ _ ⟨rfl, rfl⟩
        refine wl_det rfl rfl rfl (op_assign rfl) ?_
        refine wl_det rfl rfl rfl (op_assign rfl) ?_
        refine wl_nil ?_
        refine st_tn ?_
        refine w_ret ?_
        refine st_tr ?_
        refine st_ret (vs := [_, _]) [601, 611, 612, 613, 614] Try.results15 ⟨rfl, ⟨rfl, trivial⟩⟩ rfl ?_
        refine ⟨[(601, _), (611, _), (612, _), (613, _), (614, _)], rfl, ?_⟩
        rw [hcom, if_pos hc44]
        exact ⟨(m, a, c, p, cp, l), hm, rfl, rfl⟩
      · -- c44.f
        refine w_skip ?_
        refine st_tn ?_
        refine w_seq ?_
        refine w_seq ?_
        refine w_draw (D := [⟨48, [], [], [], _, false, [], []⟩, ⟨49, [0], [], [], _, false, [], []⟩, ⟨50, [1], [], [], _, false, [], []⟩, ⟨51, [2], [], [], _, false, [], []⟩, ⟨52, [], [], [], _, false, [], []⟩, ⟨53, [], [], [], _, false, [], []⟩, ⟨54, [4, 5], [], [], _, false, [], []⟩]) [] [0, 5] [⟨48, [], [], false, [], []⟩, ⟨49, [0], [], false, [], []⟩, ⟨50, [1], [], false, [], []⟩, ⟨51, [2], [], false, [], []⟩, ⟨52, [], [], false, [], []⟩, ⟨53, [], [], false, [], []⟩, ⟨54, [4, 5], [], false, [], []⟩] tMixwr (by rfl) (by kernel_rfl) (by rfl) (by rfl)
            ⟨.plain rfl (by intro X; exact op_move rfl),
            ⟨.plain rfl (by intro X; rintro _ _ ⟨rfl, rfl⟩; exact op_nilCheck rfl),
            ⟨.plain rfl (by intro X; rintro _ _ ⟨rfl, rfl⟩; exact op_fieldAddr (off := 0) rfl tF76_0wr),
            ⟨.plain rfl (by intro X; rintro _ _ ⟨rfl, rfl⟩; exact op_load1 rfl tO22wr (Ent.lab (l := 611) rfl (says_cel 0))),
            ⟨.plain rfl (by intro X; exact op_move rfl),
            ⟨.plain rfl (by intro X; exact op_move rfl),
            ⟨.plain rfl (by intro X; rintro _ _ ⟨rfl, rfl⟩ _ _ ⟨rfl, rfl⟩; exact op_fn Try.func45 rfl rfl rfl (file_any n hnx (by omega) (celLg (v := rawL L) 611 rfl))),
            trivial⟩⟩⟩⟩⟩⟩⟩ ?_
        rintro _ _ ⟨rfl, rfl⟩ _ _ ⟨rfl, rfl⟩ _ _ ⟨rfl, rfl⟩ _ _ ⟨rfl, rfl⟩ _ _ ⟨rfl, rfl⟩ _ _ ⟨rfl, rfl⟩ _ _ ⟨rfl, rfl⟩
        refine wl_norm (e' := [(0, _), (5, _), (6, _), (51, _), (54, _)]) (.cons rfl (.cons rfl (.cons rfl (.cons rfl (.cons rfl (.nil _)))))) (by dsimp only [cond_false, cond_true, List.nil_append, List.cons_append]) ?_
        refine wl_op [601] rfl rfl rfl rfl (op_fn Try.func48 rfl rfl rfl (dsyn_c 601 (fileN nm n) hgA (by rw [len_fileN]; unfold maxLen; omega))) ?_
        rintro _ _ ⟨rfl, rfl⟩
        refine wl_det rfl rfl rfl (op_assign rfl) ?_
        refine wl_nil ?_
        refine st_tn ?_
        refine w_seq ?_
        rw [← hB]
        refine w_region ?_
        refine wl_det rfl rfl rfl (op_move rfl) ?_
        refine wl_det rfl rfl rfl (op_neq rfl rfl) ?_
        refine wl_nil ?_
        refine st_tn ?_
        refine w_cond_d rfl (fun hc57 => ?_) (fun hc57 => ?_)
        · -- c57.t
          refine w_seq ?_
          refine w_region ?_
          refine wl_det rfl rfl rfl (op_move rfl) ?_
          refine wl_det rfl rfl rfl (op_move rfl) ?_
          refine wl_op [611] rfl rfl rfl rfl (op_fn Try.func47 rfl rfl rfl (lfail_any (v := rawL L) B.1)) ?_
          rintro _ _ ⟨rfl, rfl⟩
          refine wl_det rfl rfl rfl (op_assign rfl) ?_
          refine wl_det rfl rfl rfl (op_assign rfl) ?_
          refine wl_nil ?_
          refine st_tn ?_
          refine w_ret ?_
          refine st_tr ?_
          refine st_ret (vs := [_, _]) [601, 611, 612, 613, 614] Try.results15 ⟨rfl, ⟨rfl, trivial⟩⟩ rfl ?_
          refine ⟨[(601, _), (611, _), (612, _), (613, _), (614, _)], rfl, ?_⟩
          rw [hcom, if_neg hc44, if_pos hc57]
          exact ⟨(m, a, c, p, cp, l), hm, rfl, rfl⟩
        · -- c57.f
          refine w_skip ?_
          refine st_tn ?_
          refine w_seq ?_
          refine w_region ?_
          refine wl_det rfl rfl rfl (op_move rfl) ?_
          refine wl_det rfl rfl rfl (op_move rfl) ?_
          refine wl_det rfl rfl rfl (op_move rfl) ?_
          refine wl_det rfl rfl rfl (op_move rfl) ?_
          refine wl_det rfl rfl rfl (op_nilCheck rfl) ?_
          refine wl_det rfl rfl rfl (op_fieldAddr (off := 4) rfl tF76_4wr) ?_
          refine wl_det rfl rfl rfl (op_load1 rfl tO35wr (Ent.lab (l := 611) rfl (says_cel 4))) ?_
          refine wl_op [611, 612, 613] rfl rfl rfl rfl (op_fn Try.func49 rfl rfl rfl (note_any (F0 := L.first) (v := rawL L) (all := allR L.segs) (g := L.pend) n f (Sl.lab 614 rfl (by unfold maxLen; omega)) ⟨List.length_pos_iff.2 hp0, by omega⟩ hnx (by omega) hm hf2 (by show (rowsOf L.first L.segs).length ≤ _; omega) (fun r hr => by have := (hL.rown r hr).2; omega))) ?_
          rintro _ _ ⟨a68, c68, l68, hl68, rfl, rfl⟩
          refine wl_nil ?_
          refine st_tn ?_
          refine w_seq ?_
          refine w_region ?_
          refine wl_det rfl rfl rfl (op_move rfl) ?_
          refine wl_det rfl rfl rfl (op_move rfl) ?_
          refine wl_det rfl rfl rfl (op_nilCheck rfl) ?_
          refine wl_det rfl rfl rfl (op_fieldAddr (off := 4) rfl tF76_4wr) ?_
          refine wl_op0 [611] rfl rfl rfl (op_store rfl rfl tZ35wr (by rfl) (by rfl) (by exact Nat.le_of_ble_eq_true rfl)) ?_
          rintro _ _ ⟨rfl, rfl⟩
          refine wl_det rfl rfl rfl (op_nilCheck rfl) ?_
          refine wl_det rfl rfl rfl (op_fieldAddr (off := 5) rfl tF76_5wr) ?_
          refine wl_op0 [611] rfl rfl rfl (op_store rfl rfl tZ4wr (by rfl) (by rfl) (by exact Nat.le_of_ble_eq_true rfl)) ?_
          rintro _ _ ⟨rfl, rfl⟩
          refine wl_nil ?_
          refine st_tn ?_
          refine w_seq ?_
          refine w_emp 615 (slO_nil 9 1) ?_
          have hnr : noteR (rowsOf L.first L.segs) n f L.pend.length = rowsOf L.first (noteS L.segs n L.pend) := by rw [hf2]; exact note_rows _ _ _ _
          have hna := noteS_all L.segs n L.pend
          refine w_region ?_
          refine wl_det rfl rfl rfl (op_move rfl) ?_
          refine wl_det rfl rfl rfl (op_fn Try.func17 rfl rfl rfl (last_any (v := ⟨noteR (rowsOf L.first L.segs) n f L.pend.length, [], false, L.broken⟩) (p := none) (cp := 0) (celLg 611 rfl) (Sl.lab 612 rfl (by show (noteR (rowsOf L.first L.segs) n f L.pend.length).length ≤ _; rw [hnr, rowsOf_len]; have := noteS_len L.segs n L.pend; rw [rowsOf_len] at hrl; unfold maxLen; omega)))) ?_
          refine wl_det rfl rfl rfl (op_assign rfl) ?_
          refine wl_det rfl rfl rfl (op_assign rfl) ?_
          refine wl_nil ?_
          refine st_tn ?_
          refine w_ret ?_
          refine st_ret (vs := [_, _]) [601, 611, 612, 613, 615] Try.results15 ⟨rfl, ⟨rfl, trivial⟩⟩ rfl ?_
          refine ⟨[(601, _), (611, _), (612, _), (613, _), (614, _)], rfl, ?_⟩
          have hcl : commitL L = { L with segs := noteS L.segs n L.pend, pend := [], fresh := false } := by rw [lastN_commit hp0, ← hn]
          have hls : lastV ⟨noteR (rowsOf L.first L.segs) n f L.pend.length, [], false, L.broken⟩ = lastN (commitL L) := by
            have h1 := lastV_raw (L := commitL L) (by rw [hcl]; exact oks_note hseg hn hpg hnx)
            rw [hcl] at h1 ⊢
            rw [if_neg hbf] at h1
            rw [← h1, hnr]; rfl
          rw [hcom, if_neg hc44, if_neg hc57, hls, hcl]
          refine ⟨(m, a68, c68, none, 0, l68), by rw [hna]; exact hl68, rfl, ?_⟩
          unfold cL rawL
          dsimp only
          rw [← hnr]; rfl

end Go.Proofs.Ytcbigmgakdanjaa
namespace Go.Proofs.Ytcbigmgakdanjaa
open Go Go.SL Go.RowKit Go.RdM Go.WalM
set_option linter.unusedVariables false
set_option linter.unusedSimpArgs false

theorem opens_id {σ : World} (A : List Res) : Opens σ A Unit (fun _ => A) := fun F w h => ⟨(), h⟩
theorem commit_c {σ : World} {F : List Res} {b d : Nat} {nm : RdM.Bs} {L : Lg} {s : DskM.St} (lab1 lab2 : Nat) (hL : OkL L) (hg : DskM.Good s) (hnm : nm.length ≤ 48) (hnx : nextN L.segs L.fresh ≤ 999999) :
    FnT Try.prog σ F 15 [.pointer (some ⟨b, 0, none⟩)] [(lab1, dkR d s), (lab2, lgR b d nm L)] (fun u ρ => u = .tuple #[.int .i64 (comO nm L s).1.1, .int .i64 (comO nm L s).1.2] ∧ ρ = [(lab1, dkR d (comO nm L s).2.2), (lab2, lgR b d nm (comO nm L s).2.1)]) :=
  fn_oc ((opens_id [dkR d s]).app (lg_opens b d nm L)) rfl (R := fun i => (601, dkR d s) :: cL b d nm L i.2.1) (fun i => rfl) (fun i => commit_any hL hg hnm hnx i.2.2)
    fun i u ρ ⟨j, h1, h2, h3⟩ => ⟨[(lab1, dkR d (comO nm L s).2.2), (lab2, lgR b d nm (comO nm L s).2.1)], ⟨h2, rfl⟩, by rw [h3]; exact Closes.app (Closes.refl [dkR d (comO nm L s).2.2]) (lg_closes j h1)⟩
/-! ### A disk that does not fail -/
theorem inR_file {nm : RdM.Bs} (h : DskM.nameB nm = true ∧ nm.length ≤ 48) (n : Nat) : DskM.nameB (fileN nm n) = true := by
  obtain ⟨h1, h2⟩ := h
  rw [nameB_iff] at h1 ⊢
  obtain ⟨h3, h4, h5⟩ := of_decide_eq_true h1
  refine decide_eq_true ⟨fun e => ?_, by rw [len_fileN]; omega, fun b hb => ?_⟩
  · have := congrArg List.length e
    rw [len_fileN] at this; simp at this
  · unfold fileN at hb
    rcases List.mem_append.1 hb with hb | hb
    · rcases List.mem_append.1 hb with hb | hb
      · exact h5 b hb
      · rw [List.mem_singleton] at hb; subst hb; decide
    · have := isD_dig 6 n b hb; omega
def oldD (s : DskM.St) (n : RdM.Bs) : RdM.Bs := ((DskM.find s.fs n).getD DskM.zeroF).data
/-- The disk with bytes more, all durable. -/
def addD (s : DskM.St) (n x : RdM.Bs) : DskM.St := { s with fs := DskM.setS s.fs n ⟨oldD s n ++ x, (oldD s n ++ x).length, true⟩ }
theorem ready_ok {s : DskM.St} (hd : s.down = false) {n : RdM.Bs} (hn : DskM.nameB n = true) : ¬ DskM.readyE s [n] ≠ 0 := by
  unfold DskM.readyE; rw [if_neg (by simp [hd]), if_pos (by simp [hn])]; simp
theorem oper_q {s : DskM.St} (hl : s.lim = false) : DskM.oper s = (true, s) := by unfold DskM.oper; rw [if_neg (by simp [hl])]
theorem set_two {k : RdM.Bs} {f g : DskM.Fl} {fs : DskM.Files} (hi : DskM.Inc fs) : DskM.setS (DskM.setS fs k g) k f = DskM.setS fs k f :=
  DskM.Inc.ext hi.set.set hi.set fun k' => by
    rw [DskM.find_set hi.set, DskM.find_set hi, DskM.find_set hi]; split <;> rfl
theorem app_q {s : DskM.St} (hd : s.down = false) (hl : s.lim = false) {n x : RdM.Bs} (hn : DskM.nameB n = true) (hc : s.fs.length < 256) (hu : (DskM.used s.fs + x.length : Int) ≤ s.cap) : DskM.appO s n x = (0, DskM.grown s n x) := by
  rw [app_done (ready_ok hd hn) (fun h => by have := h.2; omega) (by omega)]
  have : DskM.oper (DskM.grown s n x) = (true, DskM.grown s n x) := oper_q hl
  rw [this]; rfl
theorem syn_q {s : DskM.St} (hi : DskM.Inc s.fs) (hd : s.down = false) (hl : s.lim = false) {n x : RdM.Bs} (hn : DskM.nameB n = true) : DskM.synO (DskM.grown s n x) n = (0, addD s n x) := by
  have hf : DskM.find (DskM.grown s n x).fs n = some { (DskM.find s.fs n).getD DskM.zeroF with data := oldD s n ++ x } := by
    show DskM.find (DskM.setS s.fs n _) n = _
    rw [DskM.find_set hi, if_pos rfl]; rfl
  have ho : DskM.oper (DskM.grown s n x) = (true, DskM.grown s n x) := oper_q hl
  rw [syn_done (ready_ok (s := DskM.grown s n x) hd hn) hf (by rw [ho]), ho]
  unfold DskM.grown addD
  dsimp only
  rw [set_two hi]
theorem com_q {nm : RdM.Bs} {L : Lg} {s : DskM.St} (hnm : DskM.nameB nm = true ∧ nm.length ≤ 48) (hg : DskM.Good s) (hd : s.down = false) (hl : s.lim = false) (hb : L.broken = false) (hp : L.pend ≠ []) (hc : s.fs.length < 256) (hu : (DskM.used s.fs + (encG (lastN L + 1) L.pend).length : Int) ≤ s.cap) :
    comO nm L s = ((((lastN (commitL L) : Nat) : Int), 0), commitL L, addD s (fileN nm (nextN L.segs L.fresh)) (encG (lastN L + 1) L.pend)) := by
  have hn := inR_file hnm (nextN L.segs L.fresh)
  unfold comO
  rw [if_neg (by simp [hb]), if_neg hp, app_q hd hl hn hc hu]
  dsimp only
  rw [syn_q hg.inc hd hl hn, if_neg (by simp), if_neg (by simp)]
theorem com_none {nm : RdM.Bs} {L : Lg} {s : DskM.St} (hb : L.broken = false) (hp : L.pend = []) : comO nm L s = ((((lastN L : Nat) : Int), 0), L, s) := by
  unfold comO; rw [if_neg (by simp [hb]), if_pos hp]
/-! ### What a disk holds of a log -/
structure OnD (nm : RdM.Bs) (L : Lg) (s : DskM.St) : Prop where
  holds : Holds L.first L.segs (segsOf nm s.fs)
  tail : L.fresh = false → ∀ S x, L.segs = S ++ [x] → ∃ Q q, segsOf nm s.fs = Q ++ [q] ∧ q.2.data = encGs (L.first + (allR S).length) x.gs
theorem holds_snoc : ∀ {f : Nat} {S : List Sg} {Q : List (Nat × DskM.Fl)} {x : Sg} {q : Nat × DskM.Fl}, Holds f S Q → q.1 = x.num → (∃ t, Torn (f + (allR S).length + x.recs.length) t ∧ q.2.data = encGs (f + (allR S).length) x.gs ++ t) → Holds f (S ++ [x]) (Q ++ [q])
  | f, [], [], x, q, _, h1, h2 => ⟨h1, by simpa [allR] using h2, trivial⟩
  | f, y :: S, p :: Q, x, q, h, h1, h2 => ⟨h.1, h.2.1, holds_snoc h.2.2 h1 (by rw [allR_cons, List.length_append, ← Nat.add_assoc] at h2; exact h2)⟩
  | _, [], _ :: _, _, _, h, _, _ => h.elim
  | _, _ :: _, [], _, _, h, _, _ => h.elim
theorem holds_split : ∀ {f : Nat} {S : List Sg} {Q : List (Nat × DskM.Fl)} {x : Sg}, Holds f (S ++ [x]) Q → ∃ Q' q, Q = Q' ++ [q] ∧ Holds f S Q' ∧ q.1 = x.num
  | f, [], [q], x, h => ⟨[], q, rfl, trivial, h.1⟩
  | f, [], [], x, h => h.elim
  | f, [], _ :: _ :: _, x, h => h.2.2.elim
  | f, y :: S, p :: Q, x, h => by
    obtain ⟨Q', q, h1, h2, h3⟩ := holds_split h.2.2
    exact ⟨p :: Q', q, by rw [h1]; rfl, ⟨h.1, h.2.1, h2⟩, h3⟩
  | f, y :: S, [], x, h => h.elim
theorem holds_num : ∀ {f : Nat} {S : List Sg} {Q : List (Nat × DskM.Fl)}, Holds f S Q → ∀ q ∈ Q, ∃ x ∈ S, q.1 = x.num
  | f, [], [], h, q, hq => by simp at hq
  | f, y :: S, p :: Q, h, q, hq => by
    rcases List.mem_cons.1 hq with rfl | hq
    · exact ⟨y, by simp, h.1⟩
    · obtain ⟨x, h1, h2⟩ := holds_num h.2.2 q hq
      exact ⟨x, by simp [h1], h2⟩
  | _, [], _ :: _, h, _, _ => h.elim
  | _, _ :: _, [], h, _, _ => h.elim
theorem onD_commit {nm : RdM.Bs} {L : Lg} {s : DskM.St} (hL : OkL L) (hO : OnD nm L s) (hi : DskM.Inc s.fs) (hp : L.pend ≠ []) (hnx : nextN L.segs L.fresh ≤ 999999) : OnD nm (commitL L) (addD s (fileN nm (nextN L.segs L.fresh)) (encG (lastN L + 1) L.pend)) := by
  obtain ⟨n, hn⟩ : ∃ n, n = nextN L.segs L.fresh := ⟨_, rfl⟩
  have hn1 := nextN_pos (fr := L.fresh) hL.seg
  have hle := nextN_le (fr := L.fresh) hL.seg.inc
  have hpos := hL.seg.pos
  have hf2 : lastN L + 1 = L.first + (allR L.segs).length := by unfold lastN; omega
  rw [← hn] at hnx hn1 hle ⊢
  have hqle : ∀ q ∈ segsOf nm s.fs, q.1 ≤ n := fun q hq => by
    obtain ⟨x, h1, h2⟩ := holds_num hO.holds q hq
    rw [h2]; exact (hle x h1).1
  have hset := segs_set (nm := nm) (n := n) (f := ⟨oldD s (fileN nm n) ++ encG (lastN L + 1) L.pend, (oldD s (fileN nm n) ++ encG (lastN L + 1) L.pend).length, true⟩) ⟨hn1, hnx⟩ hi hqle
  rw [lastN_commit hp, ← hn]
  by_cases hlast : ∃ S x, L.segs = S ++ [x] ∧ x.num = n
  · obtain ⟨S, x, hS, hx⟩ := hlast
    have hfr : L.fresh = false := by
      cases hfr : L.fresh with
      | false => rfl
      | true =>
        rw [hfr, hS] at hn
        unfold nextN at hn
        rw [List.getLast?_concat] at hn
        simp at hn; omega
    obtain ⟨Q, q, hQ, hqd⟩ := hO.tail hfr S x hS
    have hh := hO.holds
    rw [hS] at hh
    obtain ⟨Q', q', h1, h2, h3⟩ := holds_split hh
    rw [hQ] at h1
    obtain ⟨e1, e2⟩ := List.append_inj' h1 rfl
    subst e1
    have e3 : q = q' := by simpa using e2
    subst e3
    have hnoteq : noteS L.segs n L.pend = S ++ [⟨n, x.gs ++ [L.pend]⟩] := by rw [hS, ← hx]; exact noteS_old (S := S) (n := x.num) (gs := x.gs)
    have hmem : (n, q.2) ∈ segsOf nm s.fs := by rw [hQ]; rw [← hx, ← h3]; simp
    have hold : oldD s (fileN nm n) = q.2.data := by unfold oldD; rw [find_seg hi hmem]; rfl
    have hfil : (segsOf nm s.fs).filter (fun q => decide (q.1 ≠ n)) = Q := by
      rw [hQ, List.filter_append]
      have e1 : Q.filter (fun q => decide (q.1 ≠ n)) = Q := by
        rw [List.filter_eq_self]
        intro y hy
        obtain ⟨z, hz1, hz2⟩ := holds_num h2 y hy
        have := (List.pairwise_append.1 (hS ▸ hL.seg.inc)).2.2 z hz1 x (by simp)
        exact decide_eq_true (by omega)
      rw [e1, List.filter_cons, if_neg (by simp [h3, hx])]; simp
    have hdata : oldD s (fileN nm n) ++ encG (lastN L + 1) L.pend = encGs (L.first + (allR S).length) (x.gs ++ [L.pend]) := by
      rw [hold, hqd, encGs_app, encGs_one, hf2, hS, allR_app, allR_one, List.length_append, ← Nat.add_assoc]; rfl
    rw [hfil, hdata] at hset
    constructor
    · show Holds L.first (noteS L.segs n L.pend) (segsOf nm (addD s (fileN nm n) _).fs)
      unfold addD
      dsimp only
      rw [hdata, hset, hnoteq]
      exact holds_snoc h2 rfl ⟨[], .inl rfl, by simp⟩
    · intro _ S1 x1 hS1
      change noteS L.segs n L.pend = S1 ++ [x1] at hS1
      rw [hnoteq] at hS1
      obtain ⟨e1, e2⟩ := List.append_inj' hS1 rfl
      have e3 : (⟨n, x.gs ++ [L.pend]⟩ : Sg) = x1 := by simpa using e2
      subst e1; subst e3
      refine ⟨Q, (n, ⟨encGs (L.first + (allR S).length) (x.gs ++ [L.pend]), (encGs (L.first + (allR S).length) (x.gs ++ [L.pend])).length, true⟩), ?_, ?_⟩
      · show segsOf nm (DskM.setS s.fs (fileN nm n) _) = _
        rw [hdata]; exact hset
      · rfl
  · have hnew : ∀ y, L.segs.getLast? = some y → y.num ≠ n := fun y hy hyn => by
      obtain ⟨S, hS⟩ := List.getLast?_eq_some_iff.1 hy
      exact hlast ⟨S, y, hS, hyn⟩
    have hnoteq := noteS_new (g := L.pend) hnew
    have hne : ∀ q ∈ segsOf nm s.fs, q.1 ≠ n := fun q hq hqn => by
      obtain ⟨x, h1, h2⟩ := holds_num hO.holds q hq
      exact hnew x ((hle x h1).2 (by omega)) (by omega)
    have hold : oldD s (fileN nm n) = [] := by unfold oldD; rw [WalM.find_none hi ⟨hn1, hnx⟩ hne]; rfl
    have hfil : (segsOf nm s.fs).filter (fun q => decide (q.1 ≠ n)) = segsOf nm s.fs := by
      rw [List.filter_eq_self]; intro y hy; exact decide_eq_true (hne y hy)
    have hdata : oldD s (fileN nm n) ++ encG (lastN L + 1) L.pend = encGs (L.first + (allR L.segs).length) [L.pend] := by rw [hold, encGs_one, hf2]; rfl
    rw [hfil, hdata] at hset
    constructor
    · show Holds L.first (noteS L.segs n L.pend) (segsOf nm (addD s (fileN nm n) _).fs)
      unfold addD
      dsimp only
      rw [hdata, hset, hnoteq]
      exact holds_snoc hO.holds rfl ⟨[], .inl rfl, by simp⟩
    · intro _ S1 x1 hS1
      change noteS L.segs n L.pend = S1 ++ [x1] at hS1
      rw [hnoteq] at hS1
      obtain ⟨e1, e2⟩ := List.append_inj' hS1 rfl
      have e3 : (⟨n, [L.pend]⟩ : Sg) = x1 := by simpa using e2
      subst e1; subst e3
      refine ⟨segsOf nm s.fs, (n, ⟨encGs (L.first + (allR L.segs).length) [L.pend], (encGs (L.first + (allR L.segs).length) [L.pend]).length, true⟩), ?_, ?_⟩
      · show segsOf nm (DskM.setS s.fs (fileN nm n) _) = _
        rw [hdata]; exact hset
      · rfl
end Go.Proofs.Ytcbigmgakdanjaa
namespace Go.Proofs.Ytcbigmgakdanjaa
open Go Go.SL Go.RowKit Go.RdM Go.WalM
set_option linter.unusedVariables false
set_option linter.unusedSimpArgs false

/-- The length of a group. -/
theorem sum_txt2 : ∀ {g : List RdM.Bs}, (∀ r ∈ g, r.length ≤ 65536) → ((g.map txt).flatten).length ≤ (g.map List.length).sum + 9 * g.length
  | [], _ => by simp
  | x :: g, h => by
    have h1 := sum_txt2 (g := g) fun r hr => h r (by simp [hr])
    have h2 := h x (by simp)
    have h3 := txt_le (x := x) (by omega)
    simp only [List.map_cons, List.flatten_cons, List.length_append, List.length_cons, List.sum_cons] at h1 ⊢
    omega
theorem encG_sum {f : Nat} {g : List RdM.Bs} (hg : OkG g) (hf : f ≤ 1099511627776) : (encG f g).length ≤ (g.map List.length).sum + 9 * g.length + 36 := by
  have hb : (body f g).length ≤ (g.map List.length).sum + 9 * g.length + 18 := by
    unfold body
    have h1 := encN_le (x := (f : Int)) (by omega)
    have hl := hg.len
    have h2 := encN_le (x := (g.length : Int)) (by omega)
    have h3 := sum_txt2 hg.rc
    rw [List.length_append, List.length_append]; omega
  have hbl := body_le hg hf
  unfold encG
  have h2 := txt_le (x := body f g) (by omega)
  have h3 := crc_lt (body f g)
  have h4 := encN_le (x := (crc (body f g) : Int)) (by omega)
  rw [List.length_append]; omega
def newL : Lg := ⟨1, [], [], true, false⟩
theorem oks_nil : OkS 1 [] := ⟨Nat.le_refl _, fun _ => rfl, List.Pairwise.nil, fun x hx => by simp at hx, fun x hx => by simp at hx⟩
theorem okl_new : OkL newL := ⟨oks_nil, fun r hr => by simp [newL] at hr, by simp [newL], by simp [newL, allR]⟩
theorem onD_new (nm : RdM.Bs) (n : Int) : OnD nm newL (newS n) := ⟨trivial, fun h => by simp [newL] at h⟩
set_option maxHeartbeats 400000 in
set_option maxRecDepth 100000 in
theorem made_c {σ : World} {F : List Res} (lab1 lab2 : Nat) (n : Int) (nm : RdM.Bs) (hn : 0 ≤ n ∧ n ≤ 67108864) (hok : DskM.nameB nm = true ∧ nm.length ≤ 48) :
    FnT Try.prog σ F 12 [.int .i64 n, .string (str nm)] [] (fun u ρ => ∃ d b, u = .tuple #[.pointer (some ⟨d, 0, none⟩), .pointer (some ⟨b, 0, none⟩)] ∧ ρ = [(lab1, dkR d (newS n)), (lab2, lgR b d nm newL)]) := by
  refine fn_of 26 Try.func12 rfl Try.ntmps12 rfl ?_
  refine w_seq ?_
  refine w_region ?_
  refine wl_det rfl rfl rfl (op_assign rfl) ?_
  refine wl_det rfl rfl rfl (op_assign rfl) ?_
  refine wl_nil ?_
  refine st_tn ?_
  refine w_seq ?_
  refine w_region ?_
  refine wl_det rfl rfl rfl (op_move rfl) ?_
  refine wl_op [] rfl rfl rfl rfl (op_fn Try.func32 rfl rfl rfl (dnew_c 601 n hn)) ?_
  rintro _ _ ⟨d11, rfl, rfl⟩
  refine wl_det rfl rfl rfl (op_move rfl) ?_
  refine wl_det rfl rfl rfl (op_extract rfl rfl) ?_
  refine wl_det rfl rfl rfl (op_extract rfl rfl) ?_
  refine wl_det rfl rfl rfl (op_assign rfl) ?_
  refine wl_det rfl rfl rfl (op_assign rfl) ?_
  refine wl_nil ?_
  refine st_tn ?_
  refine w_seq ?_
  refine w_seq ?_
  refine w_region ?_
  refine wl_det rfl rfl rfl (op_move rfl) ?_
  refine wl_det rfl rfl rfl (op_val (v' := .bool false) (by rfl) (op_neq rfl rfl)) ?_
  refine wl_nil ?_
  refine st_tn ?_
  refine w_cond_f (rfl) ?_
  refine w_skip ?_
  refine st_tn ?_
  refine w_seq ?_
  refine w_region ?_
  refine wl_det rfl rfl rfl (op_move rfl) ?_
  refine wl_det rfl rfl rfl (op_move rfl) ?_
  refine wl_op [601] rfl rfl rfl rfl (op_fn Try.func16 rfl rfl rfl (lopen_c (s := newS n) (first := 1) (segs := []) 601 611 hok rfl (good_new hn) oks_nil trivial (by simp [allR]))) ?_
  rintro _ _ ⟨b19, rfl, rfl⟩
  refine wl_det rfl rfl rfl (op_move rfl) ?_
  refine wl_det rfl rfl rfl (op_extract rfl rfl) ?_
  refine wl_det rfl rfl rfl (op_extract rfl rfl) ?_
  refine wl_det rfl rfl rfl (op_assign rfl) ?_
  refine wl_det rfl rfl rfl (op_assign rfl) ?_
  refine wl_nil ?_
  refine st_tn ?_
  refine w_seq ?_
  refine w_seq ?_
  refine w_region ?_
  refine wl_det rfl rfl rfl (op_move rfl) ?_
  refine wl_det rfl rfl rfl (op_val (v' := .bool false) (by rfl) (op_neq rfl rfl)) ?_
  refine wl_nil ?_
  refine st_tn ?_
  refine w_cond_f (rfl) ?_
  refine w_skip ?_
  refine st_tn ?_
  refine w_seq ?_
  refine w_region ?_
  refine wl_det rfl rfl rfl (op_move rfl) ?_
  refine wl_det rfl rfl rfl (op_move rfl) ?_
  refine wl_det rfl rfl rfl (op_assign rfl) ?_
  refine wl_det rfl rfl rfl (op_assign rfl) ?_
  refine wl_nil ?_
  refine st_tn ?_
  refine w_ret ?_
  refine st_ret (vs := [_, _]) [601, 611] Try.results12 ⟨rfl, ⟨rfl, trivial⟩⟩ rfl ?_
  refine ⟨[(lab1, _), (lab2, _)], rfl, ?_⟩
  exact ⟨_, _, rfl, rfl⟩

section
variable {σ : World} {F : List Res} {b d : Nat} {nm : RdM.Bs} {L L' : Lg} {s s' : DskM.St} (lab lab1 lab2 : Nat)
theorem lappend_to {r : RdM.Bs} {n e : Int} (h : appL L r = ((n, e), L')) (hL : OkL L) (hr : r.length ≤ 1099511627776) : FnT Try.prog σ F 14 [.pointer (some ⟨b, 0, none⟩), .string (str r)] [(lab, lgR b d nm L)] (fun u ρ => u = .tuple #[.int .i64 n, .int .i64 e] ∧ ρ = [(lab, lgR b d nm L')]) := by
  have := lappend_c (σ := σ) (F := F) (b := b) (d := d) (nm := nm) lab hL r hr
  rw [h] at this; exact this
theorem commit_to {n e : Int} (h : comO nm L s = ((n, e), L', s')) (hL : OkL L) (hg : DskM.Good s) (hnm : nm.length ≤ 48) (hnx : nextN L.segs L.fresh ≤ 999999) : FnT Try.prog σ F 15 [.pointer (some ⟨b, 0, none⟩)] [(lab1, dkR d s), (lab2, lgR b d nm L)] (fun u ρ => u = .tuple #[.int .i64 n, .int .i64 e] ∧ ρ = [(lab1, dkR d s'), (lab2, lgR b d nm L')]) := by
  have := commit_c (σ := σ) (F := F) (b := b) (d := d) lab1 lab2 hL hg hnm hnx
  rw [h] at this; exact this
end
def k1 : Lg := ⟨1, [], [[97]], true, false⟩
def k2 : Lg := ⟨1, [], [[97], [98]], true, false⟩
def k3 : Lg := ⟨1, [⟨1, [[[97], [98]]]⟩], [], false, false⟩
def k4 : Lg := ⟨1, [⟨1, [[[97], [98]]]⟩], [[99]], false, false⟩
def kS : DskM.St := addD (newS 262144) (fileN [108, 111, 103] 1) (encG 1 [[97], [98]])
theorem name_log : DskM.nameB [108, 111, 103] = true ∧ ([108, 111, 103] : RdM.Bs).length ≤ 48 := by decide
theorem okl_k1 : OkL k1 := ⟨oks_nil, by decide, by decide, by decide⟩
theorem okl_k2 : OkL k2 := ⟨oks_nil, by decide, by decide, by decide⟩
theorem okg_k : OkG [[97], [98]] := ⟨by simp, by decide, by decide⟩
theorem oks_k3 : OkS 1 k3.segs := ⟨by decide, by decide, by simp [k3], by decide, fun x hx => by simp [k3] at hx; subst hx; exact ⟨by simp, fun g hg => by simp at hg; subst hg; exact okg_k⟩⟩
theorem okl_k3 : OkL k3 := ⟨oks_k3, by decide, by decide, by decide⟩
theorem good_kS : DskM.Good kS ∧ comO [108, 111, 103] k2 (newS 262144) = ((2, 0), k3, kS) ∧ OnD [108, 111, 103] k3 kS := by
  have hg : DskM.Good (newS 262144) := good_new (by decide)
  have hc := com_q (nm := [108, 111, 103]) (L := k2) (s := newS 262144) name_log hg rfl rfl rfl (by simp [k2]) (by simp [newS]) (by
    have h1 := encG_sum (f := lastN k2 + 1) (g := k2.pend) okg_k (by decide)
    have h2 : (k2.pend.map List.length).sum + 9 * k2.pend.length = 20 := rfl
    have h3 : DskM.used (newS 262144).fs = 0 := rfl
    rw [h3]; show _ ≤ (262144 : Int); omega)
  have ho := onD_commit (nm := [108, 111, 103]) (L := k2) (s := newS 262144) okl_k2 ⟨trivial, fun h => by simp [k2] at h⟩ hg.inc (by simp [k2]) (by decide)
  refine ⟨?_, hc, ho⟩
  have h1 := (hg.app (fileN [108, 111, 103] 1) (encG 1 [[97], [98]])).syn_ (fileN [108, 111, 103] 1)
  have h2 := app_q (s := newS 262144) rfl rfl (inR_file name_log 1) (x := encG 1 [[97], [98]]) (by simp [newS]) (by
    have h1 := encG_sum (f := 1) (g := [[97], [98]]) okg_k (by decide)
    have h2 : (([[97], [98]] : List RdM.Bs).map List.length).sum + 9 * ([[97], [98]] : List RdM.Bs).length = 20 := rfl
    have h3 : DskM.used (newS 262144).fs = 0 := rfl
    rw [h3]; show _ ≤ (262144 : Int); omega)
  rw [h2] at h1
  dsimp only at h1
  rw [syn_q hg.inc rfl rfl (inR_file name_log 1)] at h1
  exact h1
set_option maxHeartbeats 2000000 in
set_option maxRecDepth 100000 in
theorem known_any {σ : World} {F : List Res} : FnT Try.prog σ F 13 [] [] (fun u ρ => u = .bool true ∧ ρ = []) := by
  refine fn_of 97 Try.func13 rfl Try.ntmps13 rfl ?_
  obtain ⟨hgk, hck, hok⟩ := good_kS
  refine w_seq ?_
  refine w_region ?_
  refine wl_det rfl rfl rfl (op_assign rfl) ?_
  refine wl_nil ?_
  refine st_tn ?_
  refine w_seq ?_
  refine w_region ?_
  refine wl_op [] rfl rfl rfl rfl (op_fn Try.func12 rfl rfl rfl (made_c 601 611 262144 [108, 111, 103] (by decide) name_log)) ?_
  rintro _ _ ⟨d16, b16, rfl, rfl⟩
  refine wl_det rfl rfl rfl (op_move rfl) ?_
  refine wl_det rfl rfl rfl (op_extract rfl rfl) ?_
  refine wl_det rfl rfl rfl (op_extract rfl rfl) ?_
  refine wl_det rfl rfl rfl (op_assign rfl) ?_
  refine wl_det rfl rfl rfl (op_assign rfl) ?_
  refine wl_nil ?_
  refine st_tn ?_
  refine w_seq ?_
  refine w_seq ?_
  refine w_region ?_
  refine wl_det rfl rfl rfl (op_move rfl) ?_
  refine wl_det rfl rfl rfl (op_val (v' := .bool false) (by rfl) (op_eqPtr rfl Try.underlying23)) ?_
  refine wl_nil ?_
  refine st_tn ?_
  refine w_cond_f (rfl) ?_
  refine w_skip ?_
  refine st_tn ?_
  refine w_seq ?_
  refine w_region ?_
  refine wl_det rfl rfl rfl (op_move rfl) ?_
  refine wl_op [611] rfl rfl rfl rfl (op_fn Try.func14 rfl rfl rfl (lappend_to (r := [97]) 611 (show appL newL [97] = ((1, 0), k1) from rfl) okl_new (by decide))) ?_
  rintro _ _ ⟨rfl, rfl⟩
  refine wl_det rfl rfl rfl (op_move rfl) ?_
  refine wl_det rfl rfl rfl (op_extract rfl rfl) ?_
  refine wl_det rfl rfl rfl (op_extract rfl rfl) ?_
  refine wl_det rfl rfl rfl (op_assign rfl) ?_
  refine wl_det rfl rfl rfl (op_assign rfl) ?_
  refine wl_nil ?_
  refine st_tn ?_
  refine w_seq ?_
  refine w_region ?_
  refine wl_det rfl rfl rfl (op_move rfl) ?_
  refine wl_op [611] rfl rfl rfl rfl (op_fn Try.func14 rfl rfl rfl (lappend_to (r := [98]) 611 (show appL k1 [98] = ((2, 0), k2) from rfl) okl_k1 (by decide))) ?_
  rintro _ _ ⟨rfl, rfl⟩
  refine wl_det rfl rfl rfl (op_move rfl) ?_
  refine wl_det rfl rfl rfl (op_extract rfl rfl) ?_
  refine wl_det rfl rfl rfl (op_extract rfl rfl) ?_
  refine wl_det rfl rfl rfl (op_assign rfl) ?_
  refine wl_det rfl rfl rfl (op_assign rfl) ?_
  refine wl_nil ?_
  refine st_tn ?_
  refine w_seq ?_
  refine w_region ?_
  refine wl_det rfl rfl rfl (op_move rfl) ?_
  refine wl_op [601, 611] rfl rfl rfl rfl (op_fn Try.func15 rfl rfl rfl (commit_to 601 611 hck okl_k2 (good_new (by decide)) (by decide) (by decide))) ?_
  rintro _ _ ⟨rfl, rfl⟩
  refine wl_det rfl rfl rfl (op_move rfl) ?_
  refine wl_det rfl rfl rfl (op_extract rfl rfl) ?_
  refine wl_det rfl rfl rfl (op_extract rfl rfl) ?_
  refine wl_det rfl rfl rfl (op_assign rfl) ?_
  refine wl_det rfl rfl rfl (op_assign rfl) ?_
  refine wl_nil ?_
  refine st_tn ?_
  refine w_seq ?_
  refine w_region ?_
  refine wl_det rfl rfl rfl (op_move rfl) ?_
  refine wl_op [611] rfl rfl rfl rfl (op_fn Try.func14 rfl rfl rfl (lappend_to (r := [99]) 611 (show appL k3 [99] = ((3, 0), k4) from rfl) okl_k3 (by decide))) ?_
  rintro _ _ ⟨rfl, rfl⟩
  refine wl_det rfl rfl rfl (op_move rfl) ?_
  refine wl_det rfl rfl rfl (op_extract rfl rfl) ?_
  refine wl_det rfl rfl rfl (op_extract rfl rfl) ?_
  refine wl_det rfl rfl rfl (op_assign rfl) ?_
  refine wl_det rfl rfl rfl (op_assign rfl) ?_
  refine wl_nil ?_
  refine st_tn ?_
  refine w_seq ?_
  refine w_region ?_
  refine wl_det rfl rfl rfl (op_move rfl) ?_
  refine wl_op [601] rfl rfl rfl rfl (op_fn Try.func16 rfl rfl rfl (lopen_c (s := kS) (first := 1) (segs := k3.segs) 601 621 name_log rfl hgk oks_k3 hok.holds (by decide))) ?_
  rintro _ _ ⟨b43, rfl, rfl⟩
  refine wl_det rfl rfl rfl (op_move rfl) ?_
  refine wl_det rfl rfl rfl (op_extract rfl rfl) ?_
  refine wl_det rfl rfl rfl (op_extract rfl rfl) ?_
  refine wl_det rfl rfl rfl (op_assign rfl) ?_
  refine wl_det rfl rfl rfl (op_assign rfl) ?_
  refine wl_nil ?_
  refine st_tn ?_
  refine w_seq ?_
  refine w_seq ?_
  refine w_region ?_
  refine wl_det rfl rfl rfl (op_move rfl) ?_
  refine wl_det rfl rfl rfl (op_val (v' := .bool false) (by rfl) (op_neq rfl rfl)) ?_
  refine wl_det rfl rfl rfl (op_move rfl) ?_
  refine wl_wanted_det rfl rfl rfl rfl rfl rfl rfl (op_move rfl) ?_
  refine wl_wanted_det rfl rfl rfl rfl rfl rfl rfl (op_val (v' := .bool false) (by rfl) (op_neq rfl rfl)) ?_
  refine wl_det rfl rfl rfl (op_pick_f rfl rfl) ?_
  refine wl_det rfl rfl rfl (op_move rfl) ?_
  refine wl_wanted_det rfl rfl rfl rfl rfl rfl rfl (op_move rfl) ?_
  refine wl_wanted_det rfl rfl rfl rfl rfl rfl rfl (op_val (v' := .bool false) (by rfl) (op_neq rfl rfl)) ?_
  refine wl_det rfl rfl rfl (op_pick_f rfl rfl) ?_
  refine wl_det rfl rfl rfl (op_move rfl) ?_
  refine wl_wanted_det rfl rfl rfl rfl rfl rfl rfl (op_move rfl) ?_
  refine wl_wanted_det rfl rfl rfl rfl rfl rfl rfl (op_val (v' := .bool false) (by rfl) (op_neq rfl rfl)) ?_
  refine wl_det rfl rfl rfl (op_pick_f rfl rfl) ?_
  refine wl_det rfl rfl rfl (op_move rfl) ?_
  refine wl_wanted_det rfl rfl rfl rfl rfl rfl rfl (op_move rfl) ?_
  refine wl_wanted_det rfl rfl rfl rfl rfl rfl rfl (op_val (v' := .bool false) (by rfl) (op_neq rfl rfl)) ?_
  refine wl_det rfl rfl rfl (op_pick_f rfl rfl) ?_
  refine wl_det rfl rfl rfl (op_move rfl) ?_
  refine wl_wanted_det rfl rfl rfl rfl rfl rfl rfl (op_move rfl) ?_
  refine wl_wanted_det rfl rfl rfl rfl rfl rfl rfl (op_val (v' := .bool false) (by rfl) (op_eqPtr rfl Try.underlying23)) ?_
  refine wl_det rfl rfl rfl (op_pick_f rfl rfl) ?_
  refine wl_det rfl rfl rfl (op_move rfl) ?_
  refine wl_wanted_det rfl rfl rfl rfl rfl rfl rfl (op_move rfl) ?_
  refine wl_wanted_det rfl rfl rfl rfl rfl rfl rfl (op_val (v' := .bool false) (by rfl) (op_neq rfl rfl)) ?_
  refine wl_det rfl rfl rfl (op_pick_f rfl rfl) ?_
  refine wl_det rfl rfl rfl (op_move rfl) ?_
  refine wl_wanted_det rfl rfl rfl rfl rfl rfl rfl (op_move rfl) ?_
  refine wl_wanted_det rfl rfl rfl rfl rfl rfl rfl (op_val (v' := .bool false) (by rfl) (op_neq rfl rfl)) ?_
  refine wl_det rfl rfl rfl (op_pick_f rfl rfl) ?_
  refine wl_nil ?_
  refine st_tn ?_
  refine w_cond_f (rfl) ?_
  refine w_skip ?_
  refine st_tn ?_
  refine w_seq ?_
  refine w_region ?_
  refine wl_det rfl rfl rfl (op_move rfl) ?_
  refine wl_op [621] rfl rfl rfl rfl (op_fn Try.func30 rfl rfl rfl (lread_c (L := ⟨1, k3.segs, [], true, false⟩) 621 ⟨oks_k3, by decide, by decide, by decide⟩ 2 (by decide))) ?_
  rintro _ _ ⟨rfl, rfl⟩
  refine wl_det rfl rfl rfl (op_move rfl) ?_
  refine wl_det rfl rfl rfl (op_extract rfl rfl) ?_
  refine wl_det rfl rfl rfl (op_extract rfl rfl) ?_
  refine wl_det rfl rfl rfl (op_assign rfl) ?_
  refine wl_det rfl rfl rfl (op_assign rfl) ?_
  refine wl_nil ?_
  refine st_tn ?_
  refine w_seq ?_
  refine w_region ?_
  refine wl_det rfl rfl rfl (op_move rfl) ?_
  refine wl_op [621] rfl rfl rfl rfl (op_fn Try.func17 rfl rfl rfl (llast_c (L := ⟨1, k3.segs, [], true, false⟩) 621 ⟨oks_k3, by decide, by decide, by decide⟩)) ?_
  rintro _ _ ⟨rfl, rfl⟩
  refine wl_det rfl rfl rfl (op_val (v' := .bool true) (by rfl) (op_eql rfl rfl)) ?_
  refine wl_det rfl rfl rfl (op_move rfl) ?_
  refine wl_wanted_det rfl rfl rfl rfl rfl rfl rfl (op_move rfl) ?_
  refine wl_wanted [621] rfl rfl rfl rfl rfl rfl rfl rfl (op_fn Try.func21 rfl rfl rfl (lpending_c (L := ⟨1, k3.segs, [], true, false⟩) 621 ⟨oks_k3, by decide, by decide, by decide⟩)) ?_
  rintro _ _ ⟨rfl, rfl⟩
  refine wl_wanted_det rfl rfl rfl rfl rfl rfl rfl (op_val (v' := .bool true) (by rfl) (op_eql rfl rfl)) ?_
  refine wl_det rfl rfl rfl (op_pick_t rfl rfl) ?_
  refine wl_det rfl rfl rfl (op_move rfl) ?_
  refine wl_wanted_det rfl rfl rfl rfl rfl rfl rfl (op_move rfl) ?_
  refine wl_wanted_det rfl rfl rfl rfl rfl rfl rfl (op_val (v' := .bool true) (by rfl) (op_eqBs rfl rfl)) ?_
  refine wl_det rfl rfl rfl (op_pick_t rfl rfl) ?_
  refine wl_det rfl rfl rfl (op_move rfl) ?_
  refine wl_wanted_det rfl rfl rfl rfl rfl rfl rfl (op_move rfl) ?_
  refine wl_wanted_det rfl rfl rfl rfl rfl rfl rfl (op_val (v' := .bool true) (by rfl) (op_eql rfl rfl)) ?_
  refine wl_det rfl rfl rfl (op_pick_t rfl rfl) ?_
  refine wl_det rfl rfl rfl (op_assign rfl) ?_
  refine wl_nil ?_
  refine st_tn ?_
  refine w_ret ?_
  refine st_ret (vs := [_]) [] Try.results13 ⟨rfl, trivial⟩ rfl ?_
  refine ⟨_, rfl, ?_⟩
  exact ⟨rfl, rfl⟩

end Go.Proofs.Ytcbigmgakdanjaa
namespace Go.Proofs.Ytcbigmgakdanjaa
open Go Go.SL Go.RowKit Go.RdM Go.WalM
set_option linter.unusedVariables false
set_option linter.unusedSimpArgs false

set_option maxHeartbeats 400000 in
set_option maxRecDepth 100000 in
theorem lappend_nil {σ : World} {F : List Res} (r : RdM.Bs) : FnT Try.prog σ F 14 [.pointer none, .string (str r)] [] (fun u ρ => u = .tuple #[.int .i64 0, .int .i64 1] ∧ ρ = []) := by
  refine fn_of 41 Try.func14 rfl Try.ntmps14 rfl ?_
  refine w_seq ?_
  refine w_region ?_
  refine wl_det rfl rfl rfl (op_assign rfl) ?_
  refine wl_det rfl rfl rfl (op_assign rfl) ?_
  refine wl_nil ?_
  refine st_tn ?_
  refine w_seq ?_
  refine w_seq ?_
  refine w_region ?_
  refine wl_det rfl rfl rfl (op_move rfl) ?_
  refine wl_det rfl rfl rfl (op_fn Try.func42 rfl rfl rfl (lready_nil)) ?_
  refine wl_det rfl rfl rfl (op_assign rfl) ?_
  refine wl_nil ?_
  refine st_tn ?_
  refine w_seq ?_
  refine w_region ?_
  refine wl_det rfl rfl rfl (op_move rfl) ?_
  refine wl_det rfl rfl rfl (op_val (v' := .bool true) (by rfl) (op_neq rfl rfl)) ?_
  refine wl_nil ?_
  refine st_tn ?_
  refine w_cond_t (rfl) ?_
  refine w_seq ?_
  refine w_region ?_
  refine wl_det rfl rfl rfl (op_move rfl) ?_
  refine wl_det rfl rfl rfl (op_assign rfl) ?_
  refine wl_det rfl rfl rfl (op_assign rfl) ?_
  refine wl_nil ?_
  refine st_tn ?_
  refine w_ret ?_
  refine st_tr ?_
  refine st_ret (vs := [_, _]) [] Try.results14 ⟨rfl, ⟨rfl, trivial⟩⟩ rfl ?_
  refine ⟨_, rfl, ?_⟩
  exact ⟨rfl, rfl⟩

set_option maxHeartbeats 400000 in
set_option maxRecDepth 100000 in
theorem lcommit_nil {σ : World} {F : List Res} : FnT Try.prog σ F 15 [.pointer none] [] (fun u ρ => u = .tuple #[.int .i64 0, .int .i64 1] ∧ ρ = []) := by
  refine fn_of 77 Try.func15 rfl Try.ntmps15 rfl ?_
  refine w_seq ?_
  refine w_region ?_
  refine wl_det rfl rfl rfl (op_assign rfl) ?_
  refine wl_det rfl rfl rfl (op_assign rfl) ?_
  refine wl_nil ?_
  refine st_tn ?_
  refine w_seq ?_
  refine w_seq ?_
  refine w_region ?_
  refine wl_det rfl rfl rfl (op_move rfl) ?_
  refine wl_det rfl rfl rfl (op_fn Try.func42 rfl rfl rfl (lready_nil)) ?_
  refine wl_det rfl rfl rfl (op_assign rfl) ?_
  refine wl_nil ?_
  refine st_tn ?_
  refine w_seq ?_
  refine w_region ?_
  refine wl_det rfl rfl rfl (op_move rfl) ?_
  refine wl_det rfl rfl rfl (op_val (v' := .bool true) (by rfl) (op_neq rfl rfl)) ?_
  refine wl_nil ?_
  refine st_tn ?_
  refine w_cond_t (rfl) ?_
  refine w_seq ?_
  refine w_region ?_
  refine wl_det rfl rfl rfl (op_move rfl) ?_
  refine wl_det rfl rfl rfl (op_assign rfl) ?_
  refine wl_det rfl rfl rfl (op_assign rfl) ?_
  refine wl_nil ?_
  refine st_tn ?_
  refine w_ret ?_
  refine st_tr ?_
  refine st_ret (vs := [_, _]) [] Try.results15 ⟨rfl, ⟨rfl, trivial⟩⟩ rfl ?_
  refine ⟨_, rfl, ?_⟩
  exact ⟨rfl, rfl⟩

set_option maxHeartbeats 400000 in
set_option maxRecDepth 100000 in
theorem lread_nil {σ : World} {F : List Res} (n : Int) : FnT Try.prog σ F 30 [.pointer none, .int .i64 n] [] (fun u ρ => u = .tuple #[.string (str []), .int .i64 1] ∧ ρ = []) := by
  refine fn_of 32 Try.func30 rfl Try.ntmps30 rfl ?_
  refine w_seq ?_
  refine w_region ?_
  refine wl_det rfl rfl rfl (op_assign rfl) ?_
  refine wl_det rfl rfl rfl (op_assign rfl) ?_
  refine wl_nil ?_
  refine st_tn ?_
  refine w_seq ?_
  refine w_seq ?_
  refine w_region ?_
  refine wl_det rfl rfl rfl (op_move rfl) ?_
  refine wl_det rfl rfl rfl (op_fn Try.func42 rfl rfl rfl (lready_nil)) ?_
  refine wl_det rfl rfl rfl (op_assign rfl) ?_
  refine wl_nil ?_
  refine st_tn ?_
  refine w_seq ?_
  refine w_region ?_
  refine wl_det rfl rfl rfl (op_move rfl) ?_
  refine wl_det rfl rfl rfl (op_val (v' := .bool true) (by rfl) (op_neq rfl rfl)) ?_
  refine wl_nil ?_
  refine st_tn ?_
  refine w_cond_t (rfl) ?_
  refine w_seq ?_
  refine w_region ?_
  refine wl_det rfl rfl rfl (op_move rfl) ?_
  refine wl_det rfl rfl rfl (op_assign rfl) ?_
  refine wl_det rfl rfl rfl (op_assign rfl) ?_
  refine wl_nil ?_
  refine st_tn ?_
  refine w_ret ?_
  refine st_tr ?_
  refine st_ret (vs := [_, _]) [] Try.results30 ⟨rfl, ⟨rfl, trivial⟩⟩ rfl ?_
  refine ⟨_, rfl, ?_⟩
  exact ⟨rfl, rfl⟩

set_option maxHeartbeats 400000 in
set_option maxRecDepth 100000 in
theorem lreplay_nil {σ : World} {F : List Res} (n : Int) : FnT Try.prog σ F 24 [.pointer none, .int .i64 n] [] (fun u ρ => u = .tuple #[.slice none 0 0, .int .i64 1] ∧ ρ = []) := by
  refine fn_of 46 Try.func24 rfl Try.ntmps24 rfl ?_
  refine w_seq ?_
  refine w_region ?_
  refine wl_det rfl rfl rfl (op_assign rfl) ?_
  refine wl_det rfl rfl rfl (op_assign rfl) ?_
  refine wl_nil ?_
  refine st_tn ?_
  refine w_seq ?_
  refine w_seq ?_
  refine w_region ?_
  refine wl_det rfl rfl rfl (op_move rfl) ?_
  refine wl_det rfl rfl rfl (op_fn Try.func42 rfl rfl rfl (lready_nil)) ?_
  refine wl_det rfl rfl rfl (op_assign rfl) ?_
  refine wl_nil ?_
  refine st_tn ?_
  refine w_seq ?_
  refine w_region ?_
  refine wl_det rfl rfl rfl (op_move rfl) ?_
  refine wl_det rfl rfl rfl (op_val (v' := .bool true) (by rfl) (op_neq rfl rfl)) ?_
  refine wl_nil ?_
  refine st_tn ?_
  refine w_cond_t (rfl) ?_
  refine w_seq ?_
  refine w_region ?_
  refine wl_det rfl rfl rfl (op_move rfl) ?_
  refine wl_det rfl rfl rfl (op_assign rfl) ?_
  refine wl_det rfl rfl rfl (op_assign rfl) ?_
  refine wl_nil ?_
  refine st_tn ?_
  refine w_ret ?_
  refine st_tr ?_
  refine st_ret (vs := [_, _]) [] Try.results24 ⟨rfl, ⟨rfl, trivial⟩⟩ rfl ?_
  refine ⟨_, rfl, ?_⟩
  exact ⟨rfl, rfl⟩

set_option maxHeartbeats 400000 in
set_option maxRecDepth 100000 in
theorem ldiscard_nil {σ : World} {F : List Res} : FnT Try.prog σ F 23 [.pointer none] [] (fun u ρ => u = .int .i64 1 ∧ ρ = []) := by
  refine fn_of 12 Try.func23 rfl Try.ntmps23 rfl ?_
  refine w_seq ?_
  refine w_region ?_
  refine wl_det rfl rfl rfl (op_assign rfl) ?_
  refine wl_nil ?_
  refine st_tn ?_
  refine w_seq ?_
  refine w_seq ?_
  refine w_region ?_
  refine wl_det rfl rfl rfl (op_move rfl) ?_
  refine wl_det rfl rfl rfl (op_fn Try.func42 rfl rfl rfl (lready_nil)) ?_
  refine wl_det rfl rfl rfl (op_assign rfl) ?_
  refine wl_nil ?_
  refine st_tn ?_
  refine w_seq ?_
  refine w_region ?_
  refine wl_det rfl rfl rfl (op_move rfl) ?_
  refine wl_det rfl rfl rfl (op_val (v' := .bool true) (by rfl) (op_neq rfl rfl)) ?_
  refine wl_nil ?_
  refine st_tn ?_
  refine w_cond_t (rfl) ?_
  refine w_seq ?_
  refine w_region ?_
  refine wl_det rfl rfl rfl (op_move rfl) ?_
  refine wl_det rfl rfl rfl (op_assign rfl) ?_
  refine wl_nil ?_
  refine st_tn ?_
  refine w_ret ?_
  refine st_tr ?_
  refine st_ret (vs := [_]) [] Try.results23 ⟨rfl, trivial⟩ rfl ?_
  refine ⟨_, rfl, ?_⟩
  exact ⟨rfl, rfl⟩

set_option maxHeartbeats 400000 in
set_option maxRecDepth 100000 in
theorem ltrunc_nil {σ : World} {F : List Res} (n : Int) : FnT Try.prog σ F 34 [.pointer none, .int .i64 n] [] (fun u ρ => u = .int .i64 1 ∧ ρ = []) := by
  refine fn_of 72 Try.func34 rfl Try.ntmps34 rfl ?_
  refine w_seq ?_
  refine w_region ?_
  refine wl_det rfl rfl rfl (op_assign rfl) ?_
  refine wl_nil ?_
  refine st_tn ?_
  refine w_seq ?_
  refine w_seq ?_
  refine w_region ?_
  refine wl_det rfl rfl rfl (op_move rfl) ?_
  refine wl_det rfl rfl rfl (op_fn Try.func42 rfl rfl rfl (lready_nil)) ?_
  refine wl_det rfl rfl rfl (op_assign rfl) ?_
  refine wl_nil ?_
  refine st_tn ?_
  refine w_seq ?_
  refine w_region ?_
  refine wl_det rfl rfl rfl (op_move rfl) ?_
  refine wl_det rfl rfl rfl (op_val (v' := .bool true) (by rfl) (op_neq rfl rfl)) ?_
  refine wl_nil ?_
  refine st_tn ?_
  refine w_cond_t (rfl) ?_
  refine w_seq ?_
  refine w_region ?_
  refine wl_det rfl rfl rfl (op_move rfl) ?_
  refine wl_det rfl rfl rfl (op_assign rfl) ?_
  refine wl_nil ?_
  refine st_tn ?_
  refine w_ret ?_
  refine st_tr ?_
  refine st_ret (vs := [_]) [] Try.results34 ⟨rfl, trivial⟩ rfl ?_
  refine ⟨_, rfl, ?_⟩
  exact ⟨rfl, rfl⟩

set_option maxHeartbeats 400000 in
set_option maxRecDepth 100000 in
theorem lfirst_nil {σ : World} {F : List Res} : FnT Try.prog σ F 35 [.pointer none] [] (fun u ρ => u = .int .i64 0 ∧ ρ = []) := by
  refine fn_of 21 Try.func35 rfl Try.ntmps35 rfl ?_
  refine w_seq ?_
  refine w_region ?_
  refine wl_det rfl rfl rfl (op_assign rfl) ?_
  refine wl_nil ?_
  refine st_tn ?_
  refine w_seq ?_
  refine w_block ?_
  refine w_seq ?_
  refine w_region ?_
  refine wl_det rfl rfl rfl (op_move rfl) ?_
  refine wl_det rfl rfl rfl (op_fn Try.func42 rfl rfl rfl (lready_nil)) ?_
  refine wl_det rfl rfl rfl (op_val (v' := .bool true) (by rfl) (op_neq rfl rfl)) ?_
  refine wl_det rfl rfl rfl (op_assign rfl) ?_
  refine wl_nil ?_
  refine st_tn ?_
  refine w_cond_t (rfl) ?_
  refine w_seq ?_
  refine w_region ?_
  refine wl_det rfl rfl rfl (op_assign rfl) ?_
  refine wl_nil ?_
  refine st_tn ?_
  refine w_ret ?_
  refine st_br ?_
  refine st_tr ?_
  refine st_ret (vs := [_]) [] Try.results35 ⟨rfl, trivial⟩ rfl ?_
  refine ⟨_, rfl, ?_⟩
  exact ⟨rfl, rfl⟩

set_option maxHeartbeats 400000 in
set_option maxRecDepth 100000 in
theorem llast_nil {σ : World} {F : List Res} : FnT Try.prog σ F 17 [.pointer none] [] (fun u ρ => u = .int .i64 0 ∧ ρ = []) := by
  refine fn_of 27 Try.func17 rfl Try.ntmps17 rfl ?_
  refine w_seq ?_
  refine w_region ?_
  refine wl_det rfl rfl rfl (op_assign rfl) ?_
  refine wl_nil ?_
  refine st_tn ?_
  refine w_seq ?_
  refine w_seq ?_
  refine w_region ?_
  refine wl_det rfl rfl rfl (op_move rfl) ?_
  refine wl_det rfl rfl rfl (op_fn Try.func42 rfl rfl rfl (lready_nil)) ?_
  refine wl_det rfl rfl rfl (op_val (v' := .bool true) (by rfl) (op_neq rfl rfl)) ?_
  refine wl_det rfl rfl rfl (op_move rfl) ?_
  refine wl_unwanted rfl rfl rfl rfl rfl rfl rfl rfl ?_
  refine wl_unwanted rfl rfl rfl rfl rfl rfl rfl rfl ?_
  refine wl_unwanted rfl rfl rfl rfl rfl rfl rfl rfl ?_
  refine wl_unwanted rfl rfl rfl rfl rfl rfl rfl rfl ?_
  refine wl_unwanted rfl rfl rfl rfl rfl rfl rfl rfl ?_
  refine wl_unwanted rfl rfl rfl rfl rfl rfl rfl rfl ?_
  refine wl_det rfl rfl rfl (op_pick_t rfl rfl) ?_
  refine wl_nil ?_
  refine st_tn ?_
  refine w_cond_t (rfl) ?_
  refine w_seq ?_
  refine w_region ?_
  refine wl_det rfl rfl rfl (op_assign rfl) ?_
  refine wl_nil ?_
  refine st_tn ?_
  refine w_ret ?_
  refine st_tr ?_
  refine st_ret (vs := [_]) [] Try.results17 ⟨rfl, trivial⟩ rfl ?_
  refine ⟨_, rfl, ?_⟩
  exact ⟨rfl, rfl⟩

set_option maxHeartbeats 400000 in
set_option maxRecDepth 100000 in
theorem lpending_nil {σ : World} {F : List Res} : FnT Try.prog σ F 21 [.pointer none] [] (fun u ρ => u = .int .i64 0 ∧ ρ = []) := by
  refine fn_of 11 Try.func21 rfl Try.ntmps21 rfl ?_
  refine w_seq ?_
  refine w_region ?_
  refine wl_det rfl rfl rfl (op_assign rfl) ?_
  refine wl_nil ?_
  refine st_tn ?_
  refine w_seq ?_
  refine w_seq ?_
  refine w_region ?_
  refine wl_det rfl rfl rfl (op_move rfl) ?_
  refine wl_det rfl rfl rfl (op_fn Try.func42 rfl rfl rfl (lready_nil)) ?_
  refine wl_det rfl rfl rfl (op_val (v' := .bool true) (by rfl) (op_neq rfl rfl)) ?_
  refine wl_nil ?_
  refine st_tn ?_
  refine w_cond_t (rfl) ?_
  refine w_seq ?_
  refine w_region ?_
  refine wl_det rfl rfl rfl (op_assign rfl) ?_
  refine wl_nil ?_
  refine st_tn ?_
  refine w_ret ?_
  refine st_tr ?_
  refine st_ret (vs := [_]) [] Try.results21 ⟨rfl, trivial⟩ rfl ?_
  refine ⟨_, rfl, ?_⟩
  exact ⟨rfl, rfl⟩

set_option maxHeartbeats 400000 in
set_option maxRecDepth 100000 in
theorem lsegm_nil {σ : World} {F : List Res} : FnT Try.prog σ F 18 [.pointer none] [] (fun u ρ => u = .slice none 0 0 ∧ ρ = []) := by
  refine fn_of 27 Try.func18 rfl Try.ntmps18 rfl ?_
  refine w_seq ?_
  refine w_region ?_
  refine wl_det rfl rfl rfl (op_assign rfl) ?_
  refine wl_nil ?_
  refine st_tn ?_
  refine w_seq ?_
  refine w_seq ?_
  refine w_region ?_
  refine wl_det rfl rfl rfl (op_move rfl) ?_
  refine wl_det rfl rfl rfl (op_fn Try.func42 rfl rfl rfl (lready_nil)) ?_
  refine wl_det rfl rfl rfl (op_val (v' := .bool true) (by rfl) (op_neq rfl rfl)) ?_
  refine wl_nil ?_
  refine st_tn ?_
  refine w_cond_t (rfl) ?_
  refine w_seq ?_
  refine w_region ?_
  refine wl_det rfl rfl rfl (op_assign rfl) ?_
  refine wl_nil ?_
  refine st_tn ?_
  refine w_ret ?_
  refine st_tr ?_
  refine st_ret (vs := [_]) [] Try.results18 ⟨rfl, trivial⟩ rfl ?_
  refine ⟨_, rfl, ?_⟩
  exact ⟨rfl, rfl⟩

end Go.Proofs.Ytcbigmgakdanjaa
namespace Go.Proofs.Ytcbigmgakdanjaa
open Go Go.SL Go.RowKit Go.RdM Go.WalM
set_option linter.unusedVariables false
set_option linter.unusedSimpArgs false
theorem tS35wv : sliceB Try.prog 35 9 1 = true := by kernel_rfl

theorem lopend_c {σ : World} {F : List Res} {d : Nat} {s : DskM.St} (lab : Nat) (nm : RdM.Bs) (hok : DskM.nameB nm = true ∧ nm.length ≤ 48) (hdn : s.down = true) : FnT Try.prog σ F 16 [.pointer (some ⟨d, 0, none⟩), .string (str nm)] [(lab, dkR d s)] (fun u ρ => u = .tuple #[.pointer none, .int .i64 27] ∧ ρ = [(lab, dkR d s)]) := dk_ro lab fun F m l hp hd hm => open_down nm hok hdn hd
theorem inR_take {s : RdM.Bs} {i : Nat} {b : UInt8} (h : s[i]? = some b) : inR 33 126 (s.take (i + 1)) ↔ inR 33 126 (s.take i) ∧ 33 ≤ b.toNat ∧ b.toNat ≤ 126 := by
  rw [take_snoc h]
  unfold inR
  constructor
  · intro hh
    refine ⟨fun q hq => hh q (List.mem_append_left _ hq), ?_⟩
    have := hh b (by simp); omega
  · rintro ⟨h1, h2⟩ q hq
    rcases List.mem_append.1 hq with hq | hq
    · exact h1 q hq
    · rw [List.mem_singleton] at hq; subst hq; omega
theorem name_iff {s : RdM.Bs} : (DskM.nameB s = true ∧ s.length ≤ 48) ↔ (1 ≤ s.length ∧ s.length ≤ 48 ∧ inR 33 126 s) := by
  rw [nameB_iff]
  simp only [decide_eq_true_eq]
  constructor
  · rintro ⟨⟨h1, h2, h3⟩, h4⟩
    exact ⟨List.length_pos_iff.2 h1, h4, h3⟩
  · rintro ⟨h1, h2, h3⟩
    exact ⟨⟨List.length_pos_iff.1 h1, by omega, h3⟩, h2⟩
set_option maxHeartbeats 4000000 in
set_option maxRecDepth 100000 in
theorem lawNil_any {σ : World} {F : List Res} (s : RdM.Bs) (n : Int) : FnT Try.prog σ F 8 [.string (str s), .int .i64 n] [] (fun u ρ => u = .bool true ∧ ρ = []) := by
  refine fn_of 175 Try.func8 rfl Try.ntmps8 rfl ?_
  refine w_seq ?_
  refine w_region ?_
  refine wl_det rfl rfl rfl (op_assign rfl) ?_
  refine wl_nil ?_
  refine st_tn ?_
  refine w_seq ?_
  refine w_seq ?_
  refine w_region ?_
  refine wl_det rfl rfl rfl (op_fn Try.func13 rfl rfl rfl (known_any)) ?_
  refine wl_det rfl rfl rfl (op_not_t rfl) ?_
  refine wl_det rfl rfl rfl (op_move rfl) ?_
  refine wl_wanted_det rfl rfl rfl rfl rfl rfl rfl (op_move rfl) ?_
  refine wl_wanted_det rfl rfl rfl rfl rfl rfl rfl (op_lenBs rfl Try.underlying9) ?_
  refine wl_wanted_det rfl rfl rfl rfl rfl rfl rfl (op_gtr rfl rfl) ?_
  refine wl_det rfl rfl rfl (op_pick_f rfl rfl) ?_
  refine wl_nil ?_
  refine st_tn ?_
  refine w_cond_d rfl (fun hc30 => ?_) (fun hc30 => ?_)
  · -- c30.t
    refine w_seq ?_
    refine w_region ?_
    refine wl_det rfl rfl rfl (op_fn Try.func13 rfl rfl rfl (known_any)) ?_
    refine wl_det rfl rfl rfl (op_assign rfl) ?_
    refine wl_nil ?_
    refine st_tn ?_
    refine w_ret ?_
    refine st_tr ?_
    refine st_ret (vs := [_]) [] Try.results8 ⟨rfl, trivial⟩ rfl ?_
    refine ⟨_, rfl, ?_⟩
    exact ⟨rfl, rfl⟩
  · -- c30.f
    refine w_skip ?_
    refine st_tn ?_
    refine w_seq ?_
    refine w_region ?_
    refine wl_det rfl rfl rfl (op_move rfl) ?_
    refine wl_det rfl rfl rfl (op_fn Try.func16 rfl rfl rfl (open_nil s)) ?_
    refine wl_det rfl rfl rfl (op_move rfl) ?_
    refine wl_det rfl rfl rfl (op_extract rfl rfl) ?_
    refine wl_det rfl rfl rfl (op_extract rfl rfl) ?_
    refine wl_det rfl rfl rfl (op_assign rfl) ?_
    refine wl_det rfl rfl rfl (op_assign rfl) ?_
    refine wl_nil ?_
    refine st_tn ?_
    refine w_seq ?_
    refine w_region ?_
    refine wl_op [] rfl rfl rfl rfl (op_fn Try.func32 rfl rfl rfl (dnew_c 601 100 (by decide))) ?_
    rintro _ _ ⟨d38, rfl, rfl⟩
    refine wl_det rfl rfl rfl (op_move rfl) ?_
    refine wl_det rfl rfl rfl (op_extract rfl rfl) ?_
    refine wl_det rfl rfl rfl (op_extract rfl rfl) ?_
    refine wl_det rfl rfl rfl (op_assign rfl) ?_
    refine wl_det rfl rfl rfl (op_assign rfl) ?_
    refine wl_nil ?_
    refine st_tn ?_
    refine w_seq ?_
    by_cases hok : DskM.nameB s = true ∧ s.length ≤ 48
    · -- hok+
      refine w_region ?_
      refine wl_det rfl rfl rfl (op_move rfl) ?_
      refine wl_det rfl rfl rfl (op_move rfl) ?_
      refine wl_op [601] rfl rfl rfl rfl (op_fn Try.func16 rfl rfl rfl (lopen_c (s := newS 100) (first := 1) (segs := []) 601 611 hok rfl (good_new (by decide)) oks_nil trivial (by simp [allR]))) ?_
      rintro _ _ ⟨b44, rfl, rfl⟩
      refine wl_det rfl rfl rfl (op_move rfl) ?_
      refine wl_det rfl rfl rfl (op_extract rfl rfl) ?_
      refine wl_det rfl rfl rfl (op_extract rfl rfl) ?_
      refine wl_det rfl rfl rfl (op_assign rfl) ?_
      refine wl_det rfl rfl rfl (op_assign rfl) ?_
      refine wl_nil ?_
      refine st_tn ?_
      refine w_seq ?_
      refine w_cutL [(11, .bool (decide (1 ≤ s.length ∧ s.length ≤ 48)))] [0, 1, 6, 7, 9, 10] [601, 611] rfl (fun K' hK => ?_) ?_
      · -- cut r6
        refine w_region ?_
        refine wl_det rfl rfl rfl (op_move rfl) ?_
        refine wl_det rfl rfl rfl (op_lenBs rfl Try.underlying9) ?_
        refine wl_det rfl rfl rfl (op_geq rfl rfl) ?_
        refine wl_det rfl rfl rfl (op_move rfl) ?_
        refine wl_gsplit (t := 50) rfl (fun hg50 => ?_) (fun hg50 => ?_)
        · -- 50 is True
          refine wl_wanted_det rfl rfl rfl rfl rfl rfl rfl (op_move rfl) ?_
          refine wl_wanted_det rfl rfl rfl rfl rfl rfl rfl (op_lenBs rfl Try.underlying9) ?_
          refine wl_wanted_det rfl rfl rfl rfl rfl rfl rfl (op_leq rfl rfl) ?_
          refine wl_det rfl rfl rfl (op_pick_t rfl rfl) ?_
          refine wl_det rfl rfl rfl (op_assign rfl) ?_
          refine wl_nil ?_
          refine st_tn ?_
          exact cut_done1 [601, 611] hK rfl (by first | (rw [decide_eq_decide]; omega) | (symm; rw [decide_eq_false_iff_not]; omega) | (symm; rw [decide_eq_true_iff]; omega) | (simp; done) | (simp; omega) | (simp [*]; done) | (simp [*]; omega)) (by rfl) rfl rfl
        · -- 50 is False
          refine wl_unwanted rfl rfl rfl rfl rfl rfl rfl rfl ?_
          refine wl_unwanted rfl rfl rfl rfl rfl rfl rfl rfl ?_
          refine wl_unwanted rfl rfl rfl rfl rfl rfl rfl rfl ?_
          refine wl_det rfl rfl rfl (op_pick_f rfl rfl) ?_
          refine wl_det rfl rfl rfl (op_assign rfl) ?_
          refine wl_nil ?_
          refine st_tn ?_
          exact cut_done1 [601, 611] hK rfl (by first | (rw [decide_eq_decide]; omega) | (symm; rw [decide_eq_false_iff_not]; omega) | (symm; rw [decide_eq_true_iff]; omega) | (simp; done) | (simp; omega) | (simp [*]; done) | (simp [*]; omega)) (by rfl) rfl rfl
      · -- behind r6
        show W _ _ _ _ _ [(11, _), (0, _), (1, _), (6, _), (7, _), (9, _), (10, _)] [(601, _), (611, _)] _
        refine w_seq ?_
        refine w_seq ?_
        refine w_region ?_
        refine wl_det rfl rfl rfl (op_assign rfl) ?_
        refine wl_nil ?_
        refine st_tn ?_
        refine w_block ?_
        refine w_loopQ (X := Bool × Nat) (fun z => z.2 ≤ s.length ∧ z.1 = decide ((1 ≤ s.length ∧ s.length ≤ 48) ∧ inR 33 126 (s.take z.2))) (fun z => [(11, .bool (z.1)), (12, .int .i64 (z.2))]) (fun _ => []) (fun z => s.length - z.2) ((decide (1 ≤ s.length ∧ s.length ≤ 48), 0)) [(0, _), (1, _), (6, _), (7, _), (9, _), (10, _)] [(601, _), (611, _)] [601, 611] rfl (rfl) (.cons rfl (.cons rfl (.nil _))) (.cons rfl (.cons rfl (.cons rfl (.cons rfl (.cons rfl (.cons rfl (.nil _))))))) (by
            try dsimp only
            refine ⟨Nat.zero_le _, ?_⟩; rw [List.take_zero]; exact decide_eq_decide.2 ⟨fun h => ⟨h, fun q hq => by simp at hq⟩, fun h => h.1⟩) ?_
        rintro ⟨good, i⟩ ⟨hi, hgood⟩
        refine w_norm2 (by dsimp only [List.cons_append, List.nil_append]) (by dsimp only [List.cons_append, List.nil_append]) ?_
        try dsimp only at hi hgood ⊢
        refine w_seq ?_
        refine w_seq ?_
        refine w_region ?_
        refine wl_det rfl rfl rfl (op_move rfl) ?_
        refine wl_det rfl rfl rfl (op_move rfl) ?_
        refine wl_det rfl rfl rfl (op_lenBs rfl Try.underlying9) ?_
        refine wl_det rfl rfl rfl (op_lss rfl rfl) ?_
        refine wl_nil ?_
        refine st_tn ?_
        refine w_cond_d rfl (fun hc58 => ?_) (fun hc58 => ?_)
        · -- c58.t
          obtain ⟨b, hb⟩ := getE (l := s) (i := i) (by omega)
          have hin := inR_take hb
          refine w_skip ?_
          refine st_tn ?_
          refine w_seq ?_
          refine w_block ?_
          by_cases hg : good = true
          · -- hg+
            have hyg : (1 ≤ s.length ∧ s.length ≤ 48) ∧ inR 33 126 (s.take i) := by rw [hgood] at hg; exact of_decide_eq_true hg
            by_cases h1 : 33 ≤ b.toNat
            · -- h1+
              by_cases h2 : b.toNat ≤ 126
              · -- h2+
                have hyy : (1 ≤ s.length ∧ s.length ≤ 48) ∧ inR 33 126 (s.take (i + 1)) := ⟨hyg.1, hin.2 ⟨hyg.2, h1, h2⟩⟩
                refine w_region ?_
                refine wl_det rfl rfl rfl (op_val (v' := .bool true) (by rw [hg]) (op_move rfl)) ?_
                refine wl_det rfl rfl rfl (op_move rfl) ?_
                refine wl_wanted_det rfl rfl rfl rfl rfl rfl rfl (op_move rfl) ?_
                refine wl_wanted_det rfl rfl rfl rfl rfl rfl rfl (op_move rfl) ?_
                refine wl_wanted_det rfl rfl rfl rfl rfl rfl rfl (op_idxBs rfl rfl Try.underlying9 (by assumption)) ?_
                refine wl_wanted_det rfl rfl rfl rfl rfl rfl rfl (op_val (v' := .bool true) (by rw [decide_eq_true (by omega)]) (op_geq rfl rfl)) ?_
                refine wl_det rfl rfl rfl (op_pick_t rfl rfl) ?_
                refine wl_det rfl rfl rfl (op_move rfl) ?_
                refine wl_wanted_det rfl rfl rfl rfl rfl rfl rfl (op_move rfl) ?_
                refine wl_wanted_det rfl rfl rfl rfl rfl rfl rfl (op_move rfl) ?_
                refine wl_wanted_det rfl rfl rfl rfl rfl rfl rfl (op_idxBs rfl rfl Try.underlying9 (by assumption)) ?_
                refine wl_wanted_det rfl rfl rfl rfl rfl rfl rfl (op_val (v' := .bool true) (by rw [decide_eq_true (by omega)]) (op_leq rfl rfl)) ?_
                refine wl_det rfl rfl rfl (op_pick_t rfl rfl) ?_
                refine wl_det rfl rfl rfl (op_assign rfl) ?_
                refine wl_nil ?_
                refine st_bn ?_
                refine st_tn ?_
                refine w_region ?_
                refine wl_det rfl rfl rfl (op_move rfl) ?_
                refine wl_det rfl rfl rfl (op_add' rfl rfl (by omega)) ?_
                refine wl_det rfl rfl rfl (op_assign rfl) ?_
                refine wl_nil ?_
                refine st_roundQ (x := (good, i)) ((true, i + 1)) [601, 611] rfl (rfl) (.cons rfl (.cons rfl (.nil _))) (.cons rfl (.cons rfl (.cons rfl (.cons rfl (.cons rfl (.cons rfl (.nil _))))))) (by
                    try dsimp only
                    exact ⟨by omega, (decide_eq_true hyy).symm⟩) (by
                    try dsimp only
                    omega) 
              · -- h2-
                have hng : ¬ ((1 ≤ s.length ∧ s.length ≤ 48) ∧ inR 33 126 (s.take (i + 1))) := fun h => h2 (hin.1 h.2).2.2
                refine w_region ?_
                refine wl_det rfl rfl rfl (op_val (v' := .bool true) (by rw [hg]) (op_move rfl)) ?_
                refine wl_det rfl rfl rfl (op_move rfl) ?_
                refine wl_wanted_det rfl rfl rfl rfl rfl rfl rfl (op_move rfl) ?_
                refine wl_wanted_det rfl rfl rfl rfl rfl rfl rfl (op_move rfl) ?_
                refine wl_wanted_det rfl rfl rfl rfl rfl rfl rfl (op_idxBs rfl rfl Try.underlying9 (by assumption)) ?_
                refine wl_wanted_det rfl rfl rfl rfl rfl rfl rfl (op_val (v' := .bool true) (by rw [decide_eq_true (by omega)]) (op_geq rfl rfl)) ?_
                refine wl_det rfl rfl rfl (op_pick_t rfl rfl) ?_
                refine wl_det rfl rfl rfl (op_move rfl) ?_
                refine wl_wanted_det rfl rfl rfl rfl rfl rfl rfl (op_move rfl) ?_
                refine wl_wanted_det rfl rfl rfl rfl rfl rfl rfl (op_move rfl) ?_
                refine wl_wanted_det rfl rfl rfl rfl rfl rfl rfl (op_idxBs rfl rfl Try.underlying9 (by assumption)) ?_
                refine wl_wanted_det rfl rfl rfl rfl rfl rfl rfl (op_val (v' := .bool false) (by rw [decide_eq_false (by omega)]) (op_leq rfl rfl)) ?_
                refine wl_det rfl rfl rfl (op_pick_t rfl rfl) ?_
                refine wl_det rfl rfl rfl (op_assign rfl) ?_
                refine wl_nil ?_
                refine st_bn ?_
                refine st_tn ?_
                refine w_region ?_
                refine wl_det rfl rfl rfl (op_move rfl) ?_
                refine wl_det rfl rfl rfl (op_add' rfl rfl (by omega)) ?_
                refine wl_det rfl rfl rfl (op_assign rfl) ?_
                refine wl_nil ?_
                refine st_roundQ (x := (good, i)) ((false, i + 1)) [601, 611] rfl (rfl) (.cons rfl (.cons rfl (.nil _))) (.cons rfl (.cons rfl (.cons rfl (.cons rfl (.cons rfl (.cons rfl (.nil _))))))) (by
                    try dsimp only
                    exact ⟨by omega, (decide_eq_false hng).symm⟩) (by
                    try dsimp only
                    omega) 
            · -- h1-
              have hng : ¬ ((1 ≤ s.length ∧ s.length ≤ 48) ∧ inR 33 126 (s.take (i + 1))) := fun h => h1 (hin.1 h.2).2.1
              refine w_region ?_
              refine wl_det rfl rfl rfl (op_val (v' := .bool true) (by rw [hg]) (op_move rfl)) ?_
              refine wl_det rfl rfl rfl (op_move rfl) ?_
              refine wl_wanted_det rfl rfl rfl rfl rfl rfl rfl (op_move rfl) ?_
              refine wl_wanted_det rfl rfl rfl rfl rfl rfl rfl (op_move rfl) ?_
              refine wl_wanted_det rfl rfl rfl rfl rfl rfl rfl (op_idxBs rfl rfl Try.underlying9 (by assumption)) ?_
              refine wl_wanted_det rfl rfl rfl rfl rfl rfl rfl (op_val (v' := .bool false) (by rw [decide_eq_false (by omega)]) (op_geq rfl rfl)) ?_
              refine wl_det rfl rfl rfl (op_pick_t rfl rfl) ?_
              refine wl_det rfl rfl rfl (op_move rfl) ?_
              refine wl_unwanted rfl rfl rfl rfl rfl rfl rfl rfl ?_
              refine wl_unwanted rfl rfl rfl rfl rfl rfl rfl rfl ?_
              refine wl_unwanted rfl rfl rfl rfl rfl rfl rfl rfl ?_
              refine wl_unwanted rfl rfl rfl rfl rfl rfl rfl rfl ?_
              refine wl_det rfl rfl rfl (op_pick_f rfl rfl) ?_
              refine wl_det rfl rfl rfl (op_assign rfl) ?_
              refine wl_nil ?_
              refine st_bn ?_
              refine st_tn ?_
              refine w_region ?_
              refine wl_det rfl rfl rfl (op_move rfl) ?_
              refine wl_det rfl rfl rfl (op_add' rfl rfl (by omega)) ?_
              refine wl_det rfl rfl rfl (op_assign rfl) ?_
              refine wl_nil ?_
              refine st_roundQ (x := (good, i)) ((false, i + 1)) [601, 611] rfl (rfl) (.cons rfl (.cons rfl (.nil _))) (.cons rfl (.cons rfl (.cons rfl (.cons rfl (.cons rfl (.cons rfl (.nil _))))))) (by
                  try dsimp only
                  exact ⟨by omega, (decide_eq_false hng).symm⟩) (by
                  try dsimp only
                  omega) 
          · -- hg-
            have hng : ¬ ((1 ≤ s.length ∧ s.length ≤ 48) ∧ inR 33 126 (s.take (i + 1))) := fun h => hg (by rw [hgood]; exact decide_eq_true ⟨h.1, (hin.1 h.2).1⟩)
            refine w_region ?_
            refine wl_det rfl rfl rfl (op_val (v' := .bool false) (by simpa using hg) (op_move rfl)) ?_
            refine wl_det rfl rfl rfl (op_move rfl) ?_
            refine wl_unwanted rfl rfl rfl rfl rfl rfl rfl rfl ?_
            refine wl_unwanted rfl rfl rfl rfl rfl rfl rfl rfl ?_
            refine wl_unwanted rfl rfl rfl rfl rfl rfl rfl rfl ?_
            refine wl_unwanted rfl rfl rfl rfl rfl rfl rfl rfl ?_
            refine wl_det rfl rfl rfl (op_pick_f rfl rfl) ?_
            refine wl_det rfl rfl rfl (op_move rfl) ?_
            refine wl_unwanted rfl rfl rfl rfl rfl rfl rfl rfl ?_
            refine wl_unwanted rfl rfl rfl rfl rfl rfl rfl rfl ?_
            refine wl_unwanted rfl rfl rfl rfl rfl rfl rfl rfl ?_
            refine wl_unwanted rfl rfl rfl rfl rfl rfl rfl rfl ?_
            refine wl_det rfl rfl rfl (op_pick_f rfl rfl) ?_
            refine wl_det rfl rfl rfl (op_assign rfl) ?_
            refine wl_nil ?_
            refine st_bn ?_
            refine st_tn ?_
            refine w_region ?_
            refine wl_det rfl rfl rfl (op_move rfl) ?_
            refine wl_det rfl rfl rfl (op_add' rfl rfl (by omega)) ?_
            refine wl_det rfl rfl rfl (op_assign rfl) ?_
            refine wl_nil ?_
            refine st_roundQ (x := (good, i)) ((false, i + 1)) [601, 611] rfl (rfl) (.cons rfl (.cons rfl (.nil _))) (.cons rfl (.cons rfl (.cons rfl (.cons rfl (.cons rfl (.cons rfl (.nil _))))))) (by
                try dsimp only
                exact ⟨by omega, (decide_eq_false hng).symm⟩) (by
                try dsimp only
                omega) 
        · -- c58.f
          have hgd : good = decide (DskM.nameB s = true ∧ s.length ≤ 48) := by
            rw [hgood, take_all (by omega)]
            exact decide_eq_decide.2 ⟨fun h => name_iff.2 ⟨h.1.1, h.1.2, h.2⟩, fun h => by have := name_iff.1 h; exact ⟨⟨this.1, this.2.1⟩, this.2.2⟩⟩
          refine w_exit ?_
          refine st_te ?_
          refine st_te ?_
          refine st_be ?_
          refine st_tn ?_
          refine w_seq ?_
          refine w_seq ?_
          refine w_region ?_
          refine wl_det rfl rfl rfl (op_move rfl) ?_
          refine wl_det rfl rfl rfl (op_val (v' := .bool false) (by rfl) (op_neq rfl rfl)) ?_
          refine wl_det rfl rfl rfl (op_move rfl) ?_
          refine wl_wanted_det rfl rfl rfl rfl rfl rfl rfl (op_move rfl) ?_
          refine wl_wanted_det rfl rfl rfl rfl rfl rfl rfl (op_move rfl) ?_
          refine wl_wanted_det rfl rfl rfl rfl rfl rfl rfl (op_eql rfl rfl) ?_
          refine wl_wanted_det rfl rfl rfl rfl rfl rfl rfl (op_val (v' := .bool false) (by rw [hgd, decide_eq_true hok]; rfl) (op_neB rfl rfl Try.underlying4)) ?_
          refine wl_det rfl rfl rfl (op_pick_f rfl rfl) ?_
          refine wl_det rfl rfl rfl (op_move rfl) ?_
          refine wl_wanted_det rfl rfl rfl rfl rfl rfl rfl (op_val (v' := .bool true) (by rw [hgd, decide_eq_true hok]) (op_move rfl)) ?_
          refine wl_wanted_det rfl rfl rfl rfl rfl rfl rfl (op_not_t rfl) ?_
          refine wl_wanted_det rfl rfl rfl rfl rfl rfl rfl (op_move rfl) ?_
          refine wl_unwanted rfl rfl rfl rfl rfl rfl rfl rfl ?_
          refine wl_unwanted rfl rfl rfl rfl rfl rfl rfl rfl ?_
          refine wl_wanted_det rfl rfl rfl rfl rfl rfl rfl (op_pick_f rfl rfl) ?_
          refine wl_det rfl rfl rfl (op_pick_f rfl rfl) ?_
          refine wl_det rfl rfl rfl (op_move rfl) ?_
          refine wl_wanted_det rfl rfl rfl rfl rfl rfl rfl (op_move rfl) ?_
          refine wl_wanted_det rfl rfl rfl rfl rfl rfl rfl (op_nePtr rfl Try.underlying23) ?_
          refine wl_wanted_det rfl rfl rfl rfl rfl rfl rfl (op_move rfl) ?_
          refine wl_wanted_det rfl rfl rfl rfl rfl rfl rfl (op_val (v' := .bool false) (by rw [hgd, decide_eq_true hok]; rfl) (op_neB rfl rfl Try.underlying4)) ?_
          refine wl_det rfl rfl rfl (op_pick_f rfl rfl) ?_
          refine wl_nil ?_
          refine st_tn ?_
          refine w_cond_f (rfl) ?_
          refine w_skip ?_
          refine st_tn ?_
          refine w_seq ?_
          refine w_region ?_
          refine wl_det rfl rfl rfl (op_move rfl) ?_
          refine wl_op [601] rfl rfl rfl rfl (op_fn Try.func33 rfl rfl rfl (dcrash_c 601)) ?_
          rintro _ _ ⟨rfl, rfl⟩
          refine wl_nil ?_
          refine st_tn ?_
          refine w_seq ?_
          refine w_region ?_
          refine wl_det rfl rfl rfl (op_move rfl) ?_
          refine wl_op [601] rfl rfl rfl rfl (op_fn Try.func16 rfl rfl rfl (lopend_c 601 [108, 111, 103] name_log rfl)) ?_
          rintro _ _ ⟨rfl, rfl⟩
          refine wl_det rfl rfl rfl (op_move rfl) ?_
          refine wl_det rfl rfl rfl (op_extract rfl rfl) ?_
          refine wl_det rfl rfl rfl (op_extract rfl rfl) ?_
          refine wl_det rfl rfl rfl (op_assign rfl) ?_
          refine wl_det rfl rfl rfl (op_assign rfl) ?_
          refine wl_nil ?_
          refine st_tn ?_
          refine w_seq ?_
          refine w_region ?_
          refine wl_det rfl rfl rfl (op_assign rfl) ?_
          refine wl_nil ?_
          refine st_tn ?_
          refine w_seq ?_
          refine w_region ?_
          refine wl_det rfl rfl rfl (op_move rfl) ?_
          refine wl_det rfl rfl rfl (op_move rfl) ?_
          refine wl_det rfl rfl rfl (op_fn Try.func14 rfl rfl rfl (lappend_nil s)) ?_
          refine wl_det rfl rfl rfl (op_move rfl) ?_
          refine wl_det rfl rfl rfl (op_extract rfl rfl) ?_
          refine wl_det rfl rfl rfl (op_extract rfl rfl) ?_
          refine wl_det rfl rfl rfl (op_assign rfl) ?_
          refine wl_det rfl rfl rfl (op_assign rfl) ?_
          refine wl_nil ?_
          refine st_tn ?_
          refine w_seq ?_
          refine w_region ?_
          refine wl_det rfl rfl rfl (op_move rfl) ?_
          refine wl_det rfl rfl rfl (op_fn Try.func15 rfl rfl rfl lcommit_nil) ?_
          refine wl_det rfl rfl rfl (op_move rfl) ?_
          refine wl_det rfl rfl rfl (op_extract rfl rfl) ?_
          refine wl_det rfl rfl rfl (op_extract rfl rfl) ?_
          refine wl_det rfl rfl rfl (op_assign rfl) ?_
          refine wl_det rfl rfl rfl (op_assign rfl) ?_
          refine wl_nil ?_
          refine st_tn ?_
          refine w_seq ?_
          refine w_region ?_
          refine wl_det rfl rfl rfl (op_move rfl) ?_
          refine wl_det rfl rfl rfl (op_move rfl) ?_
          refine wl_det rfl rfl rfl (op_fn Try.func30 rfl rfl rfl (lread_nil n)) ?_
          refine wl_det rfl rfl rfl (op_move rfl) ?_
          refine wl_det rfl rfl rfl (op_extract rfl rfl) ?_
          refine wl_det rfl rfl rfl (op_extract rfl rfl) ?_
          refine wl_det rfl rfl rfl (op_assign rfl) ?_
          refine wl_det rfl rfl rfl (op_assign rfl) ?_
          refine wl_nil ?_
          refine st_tn ?_
          refine w_seq ?_
          refine w_region ?_
          refine wl_det rfl rfl rfl (op_move rfl) ?_
          refine wl_det rfl rfl rfl (op_move rfl) ?_
          refine wl_det rfl rfl rfl (op_fn Try.func24 rfl rfl rfl (lreplay_nil n)) ?_
          refine wl_det rfl rfl rfl (op_move rfl) ?_
          refine wl_det rfl rfl rfl (op_extract rfl rfl) ?_
          refine wl_det rfl rfl rfl (op_extract rfl rfl) ?_
          refine wl_det rfl rfl rfl (op_assign rfl) ?_
          refine wl_det rfl rfl rfl (op_assign rfl) ?_
          refine wl_nil ?_
          refine st_tn ?_
          refine w_seq ?_
          refine w_region ?_
          refine wl_det rfl rfl rfl (op_move rfl) ?_
          refine wl_det rfl rfl rfl (op_val (v' := .bool true) (by rfl) (op_eql rfl rfl)) ?_
          refine wl_det rfl rfl rfl (op_move rfl) ?_
          refine wl_wanted_det rfl rfl rfl rfl rfl rfl rfl (op_move rfl) ?_
          refine wl_wanted_det rfl rfl rfl rfl rfl rfl rfl (op_val (v' := .bool true) (by rfl) (op_eql rfl rfl)) ?_
          refine wl_det rfl rfl rfl (op_pick_t rfl rfl) ?_
          refine wl_det rfl rfl rfl (op_move rfl) ?_
          refine wl_wanted_det rfl rfl rfl rfl rfl rfl rfl (op_move rfl) ?_
          refine wl_wanted_det rfl rfl rfl rfl rfl rfl rfl (op_move rfl) ?_
          refine wl_wanted_det rfl rfl rfl rfl rfl rfl rfl (op_val (v' := .bool true) (by rfl) (op_eql rfl rfl)) ?_
          refine wl_det rfl rfl rfl (op_pick_t rfl rfl) ?_
          refine wl_det rfl rfl rfl (op_move rfl) ?_
          refine wl_wanted_det rfl rfl rfl rfl rfl rfl rfl (op_move rfl) ?_
          refine wl_wanted_det rfl rfl rfl rfl rfl rfl rfl (op_move rfl) ?_
          refine wl_wanted_det rfl rfl rfl rfl rfl rfl rfl (op_val (v' := .bool true) (by rfl) (op_eql rfl rfl)) ?_
          refine wl_det rfl rfl rfl (op_pick_t rfl rfl) ?_
          refine wl_det rfl rfl rfl (op_move rfl) ?_
          refine wl_wanted_det rfl rfl rfl rfl rfl rfl rfl (op_move rfl) ?_
          refine wl_wanted_det rfl rfl rfl rfl rfl rfl rfl (op_move rfl) ?_
          refine wl_wanted_det rfl rfl rfl rfl rfl rfl rfl (op_val (v' := .bool true) (by rfl) (op_eql rfl rfl)) ?_
          refine wl_det rfl rfl rfl (op_pick_t rfl rfl) ?_
          refine wl_det rfl rfl rfl (op_move rfl) ?_
          refine wl_wanted_det rfl rfl rfl rfl rfl rfl rfl (op_move rfl) ?_
          refine wl_wanted_det rfl rfl rfl rfl rfl rfl rfl (op_fn Try.func23 rfl rfl rfl ldiscard_nil) ?_
          refine wl_wanted_det rfl rfl rfl rfl rfl rfl rfl (op_move rfl) ?_
          refine wl_wanted_det rfl rfl rfl rfl rfl rfl rfl (op_val (v' := .bool true) (by rfl) (op_eql rfl rfl)) ?_
          refine wl_det rfl rfl rfl (op_pick_t rfl rfl) ?_
          refine wl_det rfl rfl rfl (op_move rfl) ?_
          refine wl_wanted_det rfl rfl rfl rfl rfl rfl rfl (op_move rfl) ?_
          refine wl_wanted_det rfl rfl rfl rfl rfl rfl rfl (op_move rfl) ?_
          refine wl_wanted_det rfl rfl rfl rfl rfl rfl rfl (op_fn Try.func34 rfl rfl rfl (ltrunc_nil n)) ?_
          refine wl_wanted_det rfl rfl rfl rfl rfl rfl rfl (op_move rfl) ?_
          refine wl_wanted_det rfl rfl rfl rfl rfl rfl rfl (op_val (v' := .bool true) (by rfl) (op_eql rfl rfl)) ?_
          refine wl_det rfl rfl rfl (op_pick_t rfl rfl) ?_
          refine wl_det rfl rfl rfl (op_move rfl) ?_
          refine wl_wanted_det rfl rfl rfl rfl rfl rfl rfl (op_move rfl) ?_
          refine wl_wanted_det rfl rfl rfl rfl rfl rfl rfl (op_fn Try.func35 rfl rfl rfl lfirst_nil) ?_
          refine wl_wanted_det rfl rfl rfl rfl rfl rfl rfl (op_move rfl) ?_
          refine wl_wanted_det rfl rfl rfl rfl rfl rfl rfl (op_fn Try.func17 rfl rfl rfl llast_nil) ?_
          refine wl_wanted_det rfl rfl rfl rfl rfl rfl rfl (op_add' rfl rfl (by omega)) ?_
          refine wl_wanted_det rfl rfl rfl rfl rfl rfl rfl (op_move rfl) ?_
          refine wl_wanted_det rfl rfl rfl rfl rfl rfl rfl (op_fn Try.func21 rfl rfl rfl lpending_nil) ?_
          refine wl_wanted_det rfl rfl rfl rfl rfl rfl rfl (op_add' rfl rfl (by omega)) ?_
          refine wl_wanted_det rfl rfl rfl rfl rfl rfl rfl (op_move rfl) ?_
          refine wl_wanted_det rfl rfl rfl rfl rfl rfl rfl (op_fn Try.func18 rfl rfl rfl lsegm_nil) ?_
          refine wl_wanted_det rfl rfl rfl rfl rfl rfl rfl (op_lenT (enc := encT) (l := ([] : List RdM.Bs)) rfl tS35wv (Sl.ent (enc := encT) Sl.nilv)) ?_
          refine wl_wanted_det rfl rfl rfl rfl rfl rfl rfl (op_add' rfl rfl (by simp)) ?_
          refine wl_wanted_det rfl rfl rfl rfl rfl rfl rfl (op_val (v' := .bool true) (by rfl) (op_eql rfl rfl)) ?_
          refine wl_det rfl rfl rfl (op_pick_t rfl rfl) ?_
          refine wl_det rfl rfl rfl (op_assign rfl) ?_
          refine wl_nil ?_
          refine st_tn ?_
          refine w_ret ?_
          refine st_ret (vs := [_]) [] Try.results8 ⟨rfl, trivial⟩ rfl ?_
          refine ⟨_, rfl, ?_⟩
          exact ⟨rfl, rfl⟩
    · -- hok-
      refine w_region ?_
      refine wl_det rfl rfl rfl (op_move rfl) ?_
      refine wl_det rfl rfl rfl (op_move rfl) ?_
      refine wl_det rfl rfl rfl (op_fn Try.func16 rfl rfl rfl (open_no (mm := 0) (s := newS 100) s (by omega) hok)) ?_
      refine wl_det rfl rfl rfl (op_move rfl) ?_
      refine wl_det rfl rfl rfl (op_extract rfl rfl) ?_
      refine wl_det rfl rfl rfl (op_extract rfl rfl) ?_
      refine wl_det rfl rfl rfl (op_assign rfl) ?_
      refine wl_det rfl rfl rfl (op_assign rfl) ?_
      refine wl_nil ?_
      refine st_tn ?_
      refine w_seq ?_
      refine w_cutL [(11, .bool (decide (1 ≤ s.length ∧ s.length ≤ 48)))] [0, 1, 6, 7, 9, 10] [601] rfl (fun K' hK => ?_) ?_
      · -- cut r6
        refine w_region ?_
        refine wl_det rfl rfl rfl (op_move rfl) ?_
        refine wl_det rfl rfl rfl (op_lenBs rfl Try.underlying9) ?_
        refine wl_det rfl rfl rfl (op_geq rfl rfl) ?_
        refine wl_det rfl rfl rfl (op_move rfl) ?_
        refine wl_gsplit (t := 50) rfl (fun hg50 => ?_) (fun hg50 => ?_)
        · -- 50 is True
          refine wl_wanted_det rfl rfl rfl rfl rfl rfl rfl (op_move rfl) ?_
          refine wl_wanted_det rfl rfl rfl rfl rfl rfl rfl (op_lenBs rfl Try.underlying9) ?_
          refine wl_wanted_det rfl rfl rfl rfl rfl rfl rfl (op_leq rfl rfl) ?_
          refine wl_det rfl rfl rfl (op_pick_t rfl rfl) ?_
          refine wl_det rfl rfl rfl (op_assign rfl) ?_
          refine wl_nil ?_
          refine st_tn ?_
          exact cut_done1 [601] hK rfl (by first | (rw [decide_eq_decide]; omega) | (symm; rw [decide_eq_false_iff_not]; omega) | (symm; rw [decide_eq_true_iff]; omega) | (simp; done) | (simp; omega) | (simp [*]; done) | (simp [*]; omega)) (by rfl) rfl rfl
        · -- 50 is False
          refine wl_unwanted rfl rfl rfl rfl rfl rfl rfl rfl ?_
          refine wl_unwanted rfl rfl rfl rfl rfl rfl rfl rfl ?_
          refine wl_unwanted rfl rfl rfl rfl rfl rfl rfl rfl ?_
          refine wl_det rfl rfl rfl (op_pick_f rfl rfl) ?_
          refine wl_det rfl rfl rfl (op_assign rfl) ?_
          refine wl_nil ?_
          refine st_tn ?_
          exact cut_done1 [601] hK rfl (by first | (rw [decide_eq_decide]; omega) | (symm; rw [decide_eq_false_iff_not]; omega) | (symm; rw [decide_eq_true_iff]; omega) | (simp; done) | (simp; omega) | (simp [*]; done) | (simp [*]; omega)) (by rfl) rfl rfl
      · -- behind r6
        show W _ _ _ _ _ [(11, _), (0, _), (1, _), (6, _), (7, _), (9, _), (10, _)] [(601, _)] _
        refine w_seq ?_
        refine w_seq ?_
        refine w_region ?_
        refine wl_det rfl rfl rfl (op_assign rfl) ?_
        refine wl_nil ?_
        refine st_tn ?_
        refine w_block ?_
        refine w_loopQ (X := Bool × Nat) (fun z => z.2 ≤ s.length ∧ z.1 = decide ((1 ≤ s.length ∧ s.length ≤ 48) ∧ inR 33 126 (s.take z.2))) (fun z => [(11, .bool (z.1)), (12, .int .i64 (z.2))]) (fun _ => []) (fun z => s.length - z.2) ((decide (1 ≤ s.length ∧ s.length ≤ 48), 0)) [(0, _), (1, _), (6, _), (7, _), (9, _), (10, _)] [(601, _)] [601] rfl (rfl) (.cons rfl (.cons rfl (.nil _))) (.cons rfl (.cons rfl (.cons rfl (.cons rfl (.cons rfl (.cons rfl (.nil _))))))) (by
            try dsimp only
            refine ⟨Nat.zero_le _, ?_⟩; rw [List.take_zero]; exact decide_eq_decide.2 ⟨fun h => ⟨h, fun q hq => by simp at hq⟩, fun h => h.1⟩) ?_
        rintro ⟨good, i⟩ ⟨hi, hgood⟩
        refine w_norm2 (by dsimp only [List.cons_append, List.nil_append]) (by dsimp only [List.cons_append, List.nil_append]) ?_
        try dsimp only at hi hgood ⊢
        refine w_seq ?_
        refine w_seq ?_
        refine w_region ?_
        refine wl_det rfl rfl rfl (op_move rfl) ?_
        refine wl_det rfl rfl rfl (op_move rfl) ?_
        refine wl_det rfl rfl rfl (op_lenBs rfl Try.underlying9) ?_
        refine wl_det rfl rfl rfl (op_lss rfl rfl) ?_
        refine wl_nil ?_
        refine st_tn ?_
        refine w_cond_d rfl (fun hc58 => ?_) (fun hc58 => ?_)
        · -- c58.t
          obtain ⟨b, hb⟩ := getE (l := s) (i := i) (by omega)
          have hin := inR_take hb
          refine w_skip ?_
          refine st_tn ?_
          refine w_seq ?_
          refine w_block ?_
          by_cases hg : good = true
          · -- hg+
            have hyg : (1 ≤ s.length ∧ s.length ≤ 48) ∧ inR 33 126 (s.take i) := by rw [hgood] at hg; exact of_decide_eq_true hg
            by_cases h1 : 33 ≤ b.toNat
            · -- h1+
              by_cases h2 : b.toNat ≤ 126
              · -- h2+
                have hyy : (1 ≤ s.length ∧ s.length ≤ 48) ∧ inR 33 126 (s.take (i + 1)) := ⟨hyg.1, hin.2 ⟨hyg.2, h1, h2⟩⟩
                refine w_region ?_
                refine wl_det rfl rfl rfl (op_val (v' := .bool true) (by rw [hg]) (op_move rfl)) ?_
                refine wl_det rfl rfl rfl (op_move rfl) ?_
                refine wl_wanted_det rfl rfl rfl rfl rfl rfl rfl (op_move rfl) ?_
                refine wl_wanted_det rfl rfl rfl rfl rfl rfl rfl (op_move rfl) ?_
                refine wl_wanted_det rfl rfl rfl rfl rfl rfl rfl (op_idxBs rfl rfl Try.underlying9 (by assumption)) ?_
                refine wl_wanted_det rfl rfl rfl rfl rfl rfl rfl (op_val (v' := .bool true) (by rw [decide_eq_true (by omega)]) (op_geq rfl rfl)) ?_
                refine wl_det rfl rfl rfl (op_pick_t rfl rfl) ?_
                refine wl_det rfl rfl rfl (op_move rfl) ?_
                refine wl_wanted_det rfl rfl rfl rfl rfl rfl rfl (op_move rfl) ?_
                refine wl_wanted_det rfl rfl rfl rfl rfl rfl rfl (op_move rfl) ?_
                refine wl_wanted_det rfl rfl rfl rfl rfl rfl rfl (op_idxBs rfl rfl Try.underlying9 (by assumption)) ?_
                refine wl_wanted_det rfl rfl rfl rfl rfl rfl rfl (op_val (v' := .bool true) (by rw [decide_eq_true (by omega)]) (op_leq rfl rfl)) ?_
                refine wl_det rfl rfl rfl (op_pick_t rfl rfl) ?_
                refine wl_det rfl rfl rfl (op_assign rfl) ?_
                refine wl_nil ?_
                refine st_bn ?_
                refine st_tn ?_
                refine w_region ?_
                refine wl_det rfl rfl rfl (op_move rfl) ?_
                refine wl_det rfl rfl rfl (op_add' rfl rfl (by omega)) ?_
                refine wl_det rfl rfl rfl (op_assign rfl) ?_
                refine wl_nil ?_
                refine st_roundQ (x := (good, i)) ((true, i + 1)) [601] rfl (rfl) (.cons rfl (.cons rfl (.nil _))) (.cons rfl (.cons rfl (.cons rfl (.cons rfl (.cons rfl (.cons rfl (.nil _))))))) (by
                    try dsimp only
                    exact ⟨by omega, (decide_eq_true hyy).symm⟩) (by
                    try dsimp only
                    omega) 
              · -- h2-
                have hng : ¬ ((1 ≤ s.length ∧ s.length ≤ 48) ∧ inR 33 126 (s.take (i + 1))) := fun h => h2 (hin.1 h.2).2.2
                refine w_region ?_
                refine wl_det rfl rfl rfl (op_val (v' := .bool true) (by rw [hg]) (op_move rfl)) ?_
                refine wl_det rfl rfl rfl (op_move rfl) ?_
                refine wl_wanted_det rfl rfl rfl rfl rfl rfl rfl (op_move rfl) ?_
                refine wl_wanted_det rfl rfl rfl rfl rfl rfl rfl (op_move rfl) ?_
                refine wl_wanted_det rfl rfl rfl rfl rfl rfl rfl (op_idxBs rfl rfl Try.underlying9 (by assumption)) ?_
                refine wl_wanted_det rfl rfl rfl rfl rfl rfl rfl (op_val (v' := .bool true) (by rw [decide_eq_true (by omega)]) (op_geq rfl rfl)) ?_
                refine wl_det rfl rfl rfl (op_pick_t rfl rfl) ?_
                refine wl_det rfl rfl rfl (op_move rfl) ?_
                refine wl_wanted_det rfl rfl rfl rfl rfl rfl rfl (op_move rfl) ?_
                refine wl_wanted_det rfl rfl rfl rfl rfl rfl rfl (op_move rfl) ?_
                refine wl_wanted_det rfl rfl rfl rfl rfl rfl rfl (op_idxBs rfl rfl Try.underlying9 (by assumption)) ?_
                refine wl_wanted_det rfl rfl rfl rfl rfl rfl rfl (op_val (v' := .bool false) (by rw [decide_eq_false (by omega)]) (op_leq rfl rfl)) ?_
                refine wl_det rfl rfl rfl (op_pick_t rfl rfl) ?_
                refine wl_det rfl rfl rfl (op_assign rfl) ?_
                refine wl_nil ?_
                refine st_bn ?_
                refine st_tn ?_
                refine w_region ?_
                refine wl_det rfl rfl rfl (op_move rfl) ?_
                refine wl_det rfl rfl rfl (op_add' rfl rfl (by omega)) ?_
                refine wl_det rfl rfl rfl (op_assign rfl) ?_
                refine wl_nil ?_
                refine st_roundQ (x := (good, i)) ((false, i + 1)) [601] rfl (rfl) (.cons rfl (.cons rfl (.nil _))) (.cons rfl (.cons rfl (.cons rfl (.cons rfl (.cons rfl (.cons rfl (.nil _))))))) (by
                    try dsimp only
                    exact ⟨by omega, (decide_eq_false hng).symm⟩) (by
                    try dsimp only
                    omega) 
            · -- h1-
              have hng : ¬ ((1 ≤ s.length ∧ s.length ≤ 48) ∧ inR 33 126 (s.take (i + 1))) := fun h => h1 (hin.1 h.2).2.1
              refine w_region ?_
              refine wl_det rfl rfl rfl (op_val (v' := .bool true) (by rw [hg]) (op_move rfl)) ?_
              refine wl_det rfl rfl rfl (op_move rfl) ?_
              refine wl_wanted_det rfl rfl rfl rfl rfl rfl rfl (op_move rfl) ?_
              refine wl_wanted_det rfl rfl rfl rfl rfl rfl rfl (op_move rfl) ?_
              refine wl_wanted_det rfl rfl rfl rfl rfl rfl rfl (op_idxBs rfl rfl Try.underlying9 (by assumption)) ?_
              refine wl_wanted_det rfl rfl rfl rfl rfl rfl rfl (op_val (v' := .bool false) (by rw [decide_eq_false (by omega)]) (op_geq rfl rfl)) ?_
              refine wl_det rfl rfl rfl (op_pick_t rfl rfl) ?_
              refine wl_det rfl rfl rfl (op_move rfl) ?_
              refine wl_unwanted rfl rfl rfl rfl rfl rfl rfl rfl ?_
              refine wl_unwanted rfl rfl rfl rfl rfl rfl rfl rfl ?_
              refine wl_unwanted rfl rfl rfl rfl rfl rfl rfl rfl ?_
              refine wl_unwanted rfl rfl rfl rfl rfl rfl rfl rfl ?_
              refine wl_det rfl rfl rfl (op_pick_f rfl rfl) ?_
              refine wl_det rfl rfl rfl (op_assign rfl) ?_
              refine wl_nil ?_
              refine st_bn ?_
              refine st_tn ?_
              refine w_region ?_
              refine wl_det rfl rfl rfl (op_move rfl) ?_
              refine wl_det rfl rfl rfl (op_add' rfl rfl (by omega)) ?_
              refine wl_det rfl rfl rfl (op_assign rfl) ?_
              refine wl_nil ?_
              refine st_roundQ (x := (good, i)) ((false, i + 1)) [601] rfl (rfl) (.cons rfl (.cons rfl (.nil _))) (.cons rfl (.cons rfl (.cons rfl (.cons rfl (.cons rfl (.cons rfl (.nil _))))))) (by
                  try dsimp only
                  exact ⟨by omega, (decide_eq_false hng).symm⟩) (by
                  try dsimp only
                  omega) 
          · -- hg-
            have hng : ¬ ((1 ≤ s.length ∧ s.length ≤ 48) ∧ inR 33 126 (s.take (i + 1))) := fun h => hg (by rw [hgood]; exact decide_eq_true ⟨h.1, (hin.1 h.2).1⟩)
            refine w_region ?_
            refine wl_det rfl rfl rfl (op_val (v' := .bool false) (by simpa using hg) (op_move rfl)) ?_
            refine wl_det rfl rfl rfl (op_move rfl) ?_
            refine wl_unwanted rfl rfl rfl rfl rfl rfl rfl rfl ?_
            refine wl_unwanted rfl rfl rfl rfl rfl rfl rfl rfl ?_
            refine wl_unwanted rfl rfl rfl rfl rfl rfl rfl rfl ?_
            refine wl_unwanted rfl rfl rfl rfl rfl rfl rfl rfl ?_
            refine wl_det rfl rfl rfl (op_pick_f rfl rfl) ?_
            refine wl_det rfl rfl rfl (op_move rfl) ?_
            refine wl_unwanted rfl rfl rfl rfl rfl rfl rfl rfl ?_
            refine wl_unwanted rfl rfl rfl rfl rfl rfl rfl rfl ?_
            refine wl_unwanted rfl rfl rfl rfl rfl rfl rfl rfl ?_
            refine wl_unwanted rfl rfl rfl rfl rfl rfl rfl rfl ?_
            refine wl_det rfl rfl rfl (op_pick_f rfl rfl) ?_
            refine wl_det rfl rfl rfl (op_assign rfl) ?_
            refine wl_nil ?_
            refine st_bn ?_
            refine st_tn ?_
            refine w_region ?_
            refine wl_det rfl rfl rfl (op_move rfl) ?_
            refine wl_det rfl rfl rfl (op_add' rfl rfl (by omega)) ?_
            refine wl_det rfl rfl rfl (op_assign rfl) ?_
            refine wl_nil ?_
            refine st_roundQ (x := (good, i)) ((false, i + 1)) [601] rfl (rfl) (.cons rfl (.cons rfl (.nil _))) (.cons rfl (.cons rfl (.cons rfl (.cons rfl (.cons rfl (.cons rfl (.nil _))))))) (by
                try dsimp only
                exact ⟨by omega, (decide_eq_false hng).symm⟩) (by
                try dsimp only
                omega) 
        · -- c58.f
          have hgd : good = decide (DskM.nameB s = true ∧ s.length ≤ 48) := by
            rw [hgood, take_all (by omega)]
            exact decide_eq_decide.2 ⟨fun h => name_iff.2 ⟨h.1.1, h.1.2, h.2⟩, fun h => by have := name_iff.1 h; exact ⟨⟨this.1, this.2.1⟩, this.2.2⟩⟩
          refine w_exit ?_
          refine st_te ?_
          refine st_te ?_
          refine st_be ?_
          refine st_tn ?_
          refine w_seq ?_
          refine w_seq ?_
          refine w_region ?_
          refine wl_det rfl rfl rfl (op_move rfl) ?_
          refine wl_det rfl rfl rfl (op_val (v' := .bool false) (by rfl) (op_neq rfl rfl)) ?_
          refine wl_det rfl rfl rfl (op_move rfl) ?_
          refine wl_wanted_det rfl rfl rfl rfl rfl rfl rfl (op_move rfl) ?_
          refine wl_wanted_det rfl rfl rfl rfl rfl rfl rfl (op_move rfl) ?_
          refine wl_wanted_det rfl rfl rfl rfl rfl rfl rfl (op_eql rfl rfl) ?_
          refine wl_wanted_det rfl rfl rfl rfl rfl rfl rfl (op_val (v' := .bool false) (by rw [hgd, decide_eq_false hok]; rfl) (op_neB rfl rfl Try.underlying4)) ?_
          refine wl_det rfl rfl rfl (op_pick_f rfl rfl) ?_
          refine wl_det rfl rfl rfl (op_move rfl) ?_
          refine wl_wanted_det rfl rfl rfl rfl rfl rfl rfl (op_val (v' := .bool false) (by rw [hgd, decide_eq_false hok]) (op_move rfl)) ?_
          refine wl_wanted_det rfl rfl rfl rfl rfl rfl rfl (op_not_f rfl) ?_
          refine wl_wanted_det rfl rfl rfl rfl rfl rfl rfl (op_move rfl) ?_
          refine wl_wanted_det rfl rfl rfl rfl rfl rfl rfl (op_move rfl) ?_
          refine wl_wanted_det rfl rfl rfl rfl rfl rfl rfl (op_val (v' := .bool false) (by rfl) (op_neq rfl rfl)) ?_
          refine wl_wanted_det rfl rfl rfl rfl rfl rfl rfl (op_pick_t rfl rfl) ?_
          refine wl_det rfl rfl rfl (op_pick_f rfl rfl) ?_
          refine wl_det rfl rfl rfl (op_move rfl) ?_
          refine wl_wanted_det rfl rfl rfl rfl rfl rfl rfl (op_move rfl) ?_
          refine wl_wanted_det rfl rfl rfl rfl rfl rfl rfl (op_nePtr rfl Try.underlying23) ?_
          refine wl_wanted_det rfl rfl rfl rfl rfl rfl rfl (op_move rfl) ?_
          refine wl_wanted_det rfl rfl rfl rfl rfl rfl rfl (op_val (v' := .bool false) (by rw [hgd, decide_eq_false hok]; rfl) (op_neB rfl rfl Try.underlying4)) ?_
          refine wl_det rfl rfl rfl (op_pick_f rfl rfl) ?_
          refine wl_nil ?_
          refine st_tn ?_
          refine w_cond_f (rfl) ?_
          refine w_skip ?_
          refine st_tn ?_
          refine w_seq ?_
          refine w_region ?_
          refine wl_det rfl rfl rfl (op_move rfl) ?_
          refine wl_op [601] rfl rfl rfl rfl (op_fn Try.func33 rfl rfl rfl (dcrash_c 601)) ?_
          rintro _ _ ⟨rfl, rfl⟩
          refine wl_nil ?_
          refine st_tn ?_
          refine w_seq ?_
          refine w_region ?_
          refine wl_det rfl rfl rfl (op_move rfl) ?_
          refine wl_op [601] rfl rfl rfl rfl (op_fn Try.func16 rfl rfl rfl (lopend_c 601 [108, 111, 103] name_log rfl)) ?_
          rintro _ _ ⟨rfl, rfl⟩
          refine wl_det rfl rfl rfl (op_move rfl) ?_
          refine wl_det rfl rfl rfl (op_extract rfl rfl) ?_
          refine wl_det rfl rfl rfl (op_extract rfl rfl) ?_
          refine wl_det rfl rfl rfl (op_assign rfl) ?_
          refine wl_det rfl rfl rfl (op_assign rfl) ?_
          refine wl_nil ?_
          refine st_tn ?_
          refine w_seq ?_
          refine w_region ?_
          refine wl_det rfl rfl rfl (op_assign rfl) ?_
          refine wl_nil ?_
          refine st_tn ?_
          refine w_seq ?_
          refine w_region ?_
          refine wl_det rfl rfl rfl (op_move rfl) ?_
          refine wl_det rfl rfl rfl (op_move rfl) ?_
          refine wl_det rfl rfl rfl (op_fn Try.func14 rfl rfl rfl (lappend_nil s)) ?_
          refine wl_det rfl rfl rfl (op_move rfl) ?_
          refine wl_det rfl rfl rfl (op_extract rfl rfl) ?_
          refine wl_det rfl rfl rfl (op_extract rfl rfl) ?_
          refine wl_det rfl rfl rfl (op_assign rfl) ?_
          refine wl_det rfl rfl rfl (op_assign rfl) ?_
          refine wl_nil ?_
          refine st_tn ?_
          refine w_seq ?_
          refine w_region ?_
          refine wl_det rfl rfl rfl (op_move rfl) ?_
          refine wl_det rfl rfl rfl (op_fn Try.func15 rfl rfl rfl lcommit_nil) ?_
          refine wl_det rfl rfl rfl (op_move rfl) ?_
          refine wl_det rfl rfl rfl (op_extract rfl rfl) ?_
          refine wl_det rfl rfl rfl (op_extract rfl rfl) ?_
          refine wl_det rfl rfl rfl (op_assign rfl) ?_
          refine wl_det rfl rfl rfl (op_assign rfl) ?_
          refine wl_nil ?_
          refine st_tn ?_
          refine w_seq ?_
          refine w_region ?_
          refine wl_det rfl rfl rfl (op_move rfl) ?_
          refine wl_det rfl rfl rfl (op_move rfl) ?_
          refine wl_det rfl rfl rfl (op_fn Try.func30 rfl rfl rfl (lread_nil n)) ?_
          refine wl_det rfl rfl rfl (op_move rfl) ?_
          refine wl_det rfl rfl rfl (op_extract rfl rfl) ?_
          refine wl_det rfl rfl rfl (op_extract rfl rfl) ?_
          refine wl_det rfl rfl rfl (op_assign rfl) ?_
          refine wl_det rfl rfl rfl (op_assign rfl) ?_
          refine wl_nil ?_
          refine st_tn ?_
          refine w_seq ?_
          refine w_region ?_
          refine wl_det rfl rfl rfl (op_move rfl) ?_
          refine wl_det rfl rfl rfl (op_move rfl) ?_
          refine wl_det rfl rfl rfl (op_fn Try.func24 rfl rfl rfl (lreplay_nil n)) ?_
          refine wl_det rfl rfl rfl (op_move rfl) ?_
          refine wl_det rfl rfl rfl (op_extract rfl rfl) ?_
          refine wl_det rfl rfl rfl (op_extract rfl rfl) ?_
          refine wl_det rfl rfl rfl (op_assign rfl) ?_
          refine wl_det rfl rfl rfl (op_assign rfl) ?_
          refine wl_nil ?_
          refine st_tn ?_
          refine w_seq ?_
          refine w_region ?_
          refine wl_det rfl rfl rfl (op_move rfl) ?_
          refine wl_det rfl rfl rfl (op_val (v' := .bool true) (by rfl) (op_eql rfl rfl)) ?_
          refine wl_det rfl rfl rfl (op_move rfl) ?_
          refine wl_wanted_det rfl rfl rfl rfl rfl rfl rfl (op_move rfl) ?_
          refine wl_wanted_det rfl rfl rfl rfl rfl rfl rfl (op_val (v' := .bool true) (by rfl) (op_eql rfl rfl)) ?_
          refine wl_det rfl rfl rfl (op_pick_t rfl rfl) ?_
          refine wl_det rfl rfl rfl (op_move rfl) ?_
          refine wl_wanted_det rfl rfl rfl rfl rfl rfl rfl (op_move rfl) ?_
          refine wl_wanted_det rfl rfl rfl rfl rfl rfl rfl (op_move rfl) ?_
          refine wl_wanted_det rfl rfl rfl rfl rfl rfl rfl (op_val (v' := .bool true) (by rfl) (op_eql rfl rfl)) ?_
          refine wl_det rfl rfl rfl (op_pick_t rfl rfl) ?_
          refine wl_det rfl rfl rfl (op_move rfl) ?_
          refine wl_wanted_det rfl rfl rfl rfl rfl rfl rfl (op_move rfl) ?_
          refine wl_wanted_det rfl rfl rfl rfl rfl rfl rfl (op_move rfl) ?_
          refine wl_wanted_det rfl rfl rfl rfl rfl rfl rfl (op_val (v' := .bool true) (by rfl) (op_eql rfl rfl)) ?_
          refine wl_det rfl rfl rfl (op_pick_t rfl rfl) ?_
          refine wl_det rfl rfl rfl (op_move rfl) ?_
          refine wl_wanted_det rfl rfl rfl rfl rfl rfl rfl (op_move rfl) ?_
          refine wl_wanted_det rfl rfl rfl rfl rfl rfl rfl (op_move rfl) ?_
          refine wl_wanted_det rfl rfl rfl rfl rfl rfl rfl (op_val (v' := .bool true) (by rfl) (op_eql rfl rfl)) ?_
          refine wl_det rfl rfl rfl (op_pick_t rfl rfl) ?_
          refine wl_det rfl rfl rfl (op_move rfl) ?_
          refine wl_wanted_det rfl rfl rfl rfl rfl rfl rfl (op_move rfl) ?_
          refine wl_wanted_det rfl rfl rfl rfl rfl rfl rfl (op_fn Try.func23 rfl rfl rfl ldiscard_nil) ?_
          refine wl_wanted_det rfl rfl rfl rfl rfl rfl rfl (op_move rfl) ?_
          refine wl_wanted_det rfl rfl rfl rfl rfl rfl rfl (op_val (v' := .bool true) (by rfl) (op_eql rfl rfl)) ?_
          refine wl_det rfl rfl rfl (op_pick_t rfl rfl) ?_
          refine wl_det rfl rfl rfl (op_move rfl) ?_
          refine wl_wanted_det rfl rfl rfl rfl rfl rfl rfl (op_move rfl) ?_
          refine wl_wanted_det rfl rfl rfl rfl rfl rfl rfl (op_move rfl) ?_
          refine wl_wanted_det rfl rfl rfl rfl rfl rfl rfl (op_fn Try.func34 rfl rfl rfl (ltrunc_nil n)) ?_
          refine wl_wanted_det rfl rfl rfl rfl rfl rfl rfl (op_move rfl) ?_
          refine wl_wanted_det rfl rfl rfl rfl rfl rfl rfl (op_val (v' := .bool true) (by rfl) (op_eql rfl rfl)) ?_
          refine wl_det rfl rfl rfl (op_pick_t rfl rfl) ?_
          refine wl_det rfl rfl rfl (op_move rfl) ?_
          refine wl_wanted_det rfl rfl rfl rfl rfl rfl rfl (op_move rfl) ?_
          refine wl_wanted_det rfl rfl rfl rfl rfl rfl rfl (op_fn Try.func35 rfl rfl rfl lfirst_nil) ?_
          refine wl_wanted_det rfl rfl rfl rfl rfl rfl rfl (op_move rfl) ?_
          refine wl_wanted_det rfl rfl rfl rfl rfl rfl rfl (op_fn Try.func17 rfl rfl rfl llast_nil) ?_
          refine wl_wanted_det rfl rfl rfl rfl rfl rfl rfl (op_add' rfl rfl (by omega)) ?_
          refine wl_wanted_det rfl rfl rfl rfl rfl rfl rfl (op_move rfl) ?_
          refine wl_wanted_det rfl rfl rfl rfl rfl rfl rfl (op_fn Try.func21 rfl rfl rfl lpending_nil) ?_
          refine wl_wanted_det rfl rfl rfl rfl rfl rfl rfl (op_add' rfl rfl (by omega)) ?_
          refine wl_wanted_det rfl rfl rfl rfl rfl rfl rfl (op_move rfl) ?_
          refine wl_wanted_det rfl rfl rfl rfl rfl rfl rfl (op_fn Try.func18 rfl rfl rfl lsegm_nil) ?_
          refine wl_wanted_det rfl rfl rfl rfl rfl rfl rfl (op_lenT (enc := encT) (l := ([] : List RdM.Bs)) rfl tS35wv (Sl.ent (enc := encT) Sl.nilv)) ?_
          refine wl_wanted_det rfl rfl rfl rfl rfl rfl rfl (op_add' rfl rfl (by simp)) ?_
          refine wl_wanted_det rfl rfl rfl rfl rfl rfl rfl (op_val (v' := .bool true) (by rfl) (op_eql rfl rfl)) ?_
          refine wl_det rfl rfl rfl (op_pick_t rfl rfl) ?_
          refine wl_det rfl rfl rfl (op_assign rfl) ?_
          refine wl_nil ?_
          refine st_tn ?_
          refine w_ret ?_
          refine st_ret (vs := [_]) [] Try.results8 ⟨rfl, trivial⟩ rfl ?_
          refine ⟨_, rfl, ?_⟩
          exact ⟨rfl, rfl⟩

theorem lawNil_ba {σ : World} {F : List Res} (t : ByteArray) (n : Int) : FnT Try.prog σ F 8 [.string t, .int .i64 n] [] (fun u ρ => u = .bool true ∧ ρ = []) := by
  have h := lawNil_any (σ := σ) (F := F) t.data.toList n
  rwa [str_self] at h
end Go.Proofs.Ytcbigmgakdanjaa
