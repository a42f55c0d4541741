/- Contracts of slices.Sort, Compact and Clone at []int, and of bitmap.Of. Conditions: none. -/
import Derived.Test.YtkknlfhncheflaaB6
import Derived.Test.YtkknlfhncheflaaShelf
import Derived.Test.YtkknlfhncheflaaSl7
namespace Go.Proofs.Ytkknlfhncheflaa
open Go Go.SL Go.RowKit Go.BitM
set_option linter.unusedVariables false
set_option linter.unusedSimpArgs false
theorem tA26g : aggB Try.prog 26 1 = true := by kernel_rfl
theorem tB26g : placesB Try.prog 26 = some ([(0, 1)], [Value.slice none 0 0]) := by kernel_rfl
theorem tB58g : placesB Try.prog 58 = some ([(0, 1), (1, 1)], [Value.int .i64 0, Value.int .i64 0]) := by kernel_rfl
theorem tN26g : (Try.prog.info? 26).bind (·.zero) = some (Value.agg #[Value.slice none 0 0]) := by kernel_rfl
theorem tO3g : oneB Try.prog 3 = true := by kernel_rfl
theorem tP22g : appB Try.prog 22 3 1 8 = true := by kernel_rfl
theorem tS22g : sliceB Try.prog 22 3 1 = true := by kernel_rfl
theorem tZ26g : (Try.prog.info? 26).map (·.size) = some 1 := by kernel_rfl

/-- The sorted list. -/
def srt (l : List Int) : List Int := l.mergeSort fun x y => decide (x ≤ y)
theorem length_srt (l : List Int) : (srt l).length = l.length := List.length_mergeSort l
theorem mem_srt {l : List Int} {x : Int} : x ∈ srt l ↔ x ∈ l := List.mem_mergeSort
theorem srt_le (l : List Int) : (srt l).Pairwise (· ≤ ·) := by
  have := List.pairwise_mergeSort (le := fun x y : Int => decide (x ≤ y)) (fun a b c h1 h2 => by simp at *; omega) (fun a b => by simp; omega) l
  exact this.imp fun h => by simpa using h
theorem sort_any {σ : World} {F : List Res} {l : List Int} {a : Option Addr} {c : Nat} (lab : Nat) (hl : l.length < 4611686018427387904) :
    FnT Try.prog σ F 51 [.slice a l.length c] [(lab, slW 3 encZ 1 (.slice a l.length c) l)] (fun u ρ => u = .tuple #[] ∧ ρ = [(lab, slW 3 encZ 1 (.slice a l.length c) (srt l))]) :=
  fn_sort (enc0 := Value.int .i64) (enc := encZ) (fun _ => rfl) length_srt (fun g cap l w hH hg hl => Try.slices_Sort_int g 0 cap l w hH hg hl) (fun a cap w => Try.slices_Sort_int_none a cap w) lab hl
theorem compact_le (l : List Int) : (Lib.compact l).length ≤ l.length := by
  unfold Lib.compact Lib.compactUpTo
  rw [List.length_map]
  exact Nat.le_trans (List.length_filter_le _ _) (by simp)
theorem compactUpTo_succ (d : Array Int) (m : Nat) : Lib.compactUpTo d (m + 1) = Lib.compactUpTo d m ++ if Lib.keeps d m then [d[m]!] else [] := by
  unfold Lib.compactUpTo
  rw [List.range_succ, List.filter_append, List.map_append]
  congr 1
  by_cases h : Lib.keeps d m = true <;> simp [h]
theorem compact_spec {l : List Int} (hs : l.Pairwise (· ≤ ·)) : SS (Lib.compact l) ∧ ∀ x, x ∈ Lib.compact l ↔ x ∈ l := by
  have key : ∀ m, m ≤ l.length → SS (Lib.compactUpTo l.toArray m) ∧ (∀ x, x ∈ Lib.compactUpTo l.toArray m ↔ x ∈ l.take m) := by
    intro m
    induction m with
    | zero => intro _; exact ⟨List.Pairwise.nil, fun x => by simp [Lib.compactUpTo]⟩
    | succ m ih =>
      intro hm
      obtain ⟨h1, h2⟩ := ih (by omega)
      have hlt : m < l.length := by omega
      have hg : l.toArray[m]! = l[m] := by simp [hlt]
      have ht : l.take (m + 1) = l.take m ++ [l[m]] := take_snoc (List.getElem?_eq_getElem hlt)
      have hmax : ∀ y ∈ l.take m, y ≤ l[m] := fun y hy => by
        have hs' : (l.take (m + 1)).Pairwise (· ≤ ·) := hs.sublist (List.take_sublist _ _)
        rw [ht, List.pairwise_append] at hs'
        exact hs'.2.2 y hy _ (by simp)
      rw [compactUpTo_succ, hg, ht]
      by_cases hk : Lib.keeps l.toArray m = true
      · rw [if_pos hk]
        refine ⟨h1.snoc fun y hy => ?_, fun x => by rw [List.mem_append, h2, List.mem_append]⟩
        have hle := hmax y ((h2 y).1 hy)
        rcases Int.lt_or_eq_of_le hle with h | h
        · exact h
        · exfalso
          have hy' := (h2 y).1 hy
          have hm0 : 0 < m := by
            rcases Nat.eq_zero_or_pos m with h0 | h0
            · subst h0; simp at hy'
            · exact h0
          have hpm : l[m - 1] = l[m] := by
            have ht2 : l.take m = l.take (m - 1) ++ [l[m - 1]] := by
              have := take_snoc (List.getElem?_eq_getElem (l := l) (i := m - 1) (by omega))
              rwa [show m - 1 + 1 = m by omega] at this
            have hle2 : l[m - 1] ≤ l[m] := hmax _ (List.mem_take_iff_getElem.2 ⟨m - 1, by omega, rfl⟩)
            rw [ht2] at hy'
            rcases List.mem_append.1 hy' with hy' | hy'
            · have hs' : (l.take m).Pairwise (· ≤ ·) := hs.sublist (List.take_sublist _ _)
              rw [ht2, List.pairwise_append] at hs'
              have := hs'.2.2 y hy' _ (List.mem_singleton.2 rfl)
              omega
            · simp at hy'; omega
          have hg2 : l.toArray[m - 1]! = l[m - 1] := by simp [show m - 1 < l.length by omega]
          unfold Lib.keeps at hk
          rw [hg, hg2, hpm] at hk
          simp at hk; omega
      · rw [if_neg hk, List.append_nil]
        refine ⟨h1, fun x => ?_⟩
        rw [h2, List.mem_append]
        refine ⟨.inl, fun h => ?_⟩
        rcases h with h | h
        · exact h
        · simp at h; subst h
          have hm0 : 0 < m := by
            rcases Nat.eq_zero_or_pos m with h0 | h0
            · subst h0; exact absurd (by simp [Lib.keeps]) hk
            · exact h0
          have hg2 : l.toArray[m - 1]! = l[m - 1] := by simp [show m - 1 < l.length by omega]
          have hpm : l[m - 1] = l[m] := by
            unfold Lib.keeps at hk
            rw [hg, hg2] at hk
            simp at hk; exact hk.2.symm
          have ht2 : l.take m = l.take (m - 1) ++ [l[m - 1]] := by
            have := take_snoc (List.getElem?_eq_getElem (l := l) (i := m - 1) (by omega))
            rwa [show m - 1 + 1 = m by omega] at this
          rw [ht2, hpm]; simp
  have := key l.length (Nat.le_refl _)
  rw [List.take_length] at this
  exact this
theorem compact_any {σ : World} {F : List Res} {l : List Int} {a : Option Addr} {c : Nat} (lab lab' : Nat) (hl : l.length ≤ 9223372036854775807) :
    FnT Try.prog σ F 76 [.slice a l.length c] [(lab, slW 3 encZ 1 (.slice a l.length c) l)] (fun u ρ => u = .slice a (Lib.compact l).length c ∧ ρ = [(lab', slW 3 encZ 1 (.slice a (Lib.compact l).length c) (Lib.compact l))]) :=
  fn_compact (enc0 := Value.int .i64) (enc := encZ) (fun _ => rfl) compact_le rfl (fun g cap l w hH hl hc => (Try.slices_Compact_int g 0 cap l w hH hl hc).mono fun _ _ ⟨h1, n, h2⟩ => ⟨h1, n, 0, h2⟩) (fun a cap w => Try.slices_Compact_int_empty a cap w) lab lab' hl
theorem push_any {σ : World} {F : List Res} {a : Option Addr} {c b : Nat} {rl : List Run} (lb ls : Nat) (x : Run) (hl : rl.length ≤ 1099511627776) (hb : ∀ r ∈ rl, -1099511627776 ≤ r.2 ∧ r.2 ≤ 1099511627776) :
    FnT Try.prog σ F 52 [.pointer (some ⟨b, 0, none⟩), .agg #[.int .i64 x.1, .int .i64 x.2]] [(lb, cel b [.slice a rl.length c] 26), (ls, slW 58 encRun 2 (.slice a rl.length c) rl)]
      (fun u ρ => ∃ a' c', u = .tuple #[] ∧ ρ = [(lb, cel b [.slice a' (push rl x).length c'] 26), (ls, slW 58 encRun 2 (.slice a' (push rl x).length c') (push rl x))]) :=
  fun w ho => (push0 (x := x) hl hb w ho).mono fun _ _ ⟨v, ρ, h1, ⟨a', c', h2, h3⟩, h4⟩ => ⟨v, _, h1, ⟨a', c', h2, rfl⟩, by subst h3; exact h4⟩
set_option maxHeartbeats 400000 in
set_option maxRecDepth 100000 in
theorem cloneI {σ : World} {F : List Res} {a : Option Addr} {c : Nat} {rl : List Int} (lab : Nat) (h : Sl σ F encZ 1 (.slice a rl.length c) rl) (hl : rl.length ≤ 1099511627776) :
    FnT Try.prog σ F 50 [.slice a rl.length c] [] (fun u ρ => ∃ a' c', u = .slice a' rl.length c' ∧ ρ = [(lab, slW 3 encZ 1 u rl)]) := by
  refine fn_of 8 Try.func50 rfl Try.ntmps50 rfl ?_
  have hle := h.i64
  refine w_seq ?_
  refine w_region ?_
  refine wl_det rfl rfl rfl (op_assign rfl) ?_
  refine wl_nil ?_
  refine st_tn ?_
  refine w_seq ?_
  refine w_seq ?_
  refine w_region ?_
  refine wl_det rfl rfl rfl (op_move rfl) ?_
  refine wl_det rfl rfl rfl (op_eqNil rfl tS22g) ?_
  refine wl_nil ?_
  refine st_tn ?_
  refine w_cond rfl (fun hc4 => ?_) (fun hc4 => ?_)
  · -- c4.t
    obtain rfl : a = none := by simpa using hc4
    refine w_fact (Ent.app (Sl.nil_of h) _) (fun hnil => ?_)
    subst hnil
    refine w_emp 7 (slO_nil 3 1) ?_
    refine w_seq ?_
    refine w_region ?_
    refine wl_det rfl rfl rfl (op_assign rfl) ?_
    refine wl_nil ?_
    refine st_tn ?_
    refine w_ret ?_
    refine st_tr ?_
    refine st_ret (vs := [_]) [7] Try.results50 ⟨rfl, trivial⟩ rfl ?_
    refine ⟨[(lab, _)], rfl, ?_⟩
    exact ⟨none, 0, rfl, rfl⟩
  · -- c4.f
    refine w_skip ?_
    refine st_tn ?_
    refine w_seq ?_
    refine w_region ?_
    refine wl_op [] rfl rfl rfl rfl (op_lit0 (enc := SL.encZ) (lab := 5) tS22g) ?_
    rintro _ _ ⟨a5, c5, rfl, rfl⟩
    refine wl_det rfl rfl rfl (op_move rfl) ?_
    refine wl_op [5] rfl rfl rfl rfl (op_append (lab := 5) (lab' := 7) rfl rfl tP22g SL.enc1Z (by first | exact Sl.app (by assumption) _ | exact Sl.app (Sl.app (by assumption) _) _) (by first | omega | (simp; done) | (simp; omega) | (simp [*]; omega)) (by first | omega | (simp; done) | (simp; omega) | (simp [*]; omega))) ?_
    rintro _ _ ⟨a7, c7, rfl, rfl⟩
    refine wl_det rfl rfl rfl (op_assign rfl) ?_
    refine wl_nil ?_
    refine st_tn ?_
    refine w_ret ?_
    refine st_ret (vs := [_]) [7] Try.results50 ⟨rfl, trivial⟩ rfl ?_
    refine ⟨[(lab, _)], rfl, ?_⟩
    exact ⟨a7, c7, rfl, rfl⟩

theorem toRuns_in {lo hi : Int} {l : List Int} (hs : l.Pairwise (· ≤ ·)) (hb : ∀ x ∈ l, lo ≤ x ∧ x ≤ hi) : inB lo hi (toRuns l) := by
  obtain ⟨h1, h2, _⟩ := toRuns_ok _ rfl hs
  intro r hr
  have hle := h1.1 r hr
  have m1 : r.1 ∈ l := (h2 r.1).1 ⟨r, hr, by omega, hle⟩
  have m2 : r.2 ∈ l := (h2 r.2).1 ⟨r, hr, hle, by omega⟩
  exact ⟨(hb _ m1).1, hle, (hb _ m2).2⟩
def validB (l : List Int) : Bool := l.all fun x => decide (0 ≤ x ∧ x < 1048576)
set_option maxHeartbeats 400000 in
set_option maxRecDepth 100000 in
theorem of_any {σ : World} {F : List Res} {a : Option Addr} {c : Nat} {l : List Int} (lab : Nat) (h : Sl σ F encZ 1 (.slice a l.length c) l) (hl : l.length ≤ 1099511627776) :
    FnT Try.prog σ F 14 [.slice a l.length c] [] (BE lab (if validB l then .ok (toRuns (srt l)) else .error 2)) := by
  refine fn_of 37 Try.func14 rfl Try.ntmps14 rfl ?_
  have hle := h.i64
  refine w_seq ?_
  refine w_region ?_
  refine wl_op [] rfl rfl rfl rfl (op_alloc (l := 2) tN26g) ?_
  rintro _ _ ⟨b2, rfl, rfl⟩
  refine wl_det rfl rfl rfl (op_assign rfl) ?_
  refine wl_nil ?_
  refine st_tn ?_
  refine w_seq ?_
  refine w_seq ?_
  refine w_region ?_
  refine wl_det rfl rfl rfl (op_move rfl) ?_
  refine wl_det rfl rfl rfl (op_lenT rfl tS22g (Sl.ent (by first | exact Sl.app (by assumption) _ | exact Sl.app (Sl.app (by assumption) _) _))) ?_
  refine wl_det rfl rfl rfl (op_move rfl) ?_
  refine wl_nil ?_
  refine st_tn ?_
  refine w_block ?_
  refine w_loop (X := Nat) (fun i => i ≤ l.length ∧ validB (l.take i) = true) (fun i => [(0, .slice a l.length c), (2, .pointer (some ⟨b2, 0, none⟩)), (10, .slice a l.length c), (11, .int .i64 l.length), (12, .int .i64 i)]) (fun _ => [(2, cel b2 [.slice none 0 0] 26)]) (fun i => l.length - i) (0) (⟨Nat.zero_le _, rfl⟩) (.cons rfl (.cons rfl (.cons rfl (.cons rfl (.cons rfl (.nil _)))))) ⟨[2], _, _, rfl, rfl⟩ ?_
  rintro i ⟨hi, hv⟩
  refine w_seq ?_
  refine w_region ?_
  refine wl_det rfl rfl rfl (op_lss rfl rfl) ?_
  refine wl_nil ?_
  refine st_tn ?_
  refine w_seq ?_
  refine w_cond_d rfl (fun hc13 => ?_) (fun hc13 => ?_)
  · -- c13.t
    obtain ⟨y, hy⟩ := getE (l := l) (i := i) (by omega)
    have hlt := ltE hy
    refine w_skip ?_
    refine st_tn ?_
    refine w_seq ?_
    refine w_block ?_
    refine w_seq ?_
    refine w_region ?_
    refine wl_det rfl rfl rfl (op_idx rfl rfl tS22g (Sl.ent (by first | exact Sl.app (by assumption) _ | exact Sl.app (Sl.app (by assumption) _) _)) (by omega)) ?_
    refine wl_det rfl rfl rfl (op_ldx rfl tO3g (by first | exact Sl.app (by assumption) _ | exact Sl.app (Sl.app (by assumption) _) _) (by assumption) (by rfl)) ?_
    refine wl_det rfl rfl rfl (op_assign rfl) ?_
    refine wl_nil ?_
    refine st_tn ?_
    refine w_seq ?_
    refine w_region ?_
    refine wl_det rfl rfl rfl (op_move rfl) ?_
    refine wl_det rfl rfl rfl (op_fn Try.func49 rfl rfl rfl (isRow_any _)) ?_
    refine wl_det rfl rfl rfl (op_not_d rfl) ?_
    refine wl_nil ?_
    refine st_tn ?_
    refine w_cond_d rfl (fun hc18 => ?_) (fun hc18 => ?_)
    · -- c18.t
      refine w_seq ?_
      refine w_region ?_
      refine wl_det rfl rfl rfl (op_build tB26g rfl rfl) ?_
      refine wl_op0 [2] rfl rfl rfl (op_store rfl rfl tZ26g (by rfl) (by rfl) (by exact Nat.le_of_ble_eq_true rfl)) ?_
      rintro _ _ ⟨rfl, rfl⟩
      refine wl_det rfl rfl rfl (op_assign rfl) ?_
      refine wl_nil ?_
      refine st_tn ?_
      refine w_ret ?_
      refine st_br ?_
      refine st_tr ?_
      refine st_tr ?_
      refine st_br ?_
      refine st_tr ?_
      refine st_ret (vs := [_, _]) [] Try.results14 ⟨⟨_, rfl, Ent.mono (Ent.lab (l := 2) rfl (says_cel 0)) (fun _ h => run_load_agg tA26g h (Nat.le_of_ble_eq_true rfl))⟩, ⟨rfl, trivial⟩⟩ rfl ?_
      refine ⟨_, rfl, ?_⟩
      have hno : validB l = false := by
        unfold validB
        rw [List.all_eq_false]
        exact ⟨y, List.mem_of_getElem? hy, by simpa using hc18⟩
      rw [hno]; exact ⟨rfl, rfl⟩
    · -- c18.f
      refine w_skip ?_
      refine st_bn ?_
      refine st_tn ?_
      refine w_region ?_
      refine wl_det rfl rfl rfl (op_add' rfl rfl (by omega)) ?_
      refine wl_det rfl rfl rfl (op_move rfl) ?_
      refine wl_nil ?_
      refine st_round (x := i) (i + 1) [2] (⟨by omega, by rw [take_snoc hy]; unfold validB at *; rw [List.all_append, hv]; simp; simpa using hc18⟩) (by omega) (.cons rfl (.cons rfl (.cons rfl (.cons rfl (.cons rfl (.nil _)))))) rfl (rfl) 
  · -- c13.f
    refine w_exit ?_
    refine st_te ?_
    refine st_te ?_
    refine st_be ?_
    refine st_tn ?_
    refine w_seq ?_
    rw [take_all (by omega)] at hv
    have hvall : ∀ x ∈ l, 0 ≤ x ∧ x < 1048576 := by unfold validB at hv; simpa using hv
    refine w_region ?_
    refine wl_det rfl rfl rfl (op_move rfl) ?_
    refine wl_op [] rfl rfl rfl rfl (op_fn Try.func50 rfl rfl rfl (cloneI 22 (by first | exact Sl.app (by assumption) _ | exact Sl.app (Sl.app (by assumption) _) _) (by assumption))) ?_
    rintro _ _ ⟨a22, c22, rfl, rfl⟩
    refine wl_det rfl rfl rfl (op_assign rfl) ?_
    refine wl_nil ?_
    refine st_tn ?_
    refine w_seq ?_
    refine w_region ?_
    refine wl_det rfl rfl rfl (op_move rfl) ?_
    refine wl_op [22] rfl rfl rfl rfl (op_fn Try.func51 rfl rfl rfl (sort_any 22 (by omega))) ?_
    rintro _ _ ⟨rfl, rfl⟩
    refine wl_nil ?_
    refine st_tn ?_
    refine w_seq ?_
    refine w_region ?_
    refine wl_op [] rfl rfl rfl rfl (op_alloc (l := 7) tN26g) ?_
    rintro _ _ ⟨b7, rfl, rfl⟩
    refine wl_nil ?_
    refine st_tn ?_
    refine w_seq ?_
    refine w_seq ?_
    refine w_emp 77 (slO_nil 58 2) ?_
    have hls := length_srt l
    refine w_region ?_
    refine wl_det rfl rfl rfl (op_move rfl) ?_
    refine wl_det rfl rfl rfl (op_lenT rfl tS22g (Sl.ent (Sl.lab 22 rfl (by rw [hls]; unfold maxLen; omega)))) ?_
    refine wl_det rfl rfl rfl (op_move rfl) ?_
    refine wl_nil ?_
    refine st_tn ?_
    refine w_block ?_
    refine w_loop (X := Nat × Option Addr × Nat) (fun z => z.1 ≤ l.length) (fun z => [(2, .pointer (some ⟨b2, 0, none⟩)), (7, .pointer (some ⟨b7, 0, none⟩)), (25, .slice a22 l.length c22), (26, .int .i64 l.length), (27, .int .i64 z.1)]) (fun z => [(2, cel b2 [.slice none 0 0] 26), (7, cel b7 [.slice z.2.1 (toRuns ((srt l).take z.1)).length z.2.2] 26), (77, slW 58 encRun 2 (.slice z.2.1 (toRuns ((srt l).take z.1)).length z.2.2) (toRuns ((srt l).take z.1))), (22, slW 3 encZ 1 (.slice a22 l.length c22) (srt l))]) (fun z => l.length - z.1) ((0, none, 0)) (Nat.zero_le _) (.cons rfl (.cons rfl (.cons rfl (.cons (by rw [← hls]; rfl) (.cons rfl (.nil _)))))) ⟨[2, 7, 77, 22], _, _, rfl, rfl⟩ ?_
    rintro ⟨i, a7, c7⟩ hi
    dsimp only at hi ⊢
    refine w_seq ?_
    refine w_region ?_
    refine wl_det rfl rfl rfl (op_lss rfl rfl) ?_
    refine wl_nil ?_
    refine st_tn ?_
    refine w_seq ?_
    refine w_cond_d rfl (fun hc28 => ?_) (fun hc28 => ?_)
    · -- c28.t
      obtain ⟨y, hy⟩ := getE (l := srt l) (i := i) (by omega)
      have hlt := ltE hy
      have hts : toRuns ((srt l).take (i + 1)) = push (toRuns ((srt l).take i)) (y, y) := by rw [take_snoc hy, toRuns_snoc]
      have hin := toRuns_in (lo := 0) (hi := 1048575) (l := (srt l).take i) ((srt_le l).sublist (List.take_sublist _ _)) (fun x hx => by have := hvall x (mem_srt.1 (List.mem_of_mem_take hx)); omega)
      have hlr := length_toRuns_le _ ((srt l).take i) rfl
      rw [List.length_take] at hlr
      refine w_skip ?_
      refine st_tn ?_
      refine w_seq ?_
      refine w_block ?_
      refine w_seq ?_
      refine w_region ?_
      refine wl_det rfl rfl rfl (op_idx rfl rfl tS22g (Sl.ent (Sl.lab 22 rfl (by rw [hls]; unfold maxLen; omega))) (by omega)) ?_
      refine wl_det rfl rfl rfl (op_ldx rfl tO3g (Sl.lab 22 rfl (by rw [hls]; unfold maxLen; omega)) (by assumption) (by rfl)) ?_
      refine wl_det rfl rfl rfl (op_assign rfl) ?_
      refine wl_nil ?_
      refine st_tn ?_
      refine w_region ?_
      refine wl_det rfl rfl rfl (op_move rfl) ?_
      refine wl_det rfl rfl rfl (op_move rfl) ?_
      refine wl_det rfl rfl rfl (op_build tB58g rfl rfl) ?_
      refine wl_op [7, 77] rfl rfl rfl rfl (op_fn Try.func52 rfl rfl rfl (push_any 7 77 (y, y) (by omega) (fun r hr => by have := hin r hr; omega))) ?_
      rintro _ _ ⟨a8, c8, rfl, rfl⟩
      refine wl_nil ?_
      refine st_bn ?_
      refine st_tn ?_
      refine w_region ?_
      refine wl_det rfl rfl rfl (op_add' rfl rfl (by omega)) ?_
      refine wl_det rfl rfl rfl (op_move rfl) ?_
      refine wl_nil ?_
      refine st_round (x := (i, a7, c7)) ((i + 1, a8, c8)) [2, 7, 77, 22] (by show i + 1 ≤ _; omega) (by show l.length - (i + 1) < l.length - i; omega) (.cons rfl (.cons rfl (.cons rfl (.cons rfl (.cons rfl (.nil _)))))) rfl (by rw [hts]) 
    · -- c28.f
      refine w_exit ?_
      refine st_te ?_
      refine st_te ?_
      refine st_be ?_
      refine st_tn ?_
      refine w_seq ?_
      refine w_region ?_
      refine wl_det rfl rfl rfl (op_loadA rfl tA26g (Ent.lab (l := 7) rfl (says_cel 0)) (Nat.le_of_ble_eq_true rfl)) ?_
      refine wl_op0 [2] rfl rfl rfl (op_store rfl rfl tZ26g (by rfl) (by rfl) (by exact Nat.le_of_ble_eq_true rfl)) ?_
      rintro _ _ ⟨rfl, rfl⟩
      refine wl_det rfl rfl rfl (op_assign rfl) ?_
      refine wl_nil ?_
      refine st_tn ?_
      refine w_ret ?_
      refine st_ret (vs := [_, _]) [77] Try.results14 ⟨⟨_, rfl, Ent.mono (Ent.lab (l := 2) rfl (says_cel 0)) (fun _ h => run_load_agg tA26g h (Nat.le_of_ble_eq_true rfl))⟩, ⟨rfl, trivial⟩⟩ rfl ?_
      refine ⟨[(lab, _)], rfl, ?_⟩
      rw [if_pos hv, take_all (l := srt l) (i := i) (by omega)]; exact ⟨_, _, rfl, rfl⟩

end Go.Proofs.Ytkknlfhncheflaa
