/- Contracts: a conflict (layer 9). Conditions: none. -/
import Derived.Test.YtgdjnjbipemdcaaK7
namespace Go.Proofs.Ytgdjnjbipemdcaa
open Go Go.SL Go.RowKit Go.ConM
set_option linter.unusedVariables false
set_option linter.unusedSimpArgs false
theorem tF34_0h : fieldB Try.prog 34 0 0 = true := by kernel_rfl
theorem tF34_1h : fieldB Try.prog 34 1 1 = true := by kernel_rfl
theorem tF74_1h : fieldB Try.prog 74 1 1 = true := by kernel_rfl
theorem tL26_1h : zerosB Try.prog 26 3 1 1 = some [Value.int .i64 0] := by kernel_rfl
theorem tL67_2h : zerosB Try.prog 67 26 1 2 = some [Value.slice none 0 0, Value.slice none 0 0] := by kernel_rfl
theorem tMixh : Try.prog.follows .mixedOrders = true := by kernel_rfl
theorem tN3h : (Try.prog.info? 3).bind (·.zero) = some (Value.int .i64 0) := by kernel_rfl
theorem tN74h : (Try.prog.info? 74).bind (·.zero) = some (Value.agg #[Value.map none, Value.map none]) := by kernel_rfl
theorem tO26h : oneB Try.prog 26 = true := by kernel_rfl
theorem tO3h : oneB Try.prog 3 = true := by kernel_rfl
theorem tO72h : oneB Try.prog 72 = true := by kernel_rfl
theorem tP26h : appB Try.prog 26 3 1 8 = true := by kernel_rfl
theorem tQ72h : mapB Try.prog 72 3 3 KZ.desc := ⟨Try.underlying72, Try.underlying3⟩
theorem tS24h : sliceB Try.prog 24 34 3 = true := by kernel_rfl
theorem tS26h : sliceB Try.prog 26 3 1 = true := by kernel_rfl
theorem tS67h : sliceB Try.prog 67 26 1 = true := by kernel_rfl
theorem tZ74h : (Try.prog.info? 74).map (·.size) = some 2 := by kernel_rfl

theorem slnilZ {σ : World} {F : List Res} : Sl σ F SL.encZ 1 (.slice none 0 0) [] := ⟨fun w hw => ⟨by simp, by simp, .inl ⟨_, _, rfl, rfl⟩⟩, by simp [maxLen]⟩
set_option maxHeartbeats 400000 in
set_option maxRecDepth 100000 in
theorem grow_any {σ : World} {F : List Res} (n lab : Nat) (hn : n ≤ 1048576) :
    FnT Try.prog σ F 66 [.slice none 0 0, .int .i64 n] [] (fun u ρ => ∃ a c, u = .slice a 0 c ∧ ρ = [(lab, slW 3 SL.encZ 1 (.slice a 0 c) [])]) := by
  refine fn_of 27 Try.func66 rfl Try.ntmps66 rfl ?_
  refine w_seq ?_
  refine w_region ?_
  refine wl_det rfl rfl rfl (op_assign rfl) ?_
  refine wl_nil ?_
  refine st_tn ?_
  refine w_seq ?_
  refine w_seq ?_
  refine w_region ?_
  refine wl_det rfl rfl rfl (op_move rfl) ?_
  refine wl_det rfl rfl rfl (op_lss rfl rfl) ?_
  refine wl_nil ?_
  refine st_tn ?_
  refine w_cond_d rfl (fun hc6 => ?_) (fun hc6 => ?_)
  · -- c6.t
    omega
  · -- c6.f
    refine w_skip ?_
    refine st_tn ?_
    refine w_seq ?_
    refine w_seq ?_
    refine w_region ?_
    refine wl_det rfl rfl rfl (op_move rfl) ?_
    refine wl_det rfl rfl rfl (op_move rfl) ?_
    refine wl_det rfl rfl rfl (op_cap rfl tS26h) ?_
    refine wl_det rfl rfl rfl (op_move rfl) ?_
    refine wl_det rfl rfl rfl (op_val (v' := .int .i64 0) rfl (op_lenT rfl tS26h (Sl.ent slnilZ))) ?_
    refine wl_det rfl rfl rfl (op_sub' rfl rfl (by omega)) ?_
    refine wl_det rfl rfl rfl (op_val (v' := .int .i64 (n : Int)) (by simp) (op_sub' rfl rfl (by omega))) ?_
    refine wl_det rfl rfl rfl (op_assign rfl) ?_
    refine wl_nil ?_
    refine st_tn ?_
    refine w_seq ?_
    refine w_region ?_
    refine wl_det rfl rfl rfl (op_move rfl) ?_
    refine wl_det rfl rfl rfl (op_gtr rfl rfl) ?_
    refine wl_nil ?_
    refine st_tn ?_
    refine w_cond_d rfl (fun hc16 => ?_) (fun hc16 => ?_)
    · -- c16.t
      refine w_region ?_
      refine wl_det rfl rfl rfl (op_move rfl) ?_
      refine wl_det rfl rfl rfl (op_move rfl) ?_
      refine wl_det rfl rfl rfl (op_cap rfl tS26h) ?_
      refine wl_det rfl rfl rfl (op_slice00 rfl rfl tS26h (.inl rfl)) ?_
      refine wl_det rfl rfl rfl (op_move rfl) ?_
      refine wl_op [] rfl rfl rfl rfl (op_appendMake0 (enc := SL.encZ) (lab := 22) rfl rfl tP26h Try.underlying3 (by omega) (by omega) (by unfold maxLen; omega)) ?_
      rintro _ _ ⟨g22, c22, rfl, rfl⟩
      refine wl_det rfl rfl rfl (op_move rfl) ?_
      refine wl_det rfl rfl rfl (op_val (v' := .int .i64 0) rfl (op_lenT rfl tS26h (Sl.ent slnilZ))) ?_
      refine wl_det rfl rfl rfl (op_slice00 rfl rfl tS26h (.inr ⟨_, rfl⟩)) ?_
      refine wl_det rfl rfl rfl (op_assign rfl) ?_
      refine wl_nil ?_
      refine st_tn ?_
      refine w_seq ?_
      refine w_region ?_
      refine wl_det rfl rfl rfl (op_move rfl) ?_
      refine wl_det rfl rfl rfl (op_assign rfl) ?_
      refine wl_nil ?_
      refine st_tn ?_
      refine w_ret ?_
      refine st_ret (vs := [_]) [22] Try.results66 ⟨rfl, trivial⟩ rfl ?_
      refine ⟨[(lab, _)], rfl, ?_⟩
      exact ⟨_, _, rfl, rfl⟩
    · -- c16.f
      refine w_emp 22 (slO_nil 3 1) ?_
      refine w_skip ?_
      refine st_tn ?_
      refine w_seq ?_
      refine w_region ?_
      refine wl_det rfl rfl rfl (op_move rfl) ?_
      refine wl_det rfl rfl rfl (op_assign rfl) ?_
      refine wl_nil ?_
      refine st_tn ?_
      refine w_ret ?_
      refine st_ret (vs := [_]) [22] Try.results66 ⟨rfl, trivial⟩ rfl ?_
      refine ⟨[(lab, _)], rfl, ?_⟩
      exact ⟨_, _, rfl, rfl⟩

/-- Headers of lists. -/
abbrev Hd := Option Addr × Nat × List Int
def hv (p : Hd) : Value := .slice p.1 p.2.2.length p.2.1
def encH (p : Hd) : List Value := [hv p]
theorem enc1H : Enc1 encH 1 := ⟨fun _ => rfl, fun a u h => by simp [encH] at h; subst h; rfl⟩
def tot (ss : List Hd) : Nat := (ss.map fun p => p.2.2.length).sum
def cat (ss : List Hd) : List Int := (ss.map fun p => p.2.2).flatten
theorem tot_snoc {ss : List Hd} {i : Nat} {p : Hd} (h : ss[i]? = some p) : tot (ss.take (i + 1)) = tot (ss.take i) + p.2.2.length := by rw [take_snoc h]; unfold tot; rw [List.map_append, List.sum_append]; simp
theorem cat_snoc {ss : List Hd} {i : Nat} {p : Hd} (h : ss[i]? = some p) : cat (ss.take (i + 1)) = cat (ss.take i) ++ p.2.2 := by rw [take_snoc h]; unfold cat; rw [List.map_append, List.flatten_append]; simp
theorem cat_len (ss : List Hd) : (cat ss).length = tot ss := by unfold cat tot; rw [List.length_flatten, List.map_map]; rfl
theorem tot_take (ss : List Hd) (i : Nat) : tot (ss.take i) ≤ tot ss := by
  have : tot ss = tot (ss.take i) + tot (ss.drop i) := by
    conv => lhs; rw [← List.take_append_drop i ss]
    unfold tot; rw [List.map_append, List.sum_append]
  omega
set_option maxHeartbeats 1000000 in
set_option maxRecDepth 100000 in
theorem concat_any {σ : World} {F : List Res} {v : Value} {ss : List Hd} (lab : Nat) (h : Sl σ F encH 1 v ss) (hs : ∀ p ∈ ss, Sl σ F SL.encZ 1 (hv p) p.2.2) (ht : tot ss ≤ 1048576) :
    FnT Try.prog σ F 48 [v] [] (NewZ (cat ss) lab) := by
  refine fn_of 36 Try.func48 rfl Try.ntmps48 rfl ?_
  have hle := h.i64
  refine w_seq ?_
  refine w_region ?_
  refine wl_det rfl rfl rfl (op_assign rfl) ?_
  refine wl_nil ?_
  refine st_tn ?_
  refine w_seq ?_
  refine w_region ?_
  refine wl_det rfl rfl rfl (op_assign rfl) ?_
  refine wl_nil ?_
  refine st_tn ?_
  refine w_seq ?_
  refine w_seq ?_
  refine w_region ?_
  refine wl_det rfl rfl rfl (op_move rfl) ?_
  refine wl_det rfl rfl rfl (op_lenT rfl tS67h (Sl.ent (by first | exact Sl.app (by assumption) _ | exact Sl.app (Sl.app (by assumption) _) _))) ?_
  refine wl_det rfl rfl rfl (op_move rfl) ?_
  refine wl_nil ?_
  refine st_tn ?_
  refine w_block ?_
  refine w_loopQ (X := Nat × Nat) (fun z => z.2 ≤ ss.length ∧ z.1 = tot (ss.take z.2)) (fun z => [(3, .int .i64 (z.1)), (11, .int .i64 (z.2))]) (fun _ => []) (fun z => ss.length - z.2) ((0, 0)) [(0, _), (9, _), (10, _)] [] [] rfl (rfl) (.cons rfl (.cons rfl (.nil _))) (.cons rfl (.cons rfl (.cons rfl (.nil _)))) (by
      try dsimp only
      exact ⟨Nat.zero_le _, rfl⟩) ?_
  rintro ⟨s, i⟩ ⟨hi, hsm⟩
  refine w_norm2 (by dsimp only [List.cons_append, List.nil_append]) (by dsimp only [List.cons_append, List.nil_append]) ?_
  try dsimp only at hi hsm ⊢
  refine w_seq ?_
  refine w_region ?_
  refine wl_det rfl rfl rfl (op_lss rfl rfl) ?_
  refine wl_nil ?_
  refine st_tn ?_
  refine w_seq ?_
  refine w_cond_d rfl (fun hc12 => ?_) (fun hc12 => ?_)
  · -- c12.t
    obtain ⟨p, hp⟩ := getE (l := ss) (i := i) (by omega)
    have hlt := ltE hp
    have hps := hs p (List.mem_of_getElem? hp)
    have h1 := tot_snoc hp
    have h2 := tot_take ss (i + 1)
    refine w_skip ?_
    refine st_tn ?_
    refine w_seq ?_
    refine w_block ?_
    refine w_seq ?_
    refine w_region ?_
    refine wl_det rfl rfl rfl (op_idx rfl rfl tS67h (Sl.ent (by first | exact Sl.app (by assumption) _ | exact Sl.app (Sl.app (by assumption) _) _)) (by omega)) ?_
    refine wl_det rfl rfl rfl (op_ldx rfl tO26h (by first | exact Sl.app (by assumption) _ | exact Sl.app (Sl.app (by assumption) _) _) (by assumption) (by rfl)) ?_
    refine wl_det rfl rfl rfl (op_assign rfl) ?_
    refine wl_nil ?_
    refine st_tn ?_
    refine w_seq ?_
    refine w_region ?_
    refine wl_det rfl rfl rfl (op_move rfl) ?_
    refine wl_det rfl rfl rfl (op_move rfl) ?_
    refine wl_det rfl rfl rfl (op_lenT rfl tS26h (Sl.ent (Sl.app hps _))) ?_
    refine wl_det rfl rfl rfl (op_add' rfl rfl (by omega)) ?_
    refine wl_det rfl rfl rfl (op_assign rfl) ?_
    refine wl_nil ?_
    refine st_tn ?_
    refine w_seq ?_
    refine w_region ?_
    refine wl_det rfl rfl rfl (op_move rfl) ?_
    refine wl_det rfl rfl rfl (op_lss rfl rfl) ?_
    refine wl_nil ?_
    refine st_tn ?_
    refine w_cond_d rfl (fun hc20 => ?_) (fun hc20 => ?_)
    · -- c20.t
      omega
    · -- c20.f
      refine w_skip ?_
      refine st_bn ?_
      refine st_tn ?_
      refine w_region ?_
      refine wl_det rfl rfl rfl (op_add' rfl rfl (by omega)) ?_
      refine wl_det rfl rfl rfl (op_move rfl) ?_
      refine wl_nil ?_
      refine st_roundQ (x := (s, i)) ((s + p.2.2.length, i + 1)) [] rfl (rfl) (.cons rfl (.cons rfl (.nil _))) (.cons rfl (.cons rfl (.cons rfl (.nil _)))) (by
          try dsimp only
          exact ⟨by omega, by rw [tot_snoc hp, hsm]⟩) (by
          try dsimp only
          omega) 
  · -- c12.f
    refine w_exit ?_
    refine st_te ?_
    refine st_te ?_
    refine st_be ?_
    refine st_tn ?_
    refine w_seq ?_
    rw [take_all (by omega)] at hsm
    subst hsm
    refine w_region ?_
    refine wl_det rfl rfl rfl (op_move rfl) ?_
    refine wl_op [] rfl rfl rfl rfl (op_fn Try.func66 rfl rfl rfl (grow_any _ 24 ht)) ?_
    rintro _ _ ⟨a24, c24, rfl, rfl⟩
    refine wl_det rfl rfl rfl (op_assign rfl) ?_
    refine wl_nil ?_
    refine st_tn ?_
    refine w_seq ?_
    refine w_seq ?_
    refine w_region ?_
    refine wl_det rfl rfl rfl (op_move rfl) ?_
    refine wl_det rfl rfl rfl (op_lenT rfl tS67h (Sl.ent (by first | exact Sl.app (by assumption) _ | exact Sl.app (Sl.app (by assumption) _) _))) ?_
    refine wl_det rfl rfl rfl (op_move rfl) ?_
    refine wl_nil ?_
    refine st_tn ?_
    refine w_block ?_
    refine w_loopQ (X := Nat × List Int × Option Addr × Nat) (fun z => z.1 ≤ ss.length ∧ z.2.1 = cat (ss.take z.1)) (fun z => [(27, .int .i64 (z.1)), (6, .slice (z.2.2.1) (z.2.1).length (z.2.2.2))]) (fun z => [(24, slW 3 SL.encZ 1 (.slice (z.2.2.1) (z.2.1).length (z.2.2.2)) (z.2.1))]) (fun z => ss.length - z.1) ((0, [], _, _)) [(25, _), (26, _)] [] [24] rfl (rfl) (.cons rfl (.cons rfl (.nil _))) (.cons rfl (.cons rfl (.nil _))) (by
        try dsimp only
        exact ⟨Nat.zero_le _, rfl⟩) ?_
    rintro ⟨i, out, a_out, c_out⟩ ⟨hi, ho⟩
    refine w_norm2 (by dsimp only [List.cons_append, List.nil_append]) (by dsimp only [List.cons_append, List.nil_append]) ?_
    try dsimp only at hi ho ⊢
    refine w_seq ?_
    refine w_region ?_
    refine wl_det rfl rfl rfl (op_lss rfl rfl) ?_
    refine wl_nil ?_
    refine st_tn ?_
    refine w_seq ?_
    refine w_cond_d rfl (fun hc28 => ?_) (fun hc28 => ?_)
    · -- c28.t
      obtain ⟨p, hp⟩ := getE (l := ss) (i := i) (by omega)
      have hlt := ltE hp
      have hps := hs p (List.mem_of_getElem? hp)
      have h1 := tot_snoc hp
      have h2 := tot_take ss (i + 1)
      have h3 := cat_len (ss.take i)
      refine w_skip ?_
      refine st_tn ?_
      refine w_seq ?_
      refine w_block ?_
      refine w_seq ?_
      refine w_region ?_
      refine wl_det rfl rfl rfl (op_idx rfl rfl tS67h (Sl.ent (by first | exact Sl.app (by assumption) _ | exact Sl.app (Sl.app (by assumption) _) _)) (by omega)) ?_
      refine wl_det rfl rfl rfl (op_ldx rfl tO26h (by first | exact Sl.app (by assumption) _ | exact Sl.app (Sl.app (by assumption) _) _) (by assumption) (by rfl)) ?_
      refine wl_det rfl rfl rfl (op_assign rfl) ?_
      refine wl_nil ?_
      refine st_tn ?_
      refine w_region ?_
      refine wl_det rfl rfl rfl (op_move rfl) ?_
      refine wl_det rfl rfl rfl (op_move rfl) ?_
      refine wl_op [24] rfl rfl rfl rfl (op_append (lab := 24) (lab' := 33) rfl rfl tP26h SL.enc1Z (Sl.app hps _) (by subst ho; omega) (by subst ho; omega)) ?_
      rintro _ _ ⟨a33, c33, rfl, rfl⟩
      refine wl_det rfl rfl rfl (op_assign rfl) ?_
      refine wl_nil ?_
      refine st_bn ?_
      refine st_tn ?_
      refine w_region ?_
      refine wl_det rfl rfl rfl (op_add' rfl rfl (by omega)) ?_
      refine wl_det rfl rfl rfl (op_move rfl) ?_
      refine wl_nil ?_
      refine st_roundQ (x := (i, out, a_out, c_out)) ((i + 1, _, _, _)) [33] rfl (rfl) (.cons rfl (.cons rfl (.nil _))) (.cons rfl (.cons rfl (.nil _))) (by
          try dsimp only
          exact ⟨by omega, by rw [cat_snoc hp, ho]⟩) (by
          try dsimp only
          omega) 
    · -- c28.f
      refine w_exit ?_
      refine st_te ?_
      refine st_te ?_
      refine st_be ?_
      refine st_tn ?_
      refine w_seq ?_
      rw [take_all (by omega)] at ho
      refine w_region ?_
      refine wl_det rfl rfl rfl (op_move rfl) ?_
      refine wl_det rfl rfl rfl (op_assign rfl) ?_
      refine wl_nil ?_
      refine st_tn ?_
      refine w_ret ?_
      refine st_ret (vs := [_]) [24] Try.results48 ⟨rfl, trivial⟩ rfl ?_
      refine ⟨[(lab, _)], rfl, ?_⟩
      rw [← ho]; exact ⟨_, _, rfl, rfl⟩

abbrev srch (l : List Con) : St × Int := search (fun _ => true) l (nodes l)
theorem getB {l : List Con} {B : ZM} (h : Idx l.length B) (hn : 0 < l.length) (x : Int) : l[byI B x]? = some (l.getD (byI B x) ⟨0, 0, 0⟩) := by
  rw [List.getD_eq_getElem?_getD, List.getElem?_eq_getElem (byI_lt h hn x).1]; rfl
theorem lookB {n : Nat} {B : ZM} (h : Idx n B) (hn : 0 < n) (x : Int) : ((lookK KZ B x).map encVZ).getD (.int .i64 0) = .int .i64 (byI B x : Nat) := by
  rw [← (byI_lt h hn x).2]
  cases lookK KZ B x <;> rfl
theorem turned_of {o : List Int} {k : Nat} (h : o.findIdx? (fun y => decide (y = minL o)) = some k) : turned o = o.drop k ++ o.take k := by unfold turned; rw [h]
theorem idx_min {o : List Int} (h : o ≠ []) : ∃ k, k < o.length ∧ o.findIdx? (fun y => decide (y = minL o)) = some k := by
  cases hf : o.findIdx? (fun y => decide (y = minL o)) with
  | none => rw [List.findIdx?_eq_none_iff] at hf; have := hf _ (min_mem h); simp at this
  | some k => obtain ⟨h1, _⟩ := List.findIdx?_eq_some_iff_getElem.1 hf; exact ⟨k, h1, rfl⟩
theorem cycO_snoc (l : List Con) (B : ZM) (n : Int) (p : Nat) : cycO l B n (p + 1) = cycO l B n p ++ [(byI B (nxN l B p n) : Int)] := by unfold cycO; rw [List.range_succ, List.map_append]; rfl
theorem cycO_len (l : List Con) (B : ZM) (n : Int) (p : Nat) : (cycO l B n p).length = p := by unfold cycO; simp
set_option maxHeartbeats 2000000 in
set_option maxRecDepth 100000 in
theorem conf_any {σ : World} {F : List Res} {a : Option Addr} {c : Nat} {l : List Con} (lab : Nat) (h : Sl σ F encC 3 (.slice a l.length c) l) (hl : Small l) (hb : InB l) :
    FnT Try.prog σ F 17 [.slice a l.length c] [] (fun u ρ => ∃ a c, u = .tuple #[.slice a (cnfL l).length c, .bool (decide (¬ solE l = 0))] ∧ ρ = [(lab, slW 3 SL.encZ 1 (.slice a (cnfL l).length c) (cnfL l))]) := by
  refine fn_of 83 Try.func17 rfl Try.ntmps17 rfl ?_
  have hle := h.i64
  have hl2 := hl.2
  have hnl := len_nodes l
  have hidx := idx_search (use := fun _ => true) (l := l) (fr := nodes l)
  have hlast := last_search (use := fun _ => true) (l := l) (fr := nodes l)
  refine w_seq ?_
  refine w_region ?_
  refine wl_det rfl rfl rfl (op_assign rfl) ?_
  refine wl_det rfl rfl rfl (op_assign rfl) ?_
  refine wl_nil ?_
  refine st_tn ?_
  refine w_seq ?_
  refine w_region ?_
  refine wl_det rfl rfl rfl (op_move rfl) ?_
  refine wl_det rfl rfl rfl (op_move rfl) ?_
  refine wl_op [] rfl rfl rfl rfl (op_fn Try.func36 rfl rfl rfl (nodes_any 14 (by first | exact Sl.app (by assumption) _ | exact Sl.app (Sl.app (by assumption) _) _) (by assumption) (by omega))) ?_
  rintro _ _ ⟨a14, c14, rfl, rfl⟩
  refine wl_op [] rfl rfl rfl rfl (op_fn Try.func43 rfl rfl rfl (search_any (fr := nodes l) 15 16 (Sl.app h _) (Sl.lab 14 rfl (by unfold maxLen; omega)) (useAll _) hl hb (by omega))) ?_
  rintro _ _ ⟨bL15, cB15, rfl, rfl⟩
  refine wl_det rfl rfl rfl (op_move rfl) ?_
  refine wl_det rfl rfl rfl (op_extract rfl rfl) ?_
  refine wl_det rfl rfl rfl (op_extract rfl rfl) ?_
  refine wl_op [] rfl rfl rfl rfl (op_alloc (l := 4) tN74h) ?_
  rintro _ _ ⟨b4, rfl, rfl⟩
  refine wl_op0 [4] rfl rfl rfl (op_store rfl rfl tZ74h (by rfl) (by rfl) (by exact Nat.le_of_ble_eq_true rfl)) ?_
  rintro _ _ ⟨rfl, rfl⟩
  refine wl_det rfl rfl rfl (op_assign rfl) ?_
  refine wl_nil ?_
  refine st_tn ?_
  refine w_seq ?_
  refine w_seq ?_
  refine w_region ?_
  refine wl_det rfl rfl rfl (op_move rfl) ?_
  refine wl_det rfl rfl rfl (op_lss rfl rfl) ?_
  refine wl_nil ?_
  refine st_tn ?_
  refine w_cond_d rfl (fun hc19 => ?_) (fun hc19 => ?_)
  · -- c19.t
    refine w_seq ?_
    refine w_emp 77 (slO_nil 3 1) ?_
    refine w_region ?_
    refine wl_det rfl rfl rfl (op_assign rfl) ?_
    refine wl_det rfl rfl rfl (op_assign rfl) ?_
    refine wl_nil ?_
    refine st_tn ?_
    refine w_ret ?_
    refine st_tr ?_
    refine st_ret (vs := [_, _]) [77] Try.results17 ⟨rfl, ⟨rfl, trivial⟩⟩ rfl ?_
    refine ⟨[(lab, _)], rfl, ?_⟩
    have h1 : solE l = 0 := by unfold solE; rw [if_neg (by omega)]
    rw [cnf_nil hc19, h1]; exact ⟨none, 0, rfl, rfl⟩
  · -- c19.f
    refine w_skip ?_
    refine st_tn ?_
    refine w_seq ?_
    have hn0 : 0 < l.length := by omega
    obtain ⟨x0, hx0⟩ := getE (l := l) (i := (srch l).2.toNat) (by show (search _ _ _).2.toNat < _; omega)
    have hx1 : l.getD (srch l).2.toNat ⟨0, 0, 0⟩ = x0 := getD_of hx0
    refine w_region ?_
    refine wl_det rfl rfl rfl (op_move rfl) ?_
    refine wl_det rfl rfl rfl (op_move rfl) ?_
    refine wl_det rfl rfl rfl (op_idxZ rfl rfl tS24h (Sl.ent (by first | exact Sl.app (by assumption) _ | exact Sl.app (Sl.app (by assumption) _) _)) (by omega) (by omega)) ?_
    refine wl_det rfl rfl rfl (op_fieldAddr (off := 1) rfl tF34_1h) ?_
    refine wl_det rfl rfl rfl (op_ldxf rfl tO3h (by first | exact Sl.app (by assumption) _ | exact Sl.app (Sl.app (by assumption) _) _) (by assumption) (by rfl)) ?_
    refine wl_det rfl rfl rfl (op_assign rfl) ?_
    refine wl_nil ?_
    refine st_tn ?_
    refine w_seq ?_
    refine w_seq ?_
    refine w_region ?_
    refine wl_det rfl rfl rfl (op_move rfl) ?_
    refine wl_det rfl rfl rfl (op_lenT rfl tS24h (Sl.ent (by first | exact Sl.app (by assumption) _ | exact Sl.app (Sl.app (by assumption) _) _))) ?_
    refine wl_det rfl rfl rfl (op_move rfl) ?_
    refine wl_nil ?_
    refine st_tn ?_
    refine w_block ?_
    refine w_loopQ (X := Int × Nat) (fun z => z.2 ≤ l.length ∧ z.1 = nxN l (srch l).1.B z.2 x0.t) (fun z => [(6, .int .i64 (z.1)), (27, .int .i64 (z.2))]) (fun _ => []) (fun z => l.length - z.2) ((x0.t, 0)) [(0, _), (4, _), (26, _)] [(14, _), (15, _), (16, _), (4, _)] [14, 15, 16, 4] rfl (rfl) (.cons rfl (.cons rfl (.nil _))) (.cons rfl (.cons rfl (.cons rfl (.nil _)))) (by
        try dsimp only
        exact ⟨Nat.zero_le _, rfl⟩) ?_
    rintro ⟨q, i⟩ ⟨hi, hq⟩
    refine w_norm2 (by dsimp only [List.cons_append, List.nil_append]) (by dsimp only [List.cons_append, List.nil_append]) ?_
    try dsimp only at hi hq ⊢
    refine w_seq ?_
    refine w_region ?_
    refine wl_det rfl rfl rfl (op_lss rfl rfl) ?_
    refine wl_nil ?_
    refine st_tn ?_
    refine w_seq ?_
    refine w_cond_d rfl (fun hc28 => ?_) (fun hc28 => ?_)
    · -- c28.t
      have hx := getB hidx hn0 q
      have hby := (byI_lt hidx hn0 q).1
      refine w_skip ?_
      refine st_tn ?_
      refine w_seq ?_
      refine w_block ?_
      refine w_region ?_
      refine wl_det rfl rfl rfl (op_move rfl) ?_
      refine wl_det rfl rfl rfl (op_fieldAddr (off := 1) rfl tF74_1h) ?_
      refine wl_det rfl rfl rfl (op_load1 rfl tO72h (Ent.lab (l := 4) rfl (says_cel 1))) ?_
      refine wl_det rfl rfl rfl (op_move rfl) ?_
      refine wl_det rfl rfl rfl (op_val (v' := .int .i64 (byI (srch l).1.B q : Nat)) (by exact lookB hidx hn0 q) (op_lookup (kt := KZ) (encV := encVZ) rfl rfl tQ72h tN3h (Mr.lab 16 rfl))) ?_
      refine wl_det rfl rfl rfl (op_idx rfl rfl tS24h (Sl.ent (by first | exact Sl.app (by assumption) _ | exact Sl.app (Sl.app (by assumption) _) _)) (by omega)) ?_
      refine wl_det rfl rfl rfl (op_fieldAddr (off := 0) rfl tF34_0h) ?_
      refine wl_det rfl rfl rfl (op_ldxf rfl tO3h (by first | exact Sl.app (by assumption) _ | exact Sl.app (Sl.app (by assumption) _) _) (by assumption) (by rfl)) ?_
      refine wl_det rfl rfl rfl (op_assign rfl) ?_
      refine wl_nil ?_
      refine st_bn ?_
      refine st_tn ?_
      refine w_region ?_
      refine wl_det rfl rfl rfl (op_add' rfl rfl (by omega)) ?_
      refine wl_det rfl rfl rfl (op_move rfl) ?_
      refine wl_nil ?_
      refine st_roundQ (x := (q, i)) ((nx l (srch l).1.B q, i + 1)) [14, 15, 16, 4] rfl (rfl) (.cons rfl (.cons rfl (.nil _))) (.cons rfl (.cons rfl (.cons rfl (.nil _)))) (by
          try dsimp only
          exact ⟨by omega, by rw [hq]; rfl⟩) (by
          try dsimp only
          omega) 
    · -- c28.f
      refine w_exit ?_
      refine st_te ?_
      refine st_te ?_
      refine st_be ?_
      refine st_tn ?_
      refine w_seq ?_
      refine w_seq ?_
      have hi2 : i = l.length := by omega
      subst hi2
      refine w_region ?_
      refine wl_det rfl rfl rfl (op_move rfl) ?_
      refine wl_op [] rfl rfl rfl rfl (op_fn Try.func36 rfl rfl rfl (nodes_any 39 (by first | exact Sl.app (by assumption) _ | exact Sl.app (Sl.app (by assumption) _) _) (by assumption) (by omega))) ?_
      rintro _ _ ⟨a39, c39, rfl, rfl⟩
      refine wl_det rfl rfl rfl (op_lenT rfl tS26h (Sl.ent (Sl.lab 39 rfl (by unfold maxLen; omega)))) ?_
      refine wl_det rfl rfl rfl (op_move rfl) ?_
      refine wl_nil ?_
      refine st_tn ?_
      refine w_block ?_
      refine w_loopQ (X := Int × Nat) (fun z => z.2 ≤ (nodes l).length ∧ z.1 = nxN l (srch l).1.B (l.length + z.2) x0.t) (fun z => [(6, .int .i64 (z.1)), (41, .int .i64 (z.2))]) (fun _ => []) (fun z => (nodes l).length - z.2) ((q, 0)) [(0, _), (4, _), (40, _)] [(14, _), (15, _), (16, _), (4, _), (39, _)] [14, 15, 16, 4, 39] rfl (rfl) (.cons rfl (.cons rfl (.nil _))) (.cons rfl (.cons rfl (.cons rfl (.nil _)))) (by
          try dsimp only
          exact ⟨Nat.zero_le _, hq⟩) ?_
      rintro ⟨q, i⟩ ⟨hi, hq⟩
      refine w_norm2 (by dsimp only [List.cons_append, List.nil_append]) (by dsimp only [List.cons_append, List.nil_append]) ?_
      try dsimp only at hi hq ⊢
      refine w_seq ?_
      refine w_region ?_
      refine wl_det rfl rfl rfl (op_lss rfl rfl) ?_
      refine wl_nil ?_
      refine st_tn ?_
      refine w_seq ?_
      refine w_cond_d rfl (fun hc42 => ?_) (fun hc42 => ?_)
      · -- c42.t
        have hx := getB hidx hn0 q
        have hby := (byI_lt hidx hn0 q).1
        refine w_skip ?_
        refine st_tn ?_
        refine w_seq ?_
        refine w_block ?_
        refine w_region ?_
        refine wl_det rfl rfl rfl (op_move rfl) ?_
        refine wl_det rfl rfl rfl (op_fieldAddr (off := 1) rfl tF74_1h) ?_
        refine wl_det rfl rfl rfl (op_load1 rfl tO72h (Ent.lab (l := 4) rfl (says_cel 1))) ?_
        refine wl_det rfl rfl rfl (op_move rfl) ?_
        refine wl_det rfl rfl rfl (op_val (v' := .int .i64 (byI (srch l).1.B q : Nat)) (by exact lookB hidx hn0 q) (op_lookup (kt := KZ) (encV := encVZ) rfl rfl tQ72h tN3h (Mr.lab 16 rfl))) ?_
        refine wl_det rfl rfl rfl (op_idx rfl rfl tS24h (Sl.ent (by first | exact Sl.app (by assumption) _ | exact Sl.app (Sl.app (by assumption) _) _)) (by omega)) ?_
        refine wl_det rfl rfl rfl (op_fieldAddr (off := 0) rfl tF34_0h) ?_
        refine wl_det rfl rfl rfl (op_ldxf rfl tO3h (by first | exact Sl.app (by assumption) _ | exact Sl.app (Sl.app (by assumption) _) _) (by assumption) (by rfl)) ?_
        refine wl_det rfl rfl rfl (op_assign rfl) ?_
        refine wl_nil ?_
        refine st_bn ?_
        refine st_tn ?_
        refine w_region ?_
        refine wl_det rfl rfl rfl (op_add' rfl rfl (by omega)) ?_
        refine wl_det rfl rfl rfl (op_move rfl) ?_
        refine wl_nil ?_
        refine st_roundQ (x := (q, i)) ((nx l (srch l).1.B q, i + 1)) [14, 15, 16, 4, 39] rfl (rfl) (.cons rfl (.cons rfl (.nil _))) (.cons rfl (.cons rfl (.cons rfl (.nil _)))) (by
            try dsimp only
            exact ⟨by omega, by rw [hq]; rfl⟩) (by
            try dsimp only
            omega) 
      · -- c42.f
        refine w_exit ?_
        refine st_te ?_
        refine st_te ?_
        refine st_be ?_
        refine st_tn ?_
        refine w_seq ?_
        have hi2 : i = (nodes l).length := by omega
        subst hi2
        obtain ⟨p, hp, hpN⟩ := per_exists (cyc_exists hidx hn0 x0.t (K := l.length + (nodes l).length) (by omega))
        rw [← hq] at hp
        refine w_region ?_
        refine wl_det rfl rfl rfl (op_assign rfl) ?_
        refine wl_nil ?_
        refine st_tn ?_
        refine w_seq ?_
        refine w_seq ?_
        refine w_region ?_
        refine wl_det rfl rfl rfl (op_move rfl) ?_
        refine wl_det rfl rfl rfl (op_assign rfl) ?_
        refine wl_nil ?_
        refine st_tn ?_
        refine w_block ?_
        refine w_emp 7 (slO_nil 3 1) ?_
        refine w_loopQ (X := List Int × Option Addr × Nat × Int) (fun z => z.1 = cycO l (srch l).1.B q z.1.length ∧ z.2.2.2 = nxN l (srch l).1.B z.1.length q ∧ z.1.length < p) (fun z => [(7, .slice (z.2.1) (z.1).length (z.2.2.1)), (8, .int .i64 (z.2.2.2))]) (fun z => [(7, slW 3 SL.encZ 1 (.slice (z.2.1) (z.1).length (z.2.2.1)) (z.1))]) (fun z => p - z.1.length) (([], none, 0, q)) [(0, _), (4, _), (6, _)] [(14, _), (15, _), (16, _), (4, _), (39, _)] [7, 14, 15, 16, 4, 39] rfl (rfl) (.cons rfl (.cons rfl (.nil _))) (.cons rfl (.cons rfl (.cons rfl (.nil _)))) (by
            try dsimp only
            exact ⟨rfl, rfl, hp.pos⟩) ?_
        rintro ⟨out, a_out, c_out, n⟩ ⟨ho, hn, hp2⟩
        refine w_norm2 (by dsimp only [List.cons_append, List.nil_append]) (by dsimp only [List.cons_append, List.nil_append]) ?_
        try dsimp only at ho hn hp2 ⊢
        refine w_block ?_
        refine w_seq ?_
        have hx := getB hidx hn0 n
        have hby := (byI_lt hidx hn0 n).1
        refine w_region ?_
        refine wl_det rfl rfl rfl (op_fieldAddr (off := 1) rfl tF74_1h) ?_
        refine wl_det rfl rfl rfl (op_load1 rfl tO72h (Ent.lab (l := 4) rfl (says_cel 1))) ?_
        refine wl_det rfl rfl rfl (op_move rfl) ?_
        refine wl_det rfl rfl rfl (op_val (v' := .int .i64 (byI (srch l).1.B n : Nat)) (by exact lookB hidx hn0 n) (op_lookup (kt := KZ) (encV := encVZ) rfl rfl tQ72h tN3h (Mr.lab 16 rfl))) ?_
        refine wl_det rfl rfl rfl (op_assign rfl) ?_
        refine wl_nil ?_
        refine st_tn ?_
        refine w_seq ?_
        refine w_drawW (fun β => [⟨57, [], [], [], noW (_), false, [], [7]⟩, ⟨58, [], [], [], noW (_), false, [], []⟩, ⟨59, [1], [], [], fun w => DetW _ _, false, [], []⟩, ⟨60, [0, 2], [], [(7, _)], fun w => DetW _ _, false, [], []⟩, ⟨61, [], [], [], noW (_), false, [], []⟩, ⟨62, [], [], [], noW (_), false, [], []⟩, ⟨63, [4, 5], [], [], noW (_), false, [], []⟩, ⟨64, [6], [], [], noW (_), false, [], []⟩, ⟨65, [7], [], [], noW (_), false, [], []⟩, ⟨7, [3], [], [], noW (_), false, [], []⟩]) [7] [9, 0] [⟨57, [], [], false, [], [7]⟩, ⟨58, [], [], false, [], []⟩, ⟨59, [1], [], false, [], []⟩, ⟨60, [0, 2], [], false, [], []⟩, ⟨61, [], [], false, [], []⟩, ⟨62, [], [], false, [], []⟩, ⟨63, [4, 5], [], false, [], []⟩, ⟨64, [6], [], false, [], []⟩, ⟨65, [7], [], false, [], []⟩, ⟨7, [3], [], false, [], []⟩] [[], [], [], [2], [], [], [], [], [], [2, 3]] [[], [], [], [(7, _)], [], [], [], [], [], []] tMixh (fun _ => by rfl) (fun _ => by rfl) (by kernel_rfl) (by kernel_rfl) (by rfl) (by rfl)
            (fun β => ⟨.p rfl (by intro X; exact op_move rfl),
            ⟨.p rfl (by intro X; exact op_move rfl),
            ⟨.px rfl (by intro X; rintro _ _ ⟨rfl, rfl⟩; refine OpT.mono (op_buildSlice (enc := SL.encZ) (l := [(byI (srch l).1.B n : Int)]) (lab := 59) tL26_1h rfl rfl (fun _ => rfl) rfl) ?_; rintro _ _ ⟨a59, c59, rfl, rfl⟩; obtain ⟨w, rfl, rfl⟩ : ∃ w : Wt, w.a = a59 ∧ w.c = c59 := ⟨{ a := a59, c := c59 }, rfl, rfl⟩; exact ⟨w, rfl, rfl⟩),
            ⟨.px rfl (by intro X; rintro _ _ ⟨rfl, rfl⟩ _ _ ⟨rfl, rfl⟩; refine OpT.mono (op_append (lab := 7) (lab' := 60) rfl rfl tP26h SL.enc1Z (Sl.lab 59 rfl (by simp [maxLen])) (by first | omega | (simp; done) | (simp; omega) | (simp [*]; omega)) (by first | omega | (simp; done) | (simp; omega) | (simp [*]; omega))) ?_; rintro _ _ ⟨a60, c60, rfl, rfl⟩; obtain ⟨w, rfl, rfl⟩ : ∃ w : Wt, w.a = a60 ∧ w.c = c60 := ⟨{ a := a60, c := c60 }, rfl, rfl⟩; exact ⟨w, rfl, rfl⟩),
            ⟨.p rfl (by intro X; exact op_move rfl),
            ⟨.p rfl (by intro X; exact op_move rfl),
            ⟨.p rfl (by intro X; rintro _ _ ⟨rfl, rfl⟩ _ _ ⟨rfl, rfl⟩; exact op_idx rfl rfl tS24h (Sl.ent (by first | exact Sl.app (by assumption) _ | exact Sl.app (Sl.app (by assumption) _) _)) (by omega)),
            ⟨.p rfl (by intro X; rintro _ _ ⟨rfl, rfl⟩; exact op_fieldAddr (off := 0) rfl tF34_0h),
            ⟨.p rfl (by intro X; rintro _ _ ⟨rfl, rfl⟩; exact op_ldxf rfl tO3h (by first | exact Sl.app (by assumption) _ | exact Sl.app (Sl.app (by assumption) _) _) (by assumption) (by rfl)),
            ⟨.p rfl (by intro X; rintro _ _ ⟨rfl, rfl⟩; exact op_assign rfl),
            trivial⟩⟩⟩⟩⟩⟩⟩⟩⟩⟩)
            (fun β β' => ⟨fun _ => by rfl, ⟨fun _ => by rfl, ⟨fun _ => by rfl, ⟨fun h => by first | rfl | (simp only [h 2 (by decide)]), ⟨fun _ => by rfl, ⟨fun _ => by rfl, ⟨fun _ => by rfl, ⟨fun _ => by rfl, ⟨fun _ => by rfl, ⟨fun h => by first | rfl | (simp only [h 2 (by decide), h 3 (by decide)]), trivial⟩⟩⟩⟩⟩⟩⟩⟩⟩⟩) ?_
        intro β
        rintro _ _ ⟨rfl, rfl⟩ _ _ ⟨rfl, rfl⟩ _ _ ⟨rfl, rfl⟩ _ _ ⟨rfl, rfl⟩ _ _ ⟨rfl, rfl⟩ _ _ ⟨rfl, rfl⟩ _ _ ⟨rfl, rfl⟩ _ _ ⟨rfl, rfl⟩ _ _ ⟨rfl, rfl⟩ _ _ ⟨rfl, rfl⟩
        generalize (β 2).a = a59
        generalize (β 2).c = c59
        generalize (β 3).a = a60
        generalize (β 3).c = c60
        refine wl_norm (e' := [(0, _), (4, _), (6, _), (7, _), (65, _)]) (.cons rfl (.cons rfl (.cons rfl (.cons rfl (.cons rfl (.nil _)))))) (by dsimp only [cond_false, cond_true, List.nil_append, List.cons_append]) ?_
        refine wl_det rfl rfl rfl (op_assign rfl) ?_
        refine wl_nil ?_
        refine st_tn ?_
        refine w_seq ?_
        refine w_region ?_
        refine wl_det rfl rfl rfl (op_move rfl) ?_
        refine wl_det rfl rfl rfl (op_move rfl) ?_
        refine wl_det rfl rfl rfl (op_eql rfl rfl) ?_
        refine wl_nil ?_
        refine st_tn ?_
        refine w_cond_d rfl (fun hc68 => ?_) (fun hc68 => ?_)
        · -- c68.t
          have hback : nxN l (srch l).1.B (out.length + 1) q = q := by show nx l _ (nxN l _ out.length q) = q; rw [← hn]; exact hc68
          have hpe : p = out.length + 1 := Classical.byContradiction fun hne => hp.least (out.length + 1) (by omega) (by omega) hback
          obtain ⟨O, hO⟩ : ∃ O, O = out ++ [(byI (srch l).1.B n : Int)] := ⟨_, rfl⟩
          have hO2 : O = cycO l (srch l).1.B q p := by rw [hO, hpe, cycO_snoc, ← ho, ← hn]
          have hOl : O.length = p := by rw [hO2, cycO_len]
          have hp1 := hp.pos
          rw [← hO]
          refine w_exit ?_
          refine st_bne rfl ?_
          refine st_te ?_
          refine st_be ?_
          refine st_tn ?_
          refine w_seq ?_
          obtain ⟨k, hk1, hk⟩ := idx_min (o := O.reverse) (fun e => by have := hp.pos; have := congrArg List.length e; rw [List.length_reverse, List.length_nil] at this; omega)
          rw [List.length_reverse] at hk1
          have hcn : cat [((SL.sub a60 c60 k 1, c60 - k, O.reverse.drop k) : Hd), ((SL.sub a60 c60 0 1, c60 - 0, O.reverse.take k) : Hd)] = cnfL l := by
            rw [cnf_of hc19 ⟨p, ?_, rfl⟩, hx1, ← hq, ← hO2, turned_of hk]
            · unfold cat; simp
            · rw [hx1, ← hq]; exact hp
          refine w_region ?_
          refine wl_det rfl rfl rfl (op_move rfl) ?_
          refine wl_op [60] rfl rfl rfl rfl (op_fn Try.func45 rfl rfl rfl (reverse_any 60 (by omega))) ?_
          rintro _ _ ⟨rfl, rfl⟩
          refine wl_nil ?_
          refine st_tn ?_
          refine w_seq ?_
          generalize hR : O.reverse = R at hk hcn ⊢
          have hRl : O.length = R.length := by rw [← hR, List.length_reverse]
          rw [hRl] at hk1 ⊢
          refine w_region ?_
          refine wl_det rfl rfl rfl (op_move rfl) ?_
          refine wl_det rfl rfl rfl (op_move rfl) ?_
          refine wl_det rfl rfl rfl (op_fn Try.func47 rfl rfl rfl (min_any (Sl.lab 60 rfl (by unfold maxLen; omega)) (by omega) (by omega))) ?_
          refine wl_det rfl rfl rfl (op_val (v' := .int .i64 (k : Nat)) (by rw [hk]) (op_fn Try.func46 rfl rfl rfl (index_any _ (Sl.lab 60 rfl (by unfold maxLen; omega))))) ?_
          refine wl_det rfl rfl rfl (op_assign rfl) ?_
          refine wl_nil ?_
          refine st_tn ?_
          refine w_seq ?_
          refine w_drawW (fun β => [⟨75, [], [], [], noW (_), false, [], []⟩, ⟨76, [], [], [], noW (_), false, [], []⟩, ⟨77, [0, 1], [], [], noW (_), false, [], []⟩, ⟨78, [], [], [], noW (_), false, [], []⟩, ⟨79, [], [], [], noW (_), false, [], []⟩, ⟨80, [3, 4], [], [], noW (_), false, [], []⟩]) [] [7, 10] [⟨75, [], [], false, [], []⟩, ⟨76, [], [], false, [], []⟩, ⟨77, [0, 1], [], false, [], []⟩, ⟨78, [], [], false, [], []⟩, ⟨79, [], [], false, [], []⟩, ⟨80, [3, 4], [], false, [], []⟩] [[], [], [], [], [], []] [[], [], [], [], [], []] tMixh (fun _ => by rfl) (fun _ => by rfl) (by kernel_rfl) (by kernel_rfl) (by rfl) (by rfl)
              (fun β => ⟨.p rfl (by intro X; exact op_move rfl),
              ⟨.p rfl (by intro X; exact op_move rfl),
              ⟨.p rfl (by intro X; rintro _ _ ⟨rfl, rfl⟩ _ _ ⟨rfl, rfl⟩; exact op_val (v' := hv (SL.sub a60 c60 k 1, c60 - k, R.drop k)) (by unfold hv; rw [List.length_drop]) (op_sliceL rfl rfl tS26h (Sl.lab 60 rfl (by unfold maxLen; omega)) (by omega))),
              ⟨.p rfl (by intro X; exact op_move rfl),
              ⟨.p rfl (by intro X; exact op_move rfl),
              ⟨.p rfl (by intro X; rintro _ _ ⟨rfl, rfl⟩ _ _ ⟨rfl, rfl⟩; exact op_val (v' := hv (SL.sub a60 c60 0 1, c60 - 0, R.take k)) (by unfold hv; rw [List.length_take, Nat.min_eq_left (by omega)]; rfl) (op_sliceR rfl rfl tS26h (Sl.lab 60 rfl (by unfold maxLen; omega)) (by omega))),
              trivial⟩⟩⟩⟩⟩⟩)
              (fun β β' => ⟨fun _ => by rfl, ⟨fun _ => by rfl, ⟨fun _ => by rfl, ⟨fun _ => by rfl, ⟨fun _ => by rfl, ⟨fun _ => by rfl, trivial⟩⟩⟩⟩⟩⟩) ?_
          intro β
          rintro _ _ ⟨rfl, rfl⟩ _ _ ⟨rfl, rfl⟩ _ _ ⟨rfl, rfl⟩ _ _ ⟨rfl, rfl⟩ _ _ ⟨rfl, rfl⟩ _ _ ⟨rfl, rfl⟩
          refine wl_norm (e' := [(77, _), (80, _)]) (.cons rfl (.cons rfl (.nil _))) (by dsimp only [cond_false, cond_true, List.nil_append, List.cons_append]) ?_
          refine wl_op [] rfl rfl rfl rfl (op_buildSlice (enc := encH) (l := [((SL.sub a60 c60 k 1, c60 - k, R.drop k) : Hd), ((SL.sub a60 c60 0 1, c60 - 0, R.take k) : Hd)]) (lab := 81) tL67_2h rfl rfl (fun _ => rfl) rfl) ?_
          rintro _ _ ⟨a81, c81, rfl, rfl⟩
          refine wl_op [] rfl rfl rfl rfl (op_fn Try.func48 rfl rfl rfl (concat_any (ss := [((SL.sub a60 c60 k 1, c60 - k, R.drop k) : Hd), ((SL.sub a60 c60 0 1, c60 - 0, R.take k) : Hd)]) 82 (Sl.lab 81 rfl (by unfold maxLen; simp)) (by intro p hp; simp only [List.mem_cons, List.not_mem_nil, or_false] at hp; rcases hp with rfl | rfl; (· unfold hv; simp only [List.length_drop]; exact Sl.dropL (Sl.lab 60 rfl (by unfold maxLen; omega)) (by omega)); (· unfold hv; simp only [List.length_take]; rw [Nat.min_eq_left (by omega)]; exact Sl.takeR (hi := k) (Sl.lab 60 rfl (by unfold maxLen; omega)) (by omega))) (by unfold tot; simp; omega))) ?_
          rintro _ _ ⟨a82, c82, rfl, rfl⟩
          refine wl_det rfl rfl rfl (op_assign rfl) ?_
          refine wl_det rfl rfl rfl (op_assign rfl) ?_
          refine wl_nil ?_
          refine st_tn ?_
          refine w_ret ?_
          refine st_ret (vs := [_, _]) [82] Try.results17 ⟨rfl, ⟨rfl, trivial⟩⟩ rfl ?_
          refine ⟨[(lab, _)], rfl, ?_⟩
          have h1 : solE l = 21 := by unfold solE; rw [if_pos (by omega)]
          rw [← hcn, h1]; exact ⟨_, _, rfl, rfl⟩
        · -- c68.f
          refine w_skip ?_
          refine st_bn ?_
          refine st_roundQ (x := (out, a_out, c_out, n)) ((_, _, _, nx l (srch l).1.B n)) [60, 14, 15, 16, 4, 39] rfl (rfl) (.cons rfl (.cons rfl (.nil _))) (.cons rfl (.cons rfl (.cons rfl (.nil _)))) (by
              try dsimp only
              refine ⟨by rw [List.length_append, List.length_singleton, cycO_snoc, ← ho, ← hn], by rw [List.length_append, List.length_singleton]; show _ = nx l _ (nxN l _ out.length q); rw [← hn], ?_⟩; rw [List.length_append, List.length_singleton]; exact Nat.lt_of_le_of_ne hp2 fun e => hc68 (by rw [hn]; show nxN l _ (out.length + 1) q = q; rw [e]; exact hp.back)) (by
              try dsimp only
              rw [List.length_append, List.length_singleton]; omega) 

end Go.Proofs.Ytgdjnjbipemdcaa
