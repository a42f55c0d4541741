/- Contracts: Grow, Concat, Merge, Prefix (layer 6). Conditions: none. -/
import Derived.Test.YtbpihhaiechnbaaD4
import Derived.Test.YtbpihhaiechnbaaM1
namespace Go.Proofs.Ytbpihhaiechnbaa
open Go Go.SL Go.RowKit Go.DicM
set_option linter.unusedVariables false
set_option linter.unusedSimpArgs false
theorem tA40e : aggB Try.prog 40 2 = true := by kernel_rfl
theorem tB40e : placesB Try.prog 40 = some ([(0, 1), (1, 1)], [Value.int .i64 0, Value.int .i64 0]) := by kernel_rfl
theorem tF40_0e : fieldB Try.prog 40 0 0 = true := by kernel_rfl
theorem tF40_1e : fieldB Try.prog 40 1 1 = true := by kernel_rfl
theorem tL73_2e : zerosB Try.prog 73 22 1 2 = some [Value.slice none 0 0, Value.slice none 0 0] := by kernel_rfl
theorem tN40e : (Try.prog.info? 40).bind (·.zero) = some (Value.agg #[Value.int .i64 0, Value.int .i64 0]) := by kernel_rfl
theorem tO22e : oneB Try.prog 22 = true := by kernel_rfl
theorem tO3e : oneB Try.prog 3 = true := by kernel_rfl
theorem tO9e : oneB Try.prog 9 = true := by kernel_rfl
theorem tP22e : appB Try.prog 22 9 1 16 = true := by kernel_rfl
theorem tS22e : sliceB Try.prog 22 9 1 = true := by kernel_rfl
theorem tS73e : sliceB Try.prog 73 22 1 = true := by kernel_rfl
theorem tZ3e : (Try.prog.info? 3).map (·.size) = some 1 := by kernel_rfl
theorem tZ40e : (Try.prog.info? 40).map (·.size) = some 2 := by kernel_rfl

theorem slnilT {σ : World} {F : List Res} : Sl σ F encT 1 (.slice none 0 0) [] := ⟨fun w hw => ⟨by simp, by simp, .inl ⟨_, _, rfl, rfl⟩⟩, by simp [maxLen]⟩
set_option maxHeartbeats 400000 in
set_option maxRecDepth 100000 in
theorem grow_any {σ : World} {F : List Res} (n lab : Nat) (hn : n ≤ 1048576) :
    FnT Try.prog σ F 56 [.slice none 0 0, .int .i64 n] [] (fun u ρ => ∃ a c, u = .slice a 0 c ∧ ρ = [(lab, slW 9 encT 1 (.slice a 0 c) [])]) := by
  refine fn_of 27 Try.func56 rfl Try.ntmps56 rfl ?_
  refine w_seq ?_
  refine w_region ?_
  refine wl_det rfl rfl rfl (op_assign rfl) ?_
  refine wl_nil ?_
  refine st_tn ?_
  refine w_seq ?_
  refine w_seq ?_
  refine w_region ?_
  refine wl_det rfl rfl rfl (op_move rfl) ?_
  refine wl_det rfl rfl rfl (op_lss rfl rfl) ?_
  refine wl_nil ?_
  refine st_tn ?_
  refine w_cond_d rfl (fun hc6 => ?_) (fun hc6 => ?_)
  · -- c6.t
    omega
  · -- c6.f
    refine w_skip ?_
    refine st_tn ?_
    refine w_seq ?_
    refine w_seq ?_
    refine w_region ?_
    refine wl_det rfl rfl rfl (op_move rfl) ?_
    refine wl_det rfl rfl rfl (op_move rfl) ?_
    refine wl_det rfl rfl rfl (op_cap rfl tS22e) ?_
    refine wl_det rfl rfl rfl (op_move rfl) ?_
    refine wl_det rfl rfl rfl (op_val (v' := .int .i64 0) rfl (op_lenT rfl tS22e (Sl.ent slnilT))) ?_
    refine wl_det rfl rfl rfl (op_sub' rfl rfl (by omega)) ?_
    refine wl_det rfl rfl rfl (op_val (v' := .int .i64 (n : Int)) (by simp) (op_sub' rfl rfl (by omega))) ?_
    refine wl_det rfl rfl rfl (op_assign rfl) ?_
    refine wl_nil ?_
    refine st_tn ?_
    refine w_seq ?_
    refine w_region ?_
    refine wl_det rfl rfl rfl (op_move rfl) ?_
    refine wl_det rfl rfl rfl (op_gtr rfl rfl) ?_
    refine wl_nil ?_
    refine st_tn ?_
    refine w_cond_d rfl (fun hc16 => ?_) (fun hc16 => ?_)
    · -- c16.t
      refine w_region ?_
      refine wl_det rfl rfl rfl (op_move rfl) ?_
      refine wl_det rfl rfl rfl (op_move rfl) ?_
      refine wl_det rfl rfl rfl (op_cap rfl tS22e) ?_
      refine wl_det rfl rfl rfl (op_slice00 rfl rfl tS22e (.inl rfl)) ?_
      refine wl_det rfl rfl rfl (op_move rfl) ?_
      refine wl_op [] rfl rfl rfl rfl (op_appendMake0 (enc := encT) (lab := 22) rfl rfl tP22e Try.underlying3 (by omega) (by omega) (by unfold maxLen; omega)) ?_
      rintro _ _ ⟨g22, c22, rfl, rfl⟩
      refine wl_det rfl rfl rfl (op_move rfl) ?_
      refine wl_det rfl rfl rfl (op_val (v' := .int .i64 0) rfl (op_lenT rfl tS22e (Sl.ent slnilT))) ?_
      refine wl_det rfl rfl rfl (op_slice00 rfl rfl tS22e (.inr ⟨_, rfl⟩)) ?_
      refine wl_det rfl rfl rfl (op_assign rfl) ?_
      refine wl_nil ?_
      refine st_tn ?_
      refine w_seq ?_
      refine w_region ?_
      refine wl_det rfl rfl rfl (op_move rfl) ?_
      refine wl_det rfl rfl rfl (op_assign rfl) ?_
      refine wl_nil ?_
      refine st_tn ?_
      refine w_ret ?_
      refine st_ret (vs := [_]) [22] Try.results56 ⟨rfl, trivial⟩ rfl ?_
      refine ⟨[(lab, _)], rfl, ?_⟩
      exact ⟨_, _, rfl, rfl⟩
    · -- c16.f
      refine w_emp 22 (slO_nil 9 1) ?_
      refine w_skip ?_
      refine st_tn ?_
      refine w_seq ?_
      refine w_region ?_
      refine wl_det rfl rfl rfl (op_move rfl) ?_
      refine wl_det rfl rfl rfl (op_assign rfl) ?_
      refine wl_nil ?_
      refine st_tn ?_
      refine w_ret ?_
      refine st_ret (vs := [_]) [22] Try.results56 ⟨rfl, trivial⟩ rfl ?_
      refine ⟨[(lab, _)], rfl, ?_⟩
      exact ⟨_, _, rfl, rfl⟩

/-- Headers of lists. -/
abbrev Hd := Option Addr × Nat × List Bs
def hv (p : Hd) : Value := .slice p.1 p.2.2.length p.2.1
def encH (p : Hd) : List Value := [hv p]
theorem enc1H : Enc1 encH 1 := ⟨fun _ => rfl, fun a u h => by simp [encH] at h; subst h; rfl⟩
def tot (ss : List Hd) : Nat := (ss.map fun p => p.2.2.length).sum
def cat (ss : List Hd) : List Bs := (ss.map fun p => p.2.2).flatten
theorem tot_snoc {ss : List Hd} {i : Nat} {p : Hd} (h : ss[i]? = some p) : tot (ss.take (i + 1)) = tot (ss.take i) + p.2.2.length := by rw [take_snoc h]; unfold tot; rw [List.map_append, List.sum_append]; simp
theorem cat_snoc {ss : List Hd} {i : Nat} {p : Hd} (h : ss[i]? = some p) : cat (ss.take (i + 1)) = cat (ss.take i) ++ p.2.2 := by rw [take_snoc h]; unfold cat; rw [List.map_append, List.flatten_append]; simp
theorem cat_len (ss : List Hd) : (cat ss).length = tot ss := by unfold cat tot; rw [List.length_flatten, List.map_map]; rfl
theorem tot_take (ss : List Hd) (i : Nat) : tot (ss.take i) ≤ tot ss := by
  have : tot ss = tot (ss.take i) + tot (ss.drop i) := by
    conv => lhs; rw [← List.take_append_drop i ss]
    unfold tot; rw [List.map_append, List.sum_append]
  omega
set_option maxHeartbeats 1000000 in
set_option maxRecDepth 100000 in
theorem concat_any {σ : World} {F : List Res} {v : Value} {ss : List Hd} (lab : Nat) (h : Sl σ F encH 1 v ss) (hs : ∀ p ∈ ss, Sl σ F encT 1 (hv p) p.2.2) (ht : tot ss ≤ 1048576) :
    FnT Try.prog σ F 48 [v] [] (NewT (cat ss) lab) := by
  refine fn_of 36 Try.func48 rfl Try.ntmps48 rfl ?_
  have hle := h.i64
  refine w_seq ?_
  refine w_region ?_
  refine wl_det rfl rfl rfl (op_assign rfl) ?_
  refine wl_nil ?_
  refine st_tn ?_
  refine w_seq ?_
  refine w_region ?_
  refine wl_det rfl rfl rfl (op_assign rfl) ?_
  refine wl_nil ?_
  refine st_tn ?_
  refine w_seq ?_
  refine w_seq ?_
  refine w_region ?_
  refine wl_det rfl rfl rfl (op_move rfl) ?_
  refine wl_det rfl rfl rfl (op_lenT rfl tS73e (Sl.ent (by first | exact Sl.app (by assumption) _ | exact Sl.app (Sl.app (by assumption) _) _))) ?_
  refine wl_det rfl rfl rfl (op_move rfl) ?_
  refine wl_nil ?_
  refine st_tn ?_
  refine w_block ?_
  refine w_loopQ (X := Nat × Nat) (fun z => z.2 ≤ ss.length ∧ z.1 = tot (ss.take z.2)) (fun z => [(3, .int .i64 (z.1)), (11, .int .i64 (z.2))]) (fun _ => []) (fun z => ss.length - z.2) ((0, 0)) [(0, _), (9, _), (10, _)] [] [] rfl (rfl) (.cons rfl (.cons rfl (.nil _))) (.cons rfl (.cons rfl (.cons rfl (.nil _)))) (by
      try dsimp only
      exact ⟨Nat.zero_le _, rfl⟩) ?_
  rintro ⟨s, i⟩ ⟨hi, hsm⟩
  refine w_norm2 (by dsimp only [List.cons_append, List.nil_append]) (by dsimp only [List.cons_append, List.nil_append]) ?_
  try dsimp only at hi hsm ⊢
  refine w_seq ?_
  refine w_region ?_
  refine wl_det rfl rfl rfl (op_lss rfl rfl) ?_
  refine wl_nil ?_
  refine st_tn ?_
  refine w_seq ?_
  refine w_cond_d rfl (fun hc12 => ?_) (fun hc12 => ?_)
  · -- c12.t
    obtain ⟨p, hp⟩ := getE (l := ss) (i := i) (by omega)
    have hlt := ltE hp
    have hps := hs p (List.mem_of_getElem? hp)
    have h1 := tot_snoc hp
    have h2 := tot_take ss (i + 1)
    refine w_skip ?_
    refine st_tn ?_
    refine w_seq ?_
    refine w_block ?_
    refine w_seq ?_
    refine w_region ?_
    refine wl_det rfl rfl rfl (op_idx rfl rfl tS73e (Sl.ent (by first | exact Sl.app (by assumption) _ | exact Sl.app (Sl.app (by assumption) _) _)) (by omega)) ?_
    refine wl_det rfl rfl rfl (op_ldx rfl tO22e (by first | exact Sl.app (by assumption) _ | exact Sl.app (Sl.app (by assumption) _) _) (by assumption) (by rfl)) ?_
    refine wl_det rfl rfl rfl (op_assign rfl) ?_
    refine wl_nil ?_
    refine st_tn ?_
    refine w_seq ?_
    refine w_region ?_
    refine wl_det rfl rfl rfl (op_move rfl) ?_
    refine wl_det rfl rfl rfl (op_move rfl) ?_
    refine wl_det rfl rfl rfl (op_lenT rfl tS22e (Sl.ent (Sl.app hps _))) ?_
    refine wl_det rfl rfl rfl (op_add' rfl rfl (by omega)) ?_
    refine wl_det rfl rfl rfl (op_assign rfl) ?_
    refine wl_nil ?_
    refine st_tn ?_
    refine w_seq ?_
    refine w_region ?_
    refine wl_det rfl rfl rfl (op_move rfl) ?_
    refine wl_det rfl rfl rfl (op_lss rfl rfl) ?_
    refine wl_nil ?_
    refine st_tn ?_
    refine w_cond_d rfl (fun hc20 => ?_) (fun hc20 => ?_)
    · -- c20.t
      omega
    · -- c20.f
      refine w_skip ?_
      refine st_bn ?_
      refine st_tn ?_
      refine w_region ?_
      refine wl_det rfl rfl rfl (op_add' rfl rfl (by omega)) ?_
      refine wl_det rfl rfl rfl (op_move rfl) ?_
      refine wl_nil ?_
      refine st_roundQ (x := (s, i)) ((s + p.2.2.length, i + 1)) [] rfl (rfl) (.cons rfl (.cons rfl (.nil _))) (.cons rfl (.cons rfl (.cons rfl (.nil _)))) (by
          try dsimp only
          exact ⟨by omega, by rw [tot_snoc hp, hsm]⟩) (by
          try dsimp only
          omega) 
  · -- c12.f
    refine w_exit ?_
    refine st_te ?_
    refine st_te ?_
    refine st_be ?_
    refine st_tn ?_
    refine w_seq ?_
    rw [take_all (by omega)] at hsm
    subst hsm
    refine w_region ?_
    refine wl_det rfl rfl rfl (op_move rfl) ?_
    refine wl_op [] rfl rfl rfl rfl (op_fn Try.func56 rfl rfl rfl (grow_any _ 24 ht)) ?_
    rintro _ _ ⟨a24, c24, rfl, rfl⟩
    refine wl_det rfl rfl rfl (op_assign rfl) ?_
    refine wl_nil ?_
    refine st_tn ?_
    refine w_seq ?_
    refine w_seq ?_
    refine w_region ?_
    refine wl_det rfl rfl rfl (op_move rfl) ?_
    refine wl_det rfl rfl rfl (op_lenT rfl tS73e (Sl.ent (by first | exact Sl.app (by assumption) _ | exact Sl.app (Sl.app (by assumption) _) _))) ?_
    refine wl_det rfl rfl rfl (op_move rfl) ?_
    refine wl_nil ?_
    refine st_tn ?_
    refine w_block ?_
    refine w_loopQ (X := Nat × List (List UInt8) × Option Addr × Nat) (fun z => z.1 ≤ ss.length ∧ z.2.1 = cat (ss.take z.1)) (fun z => [(27, .int .i64 (z.1)), (6, .slice (z.2.2.1) (z.2.1).length (z.2.2.2))]) (fun z => [(24, slW 9 encT 1 (.slice (z.2.2.1) (z.2.1).length (z.2.2.2)) (z.2.1))]) (fun z => ss.length - z.1) ((0, [], _, _)) [(25, _), (26, _)] [] [24] rfl (rfl) (.cons rfl (.cons rfl (.nil _))) (.cons rfl (.cons rfl (.nil _))) (by
        try dsimp only
        exact ⟨Nat.zero_le _, rfl⟩) ?_
    rintro ⟨i, out, a_out, c_out⟩ ⟨hi, ho⟩
    refine w_norm2 (by dsimp only [List.cons_append, List.nil_append]) (by dsimp only [List.cons_append, List.nil_append]) ?_
    try dsimp only at hi ho ⊢
    refine w_seq ?_
    refine w_region ?_
    refine wl_det rfl rfl rfl (op_lss rfl rfl) ?_
    refine wl_nil ?_
    refine st_tn ?_
    refine w_seq ?_
    refine w_cond_d rfl (fun hc28 => ?_) (fun hc28 => ?_)
    · -- c28.t
      obtain ⟨p, hp⟩ := getE (l := ss) (i := i) (by omega)
      have hlt := ltE hp
      have hps := hs p (List.mem_of_getElem? hp)
      have h1 := tot_snoc hp
      have h2 := tot_take ss (i + 1)
      have h3 := cat_len (ss.take i)
      refine w_skip ?_
      refine st_tn ?_
      refine w_seq ?_
      refine w_block ?_
      refine w_seq ?_
      refine w_region ?_
      refine wl_det rfl rfl rfl (op_idx rfl rfl tS73e (Sl.ent (by first | exact Sl.app (by assumption) _ | exact Sl.app (Sl.app (by assumption) _) _)) (by omega)) ?_
      refine wl_det rfl rfl rfl (op_ldx rfl tO22e (by first | exact Sl.app (by assumption) _ | exact Sl.app (Sl.app (by assumption) _) _) (by assumption) (by rfl)) ?_
      refine wl_det rfl rfl rfl (op_assign rfl) ?_
      refine wl_nil ?_
      refine st_tn ?_
      refine w_region ?_
      refine wl_det rfl rfl rfl (op_move rfl) ?_
      refine wl_det rfl rfl rfl (op_move rfl) ?_
      refine wl_op [24] rfl rfl rfl rfl (op_append (lab := 24) (lab' := 33) rfl rfl tP22e enc1T (Sl.app hps _) (by subst ho; omega) (by subst ho; omega)) ?_
      rintro _ _ ⟨a33, c33, rfl, rfl⟩
      refine wl_det rfl rfl rfl (op_assign rfl) ?_
      refine wl_nil ?_
      refine st_bn ?_
      refine st_tn ?_
      refine w_region ?_
      refine wl_det rfl rfl rfl (op_add' rfl rfl (by omega)) ?_
      refine wl_det rfl rfl rfl (op_move rfl) ?_
      refine wl_nil ?_
      refine st_roundQ (x := (i, out, a_out, c_out)) ((i + 1, _, _, _)) [33] rfl (rfl) (.cons rfl (.cons rfl (.nil _))) (.cons rfl (.cons rfl (.nil _))) (by
          try dsimp only
          exact ⟨by omega, by rw [cat_snoc hp, ho]⟩) (by
          try dsimp only
          omega) 
    · -- c28.f
      refine w_exit ?_
      refine st_te ?_
      refine st_te ?_
      refine st_be ?_
      refine st_tn ?_
      refine w_seq ?_
      rw [take_all (by omega)] at ho
      refine w_region ?_
      refine wl_det rfl rfl rfl (op_move rfl) ?_
      refine wl_det rfl rfl rfl (op_assign rfl) ?_
      refine wl_nil ?_
      refine st_tn ?_
      refine w_ret ?_
      refine st_ret (vs := [_]) [24] Try.results48 ⟨rfl, trivial⟩ rfl ?_
      refine ⟨[(lab, _)], rfl, ?_⟩
      rw [← ho]; exact ⟨_, _, rfl, rfl⟩

def mrgA (l m x : List Bs) : List Int := if bldE (l ++ m) = 0 then codesL (bldL (l ++ m)) x else []
theorem bld_inc (l : List Bs) : Inc (bldL l) := by
  unfold bldL; split
  · exact (build_spec List.Pairwise.nil).1
  · exact List.Pairwise.nil
theorem bld_len (l : List Bs) : (bldL l).length ≤ l.length := by
  unfold bldL; split
  · have := build_length l []; simpa using this
  · simp
/-- What Merge returns. -/
def NewM (D : List Bs) (A B : List Int) (e : Int) (l1 l2 l3 : Nat) (u : Value) (ρ : RL) : Prop := ∃ a c a' c' a'' c'', u = .tuple #[.slice a D.length c, .slice a' A.length c', .slice a'' B.length c'', .int .i64 e] ∧ ρ = [(l1, slW 9 encT 1 (.slice a D.length c) D), (l2, slW 3 encZ 1 (.slice a' A.length c') A), (l3, slW 3 encZ 1 (.slice a'' B.length c'') B)]
set_option maxHeartbeats 1000000 in
set_option maxRecDepth 100000 in
theorem merge_any {σ : World} {F : List Res} {a b : Option Addr} {c d : Nat} {l m : List Bs} (l1 l2 l3 : Nat) (h : Sl σ F encT 1 (.slice a l.length c) l) (g : Sl σ F encT 1 (.slice b m.length d) m) (hl : l.length + m.length ≤ 1048576) :
    FnT Try.prog σ F 20 [.slice a l.length c, .slice b m.length d] [] (NewM (bldL (l ++ m)) (mrgA l m l) (mrgA l m m) (bldE (l ++ m)) l1 l2 l3) := by
  refine fn_of 34 Try.func20 rfl Try.ntmps20 rfl ?_
  have hle := h.i64
  have gle := g.i64
  have hinc := bld_inc (l ++ m)
  have hlen := bld_len (l ++ m)
  rw [List.length_append] at hlen
  refine w_seq ?_
  refine w_region ?_
  refine wl_det rfl rfl rfl (op_assign rfl) ?_
  refine wl_det rfl rfl rfl (op_assign rfl) ?_
  refine wl_det rfl rfl rfl (op_assign rfl) ?_
  refine wl_det rfl rfl rfl (op_assign rfl) ?_
  refine wl_nil ?_
  refine st_tn ?_
  refine w_seq ?_
  refine w_region ?_
  refine wl_det rfl rfl rfl (op_move rfl) ?_
  refine wl_det rfl rfl rfl (op_move rfl) ?_
  refine wl_op [] rfl rfl rfl rfl (op_buildSlice (enc := encH) (l := [((a, c, l) : Hd), ((b, d, m) : Hd)]) (lab := 11) tL73_2e rfl rfl (fun _ => rfl) rfl) ?_
  rintro _ _ ⟨a11, c11, rfl, rfl⟩
  refine wl_op [] rfl rfl rfl rfl (op_fn Try.func48 rfl rfl rfl (concat_any (ss := [((a, c, l) : Hd), ((b, d, m) : Hd)]) 12 (Sl.lab 11 rfl (by unfold maxLen; simp)) (by intro p hp; simp only [List.mem_cons, List.not_mem_nil, or_false] at hp; rcases hp with rfl | rfl; (· exact Sl.app h _); (· exact Sl.app g _)) (by unfold tot; simp; omega))) ?_
  rintro _ _ ⟨a12, c12, rfl, rfl⟩
  refine wl_op [] rfl rfl rfl rfl (op_fn Try.func15 rfl rfl rfl (build_any (l := cat [((a, c, l) : Hd), ((b, d, m) : Hd)]) 13 (Sl.lab 12 rfl (by unfold maxLen cat; simp; omega)) (by unfold cat; simp; omega))) ?_
  rintro _ _ ⟨a13, c13, rfl, rfl⟩
  refine wl_det rfl rfl rfl (op_move rfl) ?_
  refine wl_det rfl rfl rfl (op_extract rfl rfl) ?_
  refine wl_det rfl rfl rfl (op_extract rfl rfl) ?_
  refine wl_det rfl rfl rfl (op_assign rfl) ?_
  refine wl_det rfl rfl rfl (op_assign rfl) ?_
  refine wl_nil ?_
  refine st_tn ?_
  refine w_seq ?_
  refine w_seq ?_
  have hcat : cat [((a, c, l) : Hd), ((b, d, m) : Hd)] = l ++ m := by simp [cat]
  rw [hcat]
  refine w_region ?_
  refine wl_det rfl rfl rfl (op_move rfl) ?_
  refine wl_det rfl rfl rfl (op_neq rfl rfl) ?_
  refine wl_nil ?_
  refine st_tn ?_
  refine w_cond_d rfl (fun hc17 => ?_) (fun hc17 => ?_)
  · -- c17.t
    refine w_seq ?_
    refine w_emp 91 (slO_nil 9 1) ?_
    refine w_emp 92 (slO_nil 3 1) ?_
    refine w_emp 93 (slO_nil 3 1) ?_
    refine w_region ?_
    refine wl_det rfl rfl rfl (op_move rfl) ?_
    refine wl_det rfl rfl rfl (op_assign rfl) ?_
    refine wl_det rfl rfl rfl (op_assign rfl) ?_
    refine wl_det rfl rfl rfl (op_assign rfl) ?_
    refine wl_det rfl rfl rfl (op_assign rfl) ?_
    refine wl_nil ?_
    refine st_tn ?_
    refine w_ret ?_
    refine st_tr ?_
    refine st_ret (vs := [_, _, _, _]) [91, 92, 93] Try.results20 ⟨rfl, ⟨rfl, ⟨rfl, ⟨rfl, trivial⟩⟩⟩⟩ rfl ?_
    refine ⟨[(l1, _), (l2, _), (l3, _)], rfl, ?_⟩
    have h1 : bldL (l ++ m) = [] := by unfold bldL; rw [if_neg hc17]
    have h2 : ∀ x, mrgA l m x = [] := fun x => by unfold mrgA; rw [if_neg hc17]
    rw [h1, h2, h2]; exact ⟨none, 0, none, 0, none, 0, rfl, rfl⟩
  · -- c17.f
    refine w_skip ?_
    refine st_tn ?_
    refine w_seq ?_
    refine w_region ?_
    refine wl_det rfl rfl rfl (op_move rfl) ?_
    refine wl_det rfl rfl rfl (op_move rfl) ?_
    refine wl_op [] rfl rfl rfl rfl (op_fn Try.func31 rfl rfl rfl (codes_any (l := l) 22 (Sl.lab 13 rfl (by unfold maxLen; omega)) (Sl.app h _) hinc (by omega) (by omega))) ?_
    rintro _ _ ⟨a22, c22, rfl, rfl⟩
    refine wl_det rfl rfl rfl (op_move rfl) ?_
    refine wl_det rfl rfl rfl (op_extract rfl rfl) ?_
    refine wl_det rfl rfl rfl (op_extract rfl rfl) ?_
    refine wl_det rfl rfl rfl (op_assign rfl) ?_
    refine wl_nil ?_
    refine st_tn ?_
    refine w_seq ?_
    refine w_region ?_
    refine wl_det rfl rfl rfl (op_move rfl) ?_
    refine wl_det rfl rfl rfl (op_move rfl) ?_
    refine wl_op [] rfl rfl rfl rfl (op_fn Try.func31 rfl rfl rfl (codes_any (l := m) 28 (Sl.lab 13 rfl (by unfold maxLen; omega)) (Sl.app g _) hinc (by omega) (by omega))) ?_
    rintro _ _ ⟨a28, c28, rfl, rfl⟩
    refine wl_det rfl rfl rfl (op_move rfl) ?_
    refine wl_det rfl rfl rfl (op_extract rfl rfl) ?_
    refine wl_det rfl rfl rfl (op_extract rfl rfl) ?_
    refine wl_det rfl rfl rfl (op_assign rfl) ?_
    refine wl_nil ?_
    refine st_tn ?_
    refine w_seq ?_
    refine w_region ?_
    refine wl_det rfl rfl rfl (op_move rfl) ?_
    refine wl_det rfl rfl rfl (op_move rfl) ?_
    refine wl_det rfl rfl rfl (op_move rfl) ?_
    refine wl_det rfl rfl rfl (op_assign rfl) ?_
    refine wl_det rfl rfl rfl (op_assign rfl) ?_
    refine wl_det rfl rfl rfl (op_assign rfl) ?_
    refine wl_det rfl rfl rfl (op_assign rfl) ?_
    refine wl_nil ?_
    refine st_tn ?_
    refine w_ret ?_
    refine st_ret (vs := [_, _, _, _]) [13, 22, 28] Try.results20 ⟨rfl, ⟨rfl, ⟨rfl, ⟨rfl, trivial⟩⟩⟩⟩ rfl ?_
    refine ⟨[(l1, _), (l2, _), (l3, _)], rfl, ?_⟩
    have h2 : ∀ x, mrgA l m x = codesL (bldL (l ++ m)) x := fun x => by unfold mrgA; rw [if_pos (Classical.not_not.1 hc17)]
    rw [h2, h2, Classical.not_not.1 hc17]; exact ⟨_, _, _, _, _, _, rfl, rfl⟩

set_option maxHeartbeats 1000000 in
set_option maxRecDepth 100000 in
theorem prefix_any {σ : World} {F : List Res} {a : Option Addr} {c : Nat} {l : List Bs} (s : Bs) (h : Sl σ F encT 1 (.slice a l.length c) l) (hd : Inc l) (hl : l.length ≤ 1048576) :
    FnT Try.prog σ F 26 [.slice a l.length c, .string (str s)] [] (fun u ρ => u = .agg #[.int .i64 (lower l s), .int .i64 ((lower l s : Int) + prefN l s)] ∧ ρ = []) := by
  refine fn_of 32 Try.func26 rfl Try.ntmps26 rfl ?_
  have hle := h.i64
  have hlo := lower_le l s
  refine w_seq ?_
  refine w_region ?_
  refine wl_op [] rfl rfl rfl rfl (op_alloc (l := 4) tN40e) ?_
  rintro _ _ ⟨b4, rfl, rfl⟩
  refine wl_nil ?_
  refine st_tn ?_
  refine w_seq ?_
  refine w_region ?_
  refine wl_det rfl rfl rfl (op_move rfl) ?_
  refine wl_det rfl rfl rfl (op_move rfl) ?_
  refine wl_det rfl rfl rfl (op_fn Try.func24 rfl rfl rfl (lower_any _ (by first | exact Sl.app (by assumption) _ | exact Sl.app (Sl.app (by assumption) _) _) (by assumption) (by omega))) ?_
  refine wl_det rfl rfl rfl (op_build tB40e rfl rfl) ?_
  refine wl_op [] rfl rfl rfl rfl (op_alloc (l := 5) tN40e) ?_
  rintro _ _ ⟨b5, rfl, rfl⟩
  refine wl_op0 [5] rfl rfl rfl (op_store rfl rfl tZ40e (by rfl) (by rfl) (by exact Nat.le_of_ble_eq_true rfl)) ?_
  rintro _ _ ⟨rfl, rfl⟩
  refine wl_nil ?_
  refine st_tn ?_
  refine w_seq ?_
  refine w_region ?_
  refine wl_det rfl rfl rfl (op_fieldAddr (off := 0) rfl tF40_0e) ?_
  refine wl_det rfl rfl rfl (op_load1 rfl tO3e (Ent.lab (l := 5) rfl (says_cel 0))) ?_
  refine wl_det rfl rfl rfl (op_fieldAddr (off := 1) rfl tF40_1e) ?_
  refine wl_op0 [5] rfl rfl rfl (op_store rfl rfl tZ3e (by rfl) (by rfl) (by exact Nat.le_of_ble_eq_true rfl)) ?_
  rintro _ _ ⟨rfl, rfl⟩
  refine wl_nil ?_
  refine st_tn ?_
  refine w_seq ?_
  refine w_block ?_
  refine w_loopQ (X := Nat) (fun z => lower l s ≤ z ∧ z ≤ l.length ∧ ∀ j x, lower l s ≤ j → j < z → l[j]? = some x → hasP x s = true) (fun z => []) (fun z => [(5, cel b5 [.int .i64 (lower l s), .int .i64 (z)] 40)]) (fun z => l.length - z) (lower l s) [(0, _), (1, _), (4, _), (5, _)] [(4, _)] [5, 4] rfl (rfl) (.nil _) (.cons rfl (.cons rfl (.cons rfl (.cons rfl (.nil _))))) (by
      try dsimp only
      exact ⟨Nat.le_refl _, hlo, fun j x h1 h2 => by omega⟩) ?_
  rintro t ⟨h1, h2, h3⟩
  refine w_norm2 (by dsimp only [List.cons_append, List.nil_append]) (by dsimp only [List.cons_append, List.nil_append]) ?_
  try dsimp only at h1 h2 h3 ⊢
  refine w_seq ?_
  refine w_seq ?_
  refine w_region ?_
  refine wl_det rfl rfl rfl (op_fieldAddr (off := 1) rfl tF40_1e) ?_
  refine wl_det rfl rfl rfl (op_load1 rfl tO3e (Ent.lab (l := 5) rfl (says_cel 1))) ?_
  refine wl_det rfl rfl rfl (op_move rfl) ?_
  refine wl_det rfl rfl rfl (op_lenT rfl tS22e (Sl.ent (by first | exact Sl.app (by assumption) _ | exact Sl.app (Sl.app (by assumption) _) _))) ?_
  refine wl_det rfl rfl rfl (op_lss rfl rfl) ?_
  refine wl_det rfl rfl rfl (op_move rfl) ?_
  refine wl_gsplit (t := 18) rfl (fun hg18 => ?_) (fun hg18 => ?_)
  · -- 18 is True
    obtain ⟨x, hx⟩ := getE (l := l) (i := t) (by omega)
    refine wl_wanted_det rfl rfl rfl rfl rfl rfl rfl (op_move rfl) ?_
    refine wl_wanted_det rfl rfl rfl rfl rfl rfl rfl (op_fieldAddr (off := 1) rfl tF40_1e) ?_
    refine wl_wanted_det rfl rfl rfl rfl rfl rfl rfl (op_load1 rfl tO3e (Ent.lab (l := 5) rfl (says_cel 1))) ?_
    refine wl_wanted_det rfl rfl rfl rfl rfl rfl rfl (op_idx rfl rfl tS22e (Sl.ent (by first | exact Sl.app (by assumption) _ | exact Sl.app (Sl.app (by assumption) _) _)) (by omega)) ?_
    refine wl_wanted_det rfl rfl rfl rfl rfl rfl rfl (op_ldx rfl tO9e (by first | exact Sl.app (by assumption) _ | exact Sl.app (Sl.app (by assumption) _) _) (by assumption) (by rfl)) ?_
    refine wl_wanted_det rfl rfl rfl rfl rfl rfl rfl (op_move rfl) ?_
    refine wl_wanted_det rfl rfl rfl rfl rfl rfl rfl (op_fn Try.func50 rfl rfl rfl (hasP_any _ _)) ?_
    refine wl_det rfl rfl rfl (op_pick_t rfl rfl) ?_
    refine wl_nil ?_
    refine st_tn ?_
    refine w_cond_d rfl (fun hc26 => ?_) (fun hc26 => ?_)
    · -- c26.t
      refine w_skip ?_
      refine st_tn ?_
      refine w_block ?_
      refine w_region ?_
      refine wl_det rfl rfl rfl (op_fieldAddr (off := 1) rfl tF40_1e) ?_
      refine wl_det rfl rfl rfl (op_load1 rfl tO3e (Ent.lab (l := 5) rfl (says_cel 1))) ?_
      refine wl_det rfl rfl rfl (op_add' rfl rfl (by omega)) ?_
      refine wl_det rfl rfl rfl (op_fieldAddr (off := 1) rfl tF40_1e) ?_
      refine wl_op0 [5] rfl rfl rfl (op_store rfl rfl tZ3e (by rfl) (by rfl) (by exact Nat.le_of_ble_eq_true rfl)) ?_
      rintro _ _ ⟨rfl, rfl⟩
      refine wl_nil ?_
      refine st_bn ?_
      refine st_roundQ (x := t) (t + 1) [5, 4] rfl (rfl) (.nil _) (.cons rfl (.cons rfl (.cons rfl (.cons rfl (.nil _))))) (by
          try dsimp only
          exact ⟨by omega, by omega, fun j y h4 h5 hy => by
          rcases Nat.lt_or_eq_of_le (Nat.le_of_lt_succ h5) with h5 | h5
          · exact h3 j y h4 h5 hy
          · subst h5; rw [hx] at hy; simp at hy; subst hy; unfold hasP; rw [decide_eq_true hc26]⟩) (by
          try dsimp only
          omega) 
    · -- c26.f
      refine w_exit ?_
      refine st_te ?_
      refine st_te ?_
      refine st_be ?_
      refine st_tn ?_
      refine w_seq ?_
      have hk : lower l s + prefN l s = t := prefN_eq hd h1 h2 h3 (fun y hy => by first | (rw [hx] at hy; simp at hy; subst hy; unfold hasP; rw [decide_eq_false hc26]; simp; done) | (rw [List.getElem?_eq_none (by omega)] at hy; simp at hy))
      refine w_region ?_
      refine wl_det rfl rfl rfl (op_loadA rfl tA40e (Ent.lab (l := 5) rfl (says_cel 0)) (Nat.le_of_ble_eq_true rfl)) ?_
      refine wl_op0 [4] rfl rfl rfl (op_store rfl rfl tZ40e (by rfl) (by rfl) (by exact Nat.le_of_ble_eq_true rfl)) ?_
      rintro _ _ ⟨rfl, rfl⟩
      refine wl_nil ?_
      refine st_tn ?_
      refine w_ret ?_
      refine st_ret (vs := [_]) [] Try.results26 ⟨⟨_, rfl, Ent.mono (Ent.lab (l := 4) rfl (says_cel 0)) (fun _ h => run_load_agg tA40e h (Nat.le_of_ble_eq_true rfl))⟩, trivial⟩ rfl ?_
      refine ⟨_, rfl, ?_⟩
      exact ⟨by rw [show ((lower l s : Int) + prefN l s) = (t : Int) by omega]; rfl, rfl⟩
  · -- 18 is False
    refine wl_unwanted rfl rfl rfl rfl rfl rfl rfl rfl ?_
    refine wl_unwanted rfl rfl rfl rfl rfl rfl rfl rfl ?_
    refine wl_unwanted rfl rfl rfl rfl rfl rfl rfl rfl ?_
    refine wl_unwanted rfl rfl rfl rfl rfl rfl rfl rfl ?_
    refine wl_unwanted rfl rfl rfl rfl rfl rfl rfl rfl ?_
    refine wl_unwanted rfl rfl rfl rfl rfl rfl rfl rfl ?_
    refine wl_unwanted rfl rfl rfl rfl rfl rfl rfl rfl ?_
    refine wl_det rfl rfl rfl (op_pick_f rfl rfl) ?_
    refine wl_nil ?_
    refine st_tn ?_
    refine w_cond_f (rfl) ?_
    refine w_exit ?_
    refine st_te ?_
    refine st_te ?_
    refine st_be ?_
    refine st_tn ?_
    refine w_seq ?_
    have hk : lower l s + prefN l s = t := prefN_eq hd h1 h2 h3 (fun y hy => by first | (rw [hx] at hy; simp at hy; subst hy; unfold hasP; rw [decide_eq_false hc26]; simp; done) | (rw [List.getElem?_eq_none (by omega)] at hy; simp at hy))
    refine w_region ?_
    refine wl_det rfl rfl rfl (op_loadA rfl tA40e (Ent.lab (l := 5) rfl (says_cel 0)) (Nat.le_of_ble_eq_true rfl)) ?_
    refine wl_op0 [4] rfl rfl rfl (op_store rfl rfl tZ40e (by rfl) (by rfl) (by exact Nat.le_of_ble_eq_true rfl)) ?_
    rintro _ _ ⟨rfl, rfl⟩
    refine wl_nil ?_
    refine st_tn ?_
    refine w_ret ?_
    refine st_ret (vs := [_]) [] Try.results26 ⟨⟨_, rfl, Ent.mono (Ent.lab (l := 4) rfl (says_cel 0)) (fun _ h => run_load_agg tA40e h (Nat.le_of_ble_eq_true rfl))⟩, trivial⟩ rfl ?_
    refine ⟨_, rfl, ?_⟩
    exact ⟨by rw [show ((lower l s : Int) + prefN l s) = (t : Int) by omega]; rfl, rfl⟩

set_option maxHeartbeats 1000000 in
set_option maxRecDepth 100000 in
theorem rprefix_any {σ : World} {F : List Res} {a : Option Addr} {c : Nat} {l : List Bs} (s : Bs) (h : Sl σ F encT 1 (.slice a l.length c) l) (hl : l.length ≤ 1048576) :
    FnT Try.prog σ F 27 [.slice a l.length c, .string (str s)] [] (fun u ρ => u = .agg #[.int .i64 (lower l s), .int .i64 ((lower l s : Int) + prefN l s)] ∧ ρ = []) := by
  refine fn_of 43 Try.func27 rfl Try.ntmps27 rfl ?_
  have hle := h.i64
  have hlo := lower_le l s
  have hpn := prefN_le l s
  refine w_seq ?_
  refine w_region ?_
  refine wl_op [] rfl rfl rfl rfl (op_alloc (l := 4) tN40e) ?_
  rintro _ _ ⟨b4, rfl, rfl⟩
  refine wl_nil ?_
  refine st_tn ?_
  refine w_seq ?_
  refine w_region ?_
  refine wl_det rfl rfl rfl (op_move rfl) ?_
  refine wl_det rfl rfl rfl (op_move rfl) ?_
  refine wl_det rfl rfl rfl (op_fn Try.func25 rfl rfl rfl (rlower_any _ (by first | exact Sl.app (by assumption) _ | exact Sl.app (Sl.app (by assumption) _) _))) ?_
  refine wl_det rfl rfl rfl (op_assign rfl) ?_
  refine wl_nil ?_
  refine st_tn ?_
  refine w_seq ?_
  refine w_region ?_
  refine wl_det rfl rfl rfl (op_assign rfl) ?_
  refine wl_nil ?_
  refine st_tn ?_
  refine w_seq ?_
  refine w_seq ?_
  refine w_region ?_
  refine wl_det rfl rfl rfl (op_assign rfl) ?_
  refine wl_nil ?_
  refine st_tn ?_
  refine w_block ?_
  refine w_loopQ (X := Nat × Nat) (fun z => z.2 ≤ l.length ∧ z.1 = prefN (l.take z.2) s) (fun z => [(6, .int .i64 (z.1)), (7, .int .i64 (z.2))]) (fun _ => []) (fun z => l.length - z.2) ((0, 0)) [(0, _), (1, _), (4, _), (5, _)] [(4, _)] [4] rfl (rfl) (.cons rfl (.cons rfl (.nil _))) (.cons rfl (.cons rfl (.cons rfl (.cons rfl (.nil _))))) (by
      try dsimp only
      exact ⟨Nat.zero_le _, rfl⟩) ?_
  rintro ⟨k, i⟩ ⟨hi, hk⟩
  refine w_norm2 (by dsimp only [List.cons_append, List.nil_append]) (by dsimp only [List.cons_append, List.nil_append]) ?_
  try dsimp only at hi hk ⊢
  refine w_seq ?_
  refine w_seq ?_
  refine w_region ?_
  refine wl_det rfl rfl rfl (op_move rfl) ?_
  refine wl_det rfl rfl rfl (op_move rfl) ?_
  refine wl_det rfl rfl rfl (op_lenT rfl tS22e (Sl.ent (by first | exact Sl.app (by assumption) _ | exact Sl.app (Sl.app (by assumption) _) _))) ?_
  refine wl_det rfl rfl rfl (op_lss rfl rfl) ?_
  refine wl_nil ?_
  refine st_tn ?_
  refine w_cond_d rfl (fun hc14 => ?_) (fun hc14 => ?_)
  · -- c14.t
    obtain ⟨x, hx⟩ := getE (l := l) (i := i) (by omega)
    have hlt := ltE hx
    have hki := prefN_le (l.take i) s
    rw [← hk, List.length_take] at hki
    refine w_skip ?_
    refine st_tn ?_
    refine w_seq ?_
    refine w_block ?_
    refine w_seq ?_
    refine w_cutL [(35, .bool (decide (s.length ≤ x.length ∧ x.take s.length = s)))] [0, 1, 4, 5, 6, 7] [4] rfl (fun K' hK => ?_) ?_
    · -- cut r6
      refine w_region ?_
      refine wl_det rfl rfl rfl (op_move rfl) ?_
      refine wl_det rfl rfl rfl (op_move rfl) ?_
      refine wl_det rfl rfl rfl (op_idx rfl rfl tS22e (Sl.ent (by first | exact Sl.app (by assumption) _ | exact Sl.app (Sl.app (by assumption) _) _)) (by omega)) ?_
      refine wl_det rfl rfl rfl (op_ldx rfl tO9e (by first | exact Sl.app (by assumption) _ | exact Sl.app (Sl.app (by assumption) _) _) (by assumption) (by rfl)) ?_
      refine wl_det rfl rfl rfl (op_lenBs rfl Try.underlying9) ?_
      refine wl_det rfl rfl rfl (op_move rfl) ?_
      refine wl_det rfl rfl rfl (op_lenBs rfl Try.underlying9) ?_
      refine wl_det rfl rfl rfl (op_geq rfl rfl) ?_
      refine wl_det rfl rfl rfl (op_move rfl) ?_
      refine wl_gsplit (t := 25) rfl (fun hg25 => ?_) (fun hg25 => ?_)
      · -- 25 is True
        refine wl_wanted_det rfl rfl rfl rfl rfl rfl rfl (op_move rfl) ?_
        refine wl_wanted_det rfl rfl rfl rfl rfl rfl rfl (op_move rfl) ?_
        refine wl_wanted_det rfl rfl rfl rfl rfl rfl rfl (op_idx rfl rfl tS22e (Sl.ent (by first | exact Sl.app (by assumption) _ | exact Sl.app (Sl.app (by assumption) _) _)) (by omega)) ?_
        refine wl_wanted_det rfl rfl rfl rfl rfl rfl rfl (op_ldx rfl tO9e (by first | exact Sl.app (by assumption) _ | exact Sl.app (Sl.app (by assumption) _) _) (by assumption) (by rfl)) ?_
        refine wl_wanted_det rfl rfl rfl rfl rfl rfl rfl (op_move rfl) ?_
        refine wl_wanted_det rfl rfl rfl rfl rfl rfl rfl (op_lenBs rfl Try.underlying9) ?_
        refine wl_wanted_det rfl rfl rfl rfl rfl rfl rfl (op_sliceRBs rfl rfl Try.underlying9 (by omega)) ?_
        refine wl_wanted_det rfl rfl rfl rfl rfl rfl rfl (op_move rfl) ?_
        refine wl_wanted_det rfl rfl rfl rfl rfl rfl rfl (op_eqBs rfl rfl) ?_
        refine wl_det rfl rfl rfl (op_pick_t rfl rfl) ?_
        refine wl_nil ?_
        refine st_tn ?_
        exact cut_done1 [4] hK rfl (by first | (simp [*]; done) | (simp [*]; omega)) (by rfl) rfl rfl
      · -- 25 is False
        refine wl_unwanted rfl rfl rfl rfl rfl rfl rfl rfl ?_
        refine wl_unwanted rfl rfl rfl rfl rfl rfl rfl rfl ?_
        refine wl_unwanted rfl rfl rfl rfl rfl rfl rfl rfl ?_
        refine wl_unwanted rfl rfl rfl rfl rfl rfl rfl rfl ?_
        refine wl_unwanted rfl rfl rfl rfl rfl rfl rfl rfl ?_
        refine wl_unwanted rfl rfl rfl rfl rfl rfl rfl rfl ?_
        refine wl_unwanted rfl rfl rfl rfl rfl rfl rfl rfl ?_
        refine wl_unwanted rfl rfl rfl rfl rfl rfl rfl rfl ?_
        refine wl_unwanted rfl rfl rfl rfl rfl rfl rfl rfl ?_
        refine wl_det rfl rfl rfl (op_pick_f rfl rfl) ?_
        refine wl_nil ?_
        refine st_tn ?_
        exact cut_done1 [4] hK rfl (by first | (simp [*]; done) | (simp [*]; omega)) (by rfl) rfl rfl
    · -- behind r6
      show W _ _ _ _ _ [(35, _), (0, _), (1, _), (4, _), (5, _), (6, _), (7, _)] [(4, _)] _
      refine w_cond_d rfl (fun hc35 => ?_) (fun hc35 => ?_)
      · -- c35.t
        refine w_region ?_
        refine wl_det rfl rfl rfl (op_move rfl) ?_
        refine wl_det rfl rfl rfl (op_add' rfl rfl (by omega)) ?_
        refine wl_det rfl rfl rfl (op_assign rfl) ?_
        refine wl_nil ?_
        refine st_bn ?_
        refine st_tn ?_
        refine w_region ?_
        refine wl_det rfl rfl rfl (op_move rfl) ?_
        refine wl_det rfl rfl rfl (op_add' rfl rfl (by omega)) ?_
        refine wl_det rfl rfl rfl (op_assign rfl) ?_
        refine wl_nil ?_
        refine st_roundQ (x := (k, i)) ((_, i + 1)) [4] rfl (rfl) (.cons rfl (.cons rfl (.nil _))) (.cons rfl (.cons rfl (.cons rfl (.cons rfl (.nil _))))) (by
            try dsimp only
            refine ⟨by omega, ?_⟩
            rw [take_snoc hx, prefN_snoc, hk]
            first | (rw [if_pos (by unfold hasP; rw [decide_eq_true hc35])]; done) | (rw [if_pos (by unfold hasP; rw [decide_eq_true hc35])]) | (rw [if_neg (by unfold hasP; rw [decide_eq_false hc35]; simp)]; rfl)) (by
            try dsimp only
            omega) 
      · -- c35.f
        refine w_skip ?_
        refine st_bn ?_
        refine st_tn ?_
        refine w_region ?_
        refine wl_det rfl rfl rfl (op_move rfl) ?_
        refine wl_det rfl rfl rfl (op_add' rfl rfl (by omega)) ?_
        refine wl_det rfl rfl rfl (op_assign rfl) ?_
        refine wl_nil ?_
        refine st_roundQ (x := (k, i)) ((_, i + 1)) [4] rfl (rfl) (.cons rfl (.cons rfl (.nil _))) (.cons rfl (.cons rfl (.cons rfl (.cons rfl (.nil _))))) (by
            try dsimp only
            refine ⟨by omega, ?_⟩
            rw [take_snoc hx, prefN_snoc, hk]
            first | (rw [if_pos (by unfold hasP; rw [decide_eq_true hc35])]; done) | (rw [if_pos (by unfold hasP; rw [decide_eq_true hc35])]) | (rw [if_neg (by unfold hasP; rw [decide_eq_false hc35]; simp)]; rfl)) (by
            try dsimp only
            omega) 
  · -- c14.f
    refine w_exit ?_
    refine st_te ?_
    refine st_te ?_
    refine st_be ?_
    refine st_tn ?_
    refine w_seq ?_
    rw [take_all (by omega)] at hk
    subst hk
    refine w_region ?_
    refine wl_det rfl rfl rfl (op_move rfl) ?_
    refine wl_det rfl rfl rfl (op_move rfl) ?_
    refine wl_det rfl rfl rfl (op_move rfl) ?_
    refine wl_det rfl rfl rfl (op_add' rfl rfl (by omega)) ?_
    refine wl_det rfl rfl rfl (op_build tB40e rfl rfl) ?_
    refine wl_op0 [4] rfl rfl rfl (op_store rfl rfl tZ40e (by rfl) (by rfl) (by exact Nat.le_of_ble_eq_true rfl)) ?_
    rintro _ _ ⟨rfl, rfl⟩
    refine wl_nil ?_
    refine st_tn ?_
    refine w_ret ?_
    refine st_ret (vs := [_]) [] Try.results27 ⟨⟨_, rfl, Ent.mono (Ent.lab (l := 4) rfl (says_cel 0)) (fun _ h => run_load_agg tA40e h (Nat.le_of_ble_eq_true rfl))⟩, trivial⟩ rfl ?_
    refine ⟨_, rfl, ?_⟩
    exact ⟨rfl, rfl⟩

end Go.Proofs.Ytbpihhaiechnbaa
