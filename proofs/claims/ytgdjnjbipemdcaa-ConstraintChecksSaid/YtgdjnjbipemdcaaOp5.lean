/- A family of owned lists as one resource. Contracts: Components, sameLists; the law Checks (layer 9). The law Checks (layer 9). Conditions: none. -/
import Derived.Test.YtgdjnjbipemdcaaSlM
import Derived.Test.YtgdjnjbipemdcaaOp
namespace Go.SL
open Go Go.RowKit
set_option linter.unusedSimpArgs false
set_option linter.unusedVariables false
def uniM (m1 m2 : Mem) : Mem := fun i => match m1 i with
  | some o => some o
  | none => m2 i
/-- Two resources as one. -/
def sepR (r1 r2 : Res) : Res := fun m => ∃ m1 m2, r1 m1 ∧ r2 m2 ∧ MDisj m1 m2 ∧ m = uniM m1 m2
def empR : Res := fun m => m = fun _ => none
theorem uni_l {m1 m2 : Mem} {w : World} (h : MSub (uniM m1 m2) w) : MSub m1 w := fun i o hi => h i o (by unfold uniM; rw [hi])
theorem uni_r {m1 m2 : Mem} {w : World} (hd : MDisj m1 m2) (h : MSub (uniM m1 m2) w) : MSub m2 w := fun i o hi => h i o (by
  unfold uniM
  rcases hd i with h1 | h1
  · rw [h1]; exact hi
  · rw [h1] at hi; simp at hi)
theorem Own.merge {σ : World} {r1 r2 : Res} {F : List Res} {w : World} (h : Own σ (r1 :: r2 :: F) w) : Own σ (sepR r1 r2 :: F) w := by
  obtain ⟨h1, h2, h3, l, hl, hm, hd⟩ := h
  match l, hl with
  | p :: q :: l, hl =>
    simp only [List.map_cons, List.cons.injEq] at hl
    obtain ⟨rfl, rfl, hl2⟩ := hl
    obtain ⟨d1, d2⟩ := List.pairwise_cons.1 hd
    obtain ⟨d3, d4⟩ := List.pairwise_cons.1 d2
    obtain ⟨a1, a2⟩ := hm p (by simp)
    obtain ⟨b1, b2⟩ := hm q (by simp)
    refine ⟨h1, h2, h3, (sepR p.1 q.1, uniM p.2 q.2) :: l, by simp [hl2], fun x hx => ?_, List.pairwise_cons.2 ⟨fun x hx i => ?_, d4⟩⟩
    · rcases List.mem_cons.1 hx with rfl | hx
      · refine ⟨⟨p.2, q.2, a1, b1, d1 q (by simp), rfl⟩, fun i o hi => ?_⟩
        change uniM p.2 q.2 i = some o at hi
        unfold uniM at hi
        cases hp : p.2 i with
        | some o' => rw [hp] at hi; simp only [Option.some.injEq] at hi; subst hi; exact a2 i _ hp
        | none => rw [hp] at hi; exact b2 i o hi
      · exact hm x (by simp [hx])
    · rcases d1 x (by simp [hx]) i with e1 | e1
      · rcases d3 x hx i with e2 | e2
        · left; show uniM p.2 q.2 i = none; unfold uniM; rw [e1]; exact e2
        · exact .inr e2
      · exact .inr e1
section
variable {P : Program} {σ : World} {n : Nat} {F : List Res} {e : Env} {R A B : RL} {ops : Array Oper} {rest : List Oper} {Q : Exit → Act → World → Prop} {K : Act → World → Prop}
theorem wl_merge (l1 l2 : Nat) {r1 r2 : Res} (ht : takeL R [l1, l2] = some ([(l1, r1), (l2, r2)], B)) (k : WL P σ n ops Q K rest e ((l1, sepR r2 r1) :: B) F) : WL P σ n ops Q K rest e R F := fun a w hr ho => by
  have h1 : Own σ (r1 :: r2 :: (rs B ++ F)) w := by simpa [rs] using ho.take ht
  exact k a w hr ((h1.perm (List.Perm.swap r2 r1 _)).merge)
end
end Go.SL
namespace Go.Proofs.Ytgdjnjbipemdcaa
open Go Go.SL Go.RowKit Go.ConM
set_option linter.unusedVariables false
set_option linter.unusedSimpArgs false
theorem tL67_1x : zerosB Try.prog 67 26 1 1 = some [Value.slice none 0 0] := by kernel_rfl
theorem tMixx : Try.prog.follows .mixedOrders = true := by kernel_rfl
theorem tN4x : (Try.prog.info? 4).bind (·.zero) = some (Value.bool false) := by kernel_rfl
theorem tO26x : oneB Try.prog 26 = true := by kernel_rfl
theorem tO3x : oneB Try.prog 3 = true := by kernel_rfl
theorem tP26x : appB Try.prog 26 3 1 8 = true := by kernel_rfl
theorem tP67x : appB Try.prog 67 26 1 24 = true := by kernel_rfl
theorem tQ90x : mapB Try.prog 90 3 4 KZ.desc := ⟨Try.underlying90, Try.underlying3⟩
theorem tS26x : sliceB Try.prog 26 3 1 = true := by kernel_rfl
theorem tS67x : sliceB Try.prog 67 26 1 = true := by kernel_rfl

def famZ : List Hd → Res
  | [] => empR
  | p :: ss => sepR (slW 3 SL.encZ 1 (hv p) p.2.2) (famZ ss)
/-- The lists behind the headers. -/
def famS (ss : List Hd) : Res := famZ ss.reverse
theorem famS_snoc (ss : List Hd) (p : Hd) : famS (ss ++ [p]) = sepR (slW 3 SL.encZ 1 (hv p) p.2.2) (famS ss) := by
  unfold famS; rw [List.reverse_append]; rfl
theorem fam_says : ∀ {ss : List Hd} {p : Hd}, p ∈ ss → Says (famZ ss) (slT SL.encZ 1 (hv p) p.2.2)
  | [], p, h => by simp at h
  | q :: ss, p, h => fun m w hm hs => by
    obtain ⟨m1, m2, h1, h2, hd, rfl⟩ := hm
    rcases List.mem_cons.1 h with rfl | h
    · exact says_slO m1 w h1 (uni_l hs)
    · exact fam_says h m2 w h2 (uni_r hd hs)
theorem fam_sl {σ : World} {F : List Res} {R : RL} {ss : List Hd} {p : Hd} {l : Nat} (h : getL R l = some (famS ss)) (hp : p ∈ ss) (hl : p.2.2.length ≤ maxLen) : Sl σ (rs R ++ F) SL.encZ 1 (hv p) p.2.2 := ⟨Ent.lab h (fam_says (List.mem_reverse.2 hp)), hl⟩
theorem FnT.relab {P : Program} {σ : World} {F : List Res} {f : Nat} {args : List Value} {R R' : RL} {S S' : Value → RL → Prop} (h : FnT P σ F f args R S) (hr : rs R = rs R') (hS : ∀ u ρ, S u ρ → ∃ ρ', S' u ρ' ∧ rs ρ = rs ρ') : FnT P σ F f args R' S' :=
  fun w ho => (h w (by rw [hr]; exact ho)).mono fun _ _ ⟨v, ρ, h1, h2, h3⟩ => by
    obtain ⟨ρ', h4, h5⟩ := hS _ _ h2
    exact ⟨v, ρ', h1, h4, by rw [← h5]; exact h3⟩
section
variable {P : Program} {σ : World} {n : Nat} {F : List Res} {e : Env} {R A B : RL} {ops : Array Oper} {rest : List Oper} {Q : Exit → Act → World → Prop} {K : Act → World → Prop}
theorem wl_fam (l1 l2 : Nat) {ss : List Hd} (p : Hd) (ht : takeL R [l1, l2] = some ([(l1, famS ss), (l2, slW 3 SL.encZ 1 (hv p) p.2.2)], B)) (k : WL P σ n ops Q K rest e ((l1, famS (ss ++ [p])) :: B) F) : WL P σ n ops Q K rest e R F :=
  wl_merge l1 l2 ht (by rw [famS_snoc] at k; exact k)
end
/-- A component, in order. -/
noncomputable def compL (l : List Con) (n : Int) : List Int := srt (compX l n)
noncomputable def cmpsTo (l : List Con) : Nat → List (List Int)
  | 0 => []
  | i + 1 => if (nodes l).getD i 0 ∈ (cmpsTo l i).flatten then cmpsTo l i else cmpsTo l i ++ [compL l ((nodes l).getD i 0)]
noncomputable def cmpsL (l : List Con) : List (List Int) := cmpsTo l (nodes l).length
theorem cmps_in {l : List Con} {i : Nat} {n : Int} (hn : (nodes l)[i]? = some n) (h : n ∈ (cmpsTo l i).flatten) : cmpsTo l (i + 1) = cmpsTo l i := by
  have := getD_of (d := 0) hn
  show (if _ then _ else _) = _; rw [this, if_pos h]
theorem cmps_out {l : List Con} {i : Nat} {n : Int} (hn : (nodes l)[i]? = some n) (h : ¬ n ∈ (cmpsTo l i).flatten) : cmpsTo l (i + 1) = cmpsTo l i ++ [compL l n] := by
  have := getD_of (d := 0) hn
  show (if _ then _ else _) = _; rw [this, if_neg h]
theorem mem_compL {l : List Con} {n x : Int} : x ∈ compL l n ↔ x ∈ compX l n := mem_srt
theorem compL_len (l : List Con) (n : Int) : (compL l n).length = (compX l n).length := length_srt _
theorem comp_srt {l : List Con} {n : Int} {m : List (Int × Bool)} (h : Comp l n m) : srt (m.map Prod.fst) = compL l n :=
  SS.ext (srt_ss h.nod) (srt_ss (compX_spec l n).nod) fun x => by rw [mem_srt, mem_compL]; exact comp_iff h x
theorem comp_ss {l : List Con} {n : Int} {S : List Int} (h : SS S) (hm : ∀ x, x ∈ S ↔ x ∈ compX l n) : S = compL l n := SS.ext h (srt_ss (compX_spec l n).nod) fun x => by rw [mem_compL]; exact hm x
theorem compX_nodes {l : List Con} {n : Int} (hn : n ∈ nodes l) : ∀ k ∈ compX l n, k ∈ nodes l :=
  compX_least (P := fun k => k ∈ nodes l) (fun c hc => ⟨fun _ => mem_nodes.2 ⟨c, hc, .inr rfl⟩, fun _ => mem_nodes.2 ⟨c, hc, .inl rfl⟩⟩) hn
theorem node_b {l : List Con} (hb : InB l) {k : Int} (h : k ∈ nodes l) : I64 k := by
  obtain ⟨c, hc, h⟩ := mem_nodes.1 h
  have := hb c hc
  rcases h with h | h <;> rw [h]
  · exact this.1
  · exact this.2.1
theorem cmps_len (l : List Con) : ∀ i, (cmpsTo l i).length ≤ i
  | 0 => Nat.le_refl _
  | i + 1 => by
    have := cmps_len l i
    show (if _ then _ else _ : List (List Int)).length ≤ _
    split
    · omega
    · rw [List.length_append, List.length_singleton]; omega
theorem cmps_flat (l : List Con) : ∀ i, (cmpsTo l i).flatten.length ≤ i * (2 * l.length + 1)
  | 0 => by simp [cmpsTo]
  | i + 1 => by
    have h1 := cmps_flat l i
    have h2 := compX_len l ((nodes l).getD i 0)
    have h3 := compL_len l ((nodes l).getD i 0)
    rw [Nat.add_mul]
    show (if _ then _ else _ : List (List Int)).flatten.length ≤ _
    split
    · omega
    · rw [List.flatten_append, List.length_append, List.flatten_cons, List.flatten_nil, List.append_nil]; omega
theorem copied_keys {d m d' : List (Int × Bool)} (h : Copied d m d') (k : Int) : k ∈ d'.map Prod.fst ↔ k ∈ m.map Prod.fst ∨ k ∈ d.map Prod.fst := by
  have h2 := h.2 k
  rw [← look_mem (kt := KZ), ← look_mem (kt := KZ) (l := m), ← look_mem (kt := KZ) (l := d), h2]
  cases lookK KZ m k <;> simp
theorem copied_tru {d m d' : List (Int × Bool)} (h : Copied d m d') (hd : Tru d) (hm : Tru m) : Tru d' := fun p hp => by
  have h1 := look_get (kt := KZ) h.1 hp
  rw [h.2] at h1
  cases hq : lookK KZ m p.1 with
  | some v =>
    rw [hq] at h1; simp only [Option.some_or, Option.some.injEq] at h1
    rw [← h1]; exact hm _ (look_of hq)
  | none =>
    rw [hq] at h1; simp only [Option.none_or] at h1
    exact hd _ (look_of h1)
/-- Lists of nodes. -/
def NewF (ls : List (List Int)) (l1 l2 : Nat) (u : Value) (ρ : RL) : Prop := ∃ (ss : List Hd) (a : Option Addr) (c : Nat), ss.map (fun p => p.2.2) = ls ∧ u = .slice a ss.length c ∧ ρ = [(l1, slW 26 encH 1 (.slice a ss.length c) ss), (l2, famS ss)]
set_option maxHeartbeats 2000000 in
set_option maxRecDepth 100000 in
theorem comps_any {σ : World} {F : List Res} {a : Option Addr} {c : Nat} {l : List Con} (l1 l2 : Nat) (h : Sl σ F encC 3 (.slice a l.length c) l) (hb : InB l) (hl : l.length ≤ 1024) :
    FnT Try.prog σ F 38 [.slice a l.length c] [] (NewF (cmpsL l) l1 l2) := by
  refine fn_of 33 Try.func38 rfl Try.ntmps38 rfl ?_
  have hle := h.i64
  have hnl := len_nodes l
  refine w_seq ?_
  refine w_region ?_
  refine wl_det rfl rfl rfl (op_assign rfl) ?_
  refine wl_nil ?_
  refine st_tn ?_
  refine w_seq ?_
  refine w_emp 701 (r := famS []) (show famZ [] _ from rfl) ?_
  refine w_region ?_
  refine wl_det rfl rfl rfl (op_assign rfl) ?_
  refine wl_nil ?_
  refine st_tn ?_
  refine w_seq ?_
  refine w_region ?_
  refine wl_op [] rfl rfl rfl rfl (op_makeMap (kt := KZ) (encV := encVB) (lab := 8)) ?_
  rintro _ _ ⟨b8, rfl, rfl⟩
  refine wl_det rfl rfl rfl (op_assign rfl) ?_
  refine wl_nil ?_
  refine st_tn ?_
  refine w_seq ?_
  refine w_seq ?_
  refine w_region ?_
  refine wl_det rfl rfl rfl (op_move rfl) ?_
  refine wl_op [] rfl rfl rfl rfl (op_fn Try.func36 rfl rfl rfl (nodes_any 10 (by first | exact Sl.app (by assumption) _ | exact Sl.app (Sl.app (by assumption) _) _) (by assumption) (by omega))) ?_
  rintro _ _ ⟨a10, c10, rfl, rfl⟩
  refine wl_det rfl rfl rfl (op_lenT rfl tS26x (Sl.ent (Sl.lab 10 rfl (by unfold maxLen; omega)))) ?_
  refine wl_det rfl rfl rfl (op_move rfl) ?_
  refine wl_nil ?_
  refine st_tn ?_
  refine w_block ?_
  refine w_emp 3 (slO_nil 26 1) ?_
  refine w_loopQ (X := List Hd × Option Addr × Nat × Nat × List (Int × Bool)) (fun z => z.2.2.2.1 ≤ (nodes l).length ∧ z.1.map (fun p => p.2.2) = cmpsTo l z.2.2.2.1 ∧ Tru z.2.2.2.2 ∧ (z.2.2.2.2.map Prod.fst).Nodup ∧ (∀ k, k ∈ z.2.2.2.2.map Prod.fst ↔ k ∈ (cmpsTo l z.2.2.2.1).flatten)) (fun z => [(3, .slice (z.2.1) (z.1).length (z.2.2.1)), (12, .int .i64 (z.2.2.2.1))]) (fun z => [(3, slW 26 encH 1 (.slice (z.2.1) (z.1).length (z.2.2.1)) (z.1)), (8, mp KZ encVB b8 (z.2.2.2.2)), (701, famS (z.1))]) (fun z => (nodes l).length - z.2.2.2.1) (([], none, 0, 0, [])) [(0, _), (4, _), (10, _), (11, _)] [(10, _)] [3, 8, 701, 10] rfl (rfl) (.cons rfl (.cons rfl (.nil _))) (.cons rfl (.cons rfl (.cons rfl (.cons rfl (.nil _))))) (by
      try dsimp only
      exact ⟨Nat.zero_le _, rfl, by simp [Tru], by simp, by simp [cmpsTo]⟩) ?_
  rintro ⟨out, a_out, c_out, i, D⟩ ⟨hi, ho, hDt, hDn, hDk⟩
  refine w_norm2 (by dsimp only [List.cons_append, List.nil_append]) (by dsimp only [List.cons_append, List.nil_append]) ?_
  try dsimp only at hi ho hDt hDn hDk ⊢
  refine w_seq ?_
  refine w_region ?_
  refine wl_det rfl rfl rfl (op_lss rfl rfl) ?_
  refine wl_nil ?_
  refine st_tn ?_
  refine w_seq ?_
  refine w_cond_d rfl (fun hc13 => ?_) (fun hc13 => ?_)
  · -- c13.t
    obtain ⟨n, hn⟩ := getE (l := nodes l) (i := i) (by omega)
    have hnm := List.mem_of_getElem? hn
    have hcl := compX_len l n
    have hol : out.length ≤ i := by have := congrArg List.length ho; rw [List.length_map] at this; rw [this]; exact cmps_len l i
    refine w_skip ?_
    refine st_tn ?_
    refine w_seq ?_
    refine w_block ?_
    refine w_seq ?_
    refine w_region ?_
    refine wl_det rfl rfl rfl (op_idx rfl rfl tS26x (Sl.ent (Sl.lab 10 rfl (by unfold maxLen; omega))) (by omega)) ?_
    refine wl_det rfl rfl rfl (op_ldx rfl tO3x (Sl.lab 10 rfl (by unfold maxLen; omega)) (by assumption) (by rfl)) ?_
    refine wl_det rfl rfl rfl (op_assign rfl) ?_
    refine wl_nil ?_
    refine st_tn ?_
    refine w_seq ?_
    refine w_seq ?_
    refine w_region ?_
    refine wl_det rfl rfl rfl (op_move rfl) ?_
    refine wl_det rfl rfl rfl (op_move rfl) ?_
    refine wl_det rfl rfl rfl (op_val (v' := .bool (decide (n ∈ D.map Prod.fst))) (by exact tru_look hDt n) (op_lookup (kt := KZ) (encV := encVB) rfl rfl tQ90x tN4x (Mr.lab 8 rfl))) ?_
    refine wl_nil ?_
    refine st_tn ?_
    refine w_cond_d rfl (fun hc18 => ?_) (fun hc18 => ?_)
    · -- c18.t
      refine w_exit ?_
      refine st_te ?_
      refine st_be ?_
      refine st_tn ?_
      refine w_region ?_
      refine wl_det rfl rfl rfl (op_add' rfl rfl (by omega)) ?_
      refine wl_det rfl rfl rfl (op_move rfl) ?_
      refine wl_nil ?_
      refine st_roundQ (x := (out, a_out, c_out, i, D)) ((out, _, _, i + 1, D)) [3, 8, 701, 10] rfl (rfl) (.cons rfl (.cons rfl (.nil _))) (.cons rfl (.cons rfl (.cons rfl (.cons rfl (.nil _))))) (by
          try dsimp only
          have e := cmps_in hn ((hDk n).1 hc18)
          exact ⟨by omega, by rw [e]; exact ho, hDt, hDn, fun k => by rw [e]; exact hDk k⟩) (by
          try dsimp only
          omega) 
    · -- c18.f
      refine w_skip ?_
      refine st_tn ?_
      refine w_seq ?_
      refine w_region ?_
      refine wl_det rfl rfl rfl (op_move rfl) ?_
      refine wl_det rfl rfl rfl (op_move rfl) ?_
      refine wl_op [] rfl rfl rfl rfl (op_fn Try.func62 rfl rfl rfl (comp_any 21 _ (by first | exact Sl.app (by assumption) _ | exact Sl.app (Sl.app (by assumption) _) _) (by omega))) ?_
      rintro _ _ ⟨b21, m21, hm21, rfl, rfl⟩
      refine wl_det rfl rfl rfl (op_assign rfl) ?_
      refine wl_nil ?_
      refine st_tn ?_
      refine w_seq ?_
      refine w_region ?_
      refine wl_det rfl rfl rfl (op_move rfl) ?_
      refine wl_det rfl rfl rfl (op_move rfl) ?_
      refine wl_op [8, 21] rfl rfl rfl rfl (op_fn Try.func63 rfl rfl rfl (FnT.relab (S' := fun u ρ => ∃ d', Copied D m21 d' ∧ u = .tuple #[] ∧ ρ = [(8, mp KZ encVB b8 d'), (21, mp KZ encVB b21 m21)]) (copyB hDn) rfl (by rintro u ρ ⟨d', h1, h2, rfl⟩; exact ⟨_, ⟨d', h1, h2, rfl⟩, rfl⟩))) ?_
      rintro _ _ ⟨D24, hD24, rfl, rfl⟩
      refine wl_nil ?_
      refine st_tn ?_
      have hml : m21.length = (compX l n).length := by
        have := congrArg List.length (comp_srt hm21)
        rw [length_srt, List.length_map, compL_len] at this; exact this
      refine w_region ?_
      refine wl_det rfl rfl rfl (op_move rfl) ?_
      refine wl_det rfl rfl rfl (op_move rfl) ?_
      refine wl_op [] rfl rfl rfl rfl (op_fn Try.func61 rfl rfl rfl (keysB 27)) ?_
      rintro _ _ ⟨b27, rfl, rfl⟩
      refine wl_op [] rfl rfl rfl rfl (op_fn Try.func60 rfl rfl rfl (sortedB 28 (Ent.lab (l := 27) rfl (says_cel 0)) (Mr.lab 21 rfl) (fun p hp => node_b hb (compX_nodes hnm _ ((comp_iff hm21 p.1).1 (List.mem_map.2 ⟨p, hp, rfl⟩)))) (by omega))) ?_
      rintro _ _ ⟨a28, c28, rfl, rfl⟩
      refine wl_op [] rfl rfl rfl rfl (op_buildSlice (enc := encH) (l := [((a28, c28, srt (m21.map Prod.fst)) : Hd)]) (lab := 29) tL67_1x rfl rfl (fun _ => rfl) rfl) ?_
      rintro _ _ ⟨a29, c29, rfl, rfl⟩
      refine wl_op [3] rfl rfl rfl rfl (op_append (lab := 3) (lab' := 30) rfl rfl tP67x enc1H (Sl.lab 29 rfl (by simp [maxLen])) (by simp; omega) (by simp; omega)) ?_
      rintro _ _ ⟨a30, c30, rfl, rfl⟩
      refine wl_det rfl rfl rfl (op_assign rfl) ?_
      refine wl_fam 701 28 (a28, c28, srt (m21.map Prod.fst)) rfl ?_
      refine wl_nil ?_
      refine st_bn ?_
      refine st_tn ?_
      refine w_region ?_
      refine wl_det rfl rfl rfl (op_add' rfl rfl (by omega)) ?_
      refine wl_det rfl rfl rfl (op_move rfl) ?_
      refine wl_nil ?_
      refine st_roundQ (x := (out, a_out, c_out, i, D)) ((out ++ [((a28, c28, srt (m21.map Prod.fst)) : Hd)], _, _, i + 1, D24)) [30, 8, 701, 10] rfl (rfl) (.cons rfl (.cons rfl (.nil _))) (.cons rfl (.cons rfl (.cons rfl (.cons rfl (.nil _))))) (by
          try dsimp only
          have e := cmps_out hn (fun hh => hc18 ((hDk n).2 hh))
          refine ⟨by omega, ?_, copied_tru hD24 hDt hm21.tru, hD24.1, fun k => ?_⟩
          · rw [e, List.map_append, ho]; show _ ++ [srt (m21.map Prod.fst)] = _; rw [comp_srt hm21]
          · rw [copied_keys hD24, hDk, e, List.flatten_append, List.mem_append]
            simp only [List.flatten_cons, List.flatten_nil, List.append_nil]
            rw [mem_compL, comp_iff hm21, or_comm]) (by
          try dsimp only
          omega) 
  · -- c13.f
    refine w_exit ?_
    refine st_te ?_
    refine st_te ?_
    refine st_be ?_
    refine st_tn ?_
    refine w_seq ?_
    refine w_region ?_
    refine wl_det rfl rfl rfl (op_move rfl) ?_
    refine wl_det rfl rfl rfl (op_assign rfl) ?_
    refine wl_nil ?_
    refine st_tn ?_
    refine w_ret ?_
    refine st_ret (vs := [_]) [3, 701] Try.results38 ⟨rfl, trivial⟩ rfl ?_
    refine ⟨[(l1, _), (l2, _)], rfl, ?_⟩
    refine ⟨out, a_out, c_out, ?_, rfl, rfl⟩
    rw [ho]; unfold cmpsL; rw [show i = (nodes l).length by omega]

set_option maxHeartbeats 2000000 in
set_option maxRecDepth 100000 in
theorem rcomps_any {σ : World} {F : List Res} {a : Option Addr} {c : Nat} {l : List Con} (l1 l2 : Nat) (h : Sl σ F encC 3 (.slice a l.length c) l) (hb : InB l) (hl : l.length ≤ 1024) :
    FnT Try.prog σ F 39 [.slice a l.length c] [] (NewF (cmpsL l) l1 l2) := by
  refine fn_of 37 Try.func39 rfl Try.ntmps39 rfl ?_
  have hle := h.i64
  have hnl := len_nodes l
  refine w_seq ?_
  refine w_region ?_
  refine wl_det rfl rfl rfl (op_assign rfl) ?_
  refine wl_nil ?_
  refine st_tn ?_
  refine w_seq ?_
  refine w_emp 701 (r := famS []) (show famZ [] _ from rfl) ?_
  refine w_region ?_
  refine wl_det rfl rfl rfl (op_assign rfl) ?_
  refine wl_nil ?_
  refine st_tn ?_
  refine w_seq ?_
  refine w_region ?_
  refine wl_det rfl rfl rfl (op_assign rfl) ?_
  refine wl_nil ?_
  refine st_tn ?_
  refine w_seq ?_
  refine w_region ?_
  refine wl_det rfl rfl rfl (op_move rfl) ?_
  refine wl_op [] rfl rfl rfl rfl (op_fn Try.func32 rfl rfl rfl (rnodes_any 9 (by first | exact Sl.app (by assumption) _ | exact Sl.app (Sl.app (by assumption) _) _) (by assumption) (by omega))) ?_
  rintro _ _ ⟨a9, c9, rfl, rfl⟩
  refine wl_det rfl rfl rfl (op_assign rfl) ?_
  refine wl_nil ?_
  refine st_tn ?_
  refine w_seq ?_
  refine w_seq ?_
  refine w_region ?_
  refine wl_det rfl rfl rfl (op_assign rfl) ?_
  refine wl_nil ?_
  refine st_tn ?_
  refine w_block ?_
  refine w_emp 3 (slO_nil 26 1) ?_
  refine w_emp 4 (slO_nil 3 1) ?_
  refine w_loopQ (X := List Hd × Option Addr × Nat × List Int × Option Addr × Nat × Nat) (fun z => z.2.2.2.2.2.2 ≤ (nodes l).length ∧ z.1.map (fun p => p.2.2) = cmpsTo l z.2.2.2.2.2.2 ∧ z.2.2.2.1 = (cmpsTo l z.2.2.2.2.2.2).flatten) (fun z => [(3, .slice (z.2.1) (z.1).length (z.2.2.1)), (4, .slice (z.2.2.2.2.1) (z.2.2.2.1).length (z.2.2.2.2.2.1)), (6, .int .i64 (z.2.2.2.2.2.2))]) (fun z => [(3, slW 26 encH 1 (.slice (z.2.1) (z.1).length (z.2.2.1)) (z.1)), (4, slW 3 SL.encZ 1 (.slice (z.2.2.2.2.1) (z.2.2.2.1).length (z.2.2.2.2.2.1)) (z.2.2.2.1)), (701, famS (z.1))]) (fun z => (nodes l).length - z.2.2.2.2.2.2) (([], none, 0, [], none, 0, 0)) [(0, _), (5, _)] [(9, _)] [3, 4, 701, 9] rfl (rfl) (.cons rfl (.cons rfl (.cons rfl (.nil _)))) (.cons rfl (.cons rfl (.nil _))) (by
      try dsimp only
      exact ⟨Nat.zero_le _, rfl, rfl⟩) ?_
  rintro ⟨out, a_out, c_out, seen, a_seen, c_seen, i⟩ ⟨hi, ho, hs⟩
  refine w_norm2 (by dsimp only [List.cons_append, List.nil_append]) (by dsimp only [List.cons_append, List.nil_append]) ?_
  try dsimp only at hi ho hs ⊢
  refine w_seq ?_
  refine w_seq ?_
  refine w_region ?_
  refine wl_det rfl rfl rfl (op_move rfl) ?_
  refine wl_det rfl rfl rfl (op_move rfl) ?_
  refine wl_det rfl rfl rfl (op_lenT rfl tS26x (Sl.ent (Sl.lab 9 rfl (by unfold maxLen; omega)))) ?_
  refine wl_det rfl rfl rfl (op_lss rfl rfl) ?_
  refine wl_nil ?_
  refine st_tn ?_
  refine w_cond_d rfl (fun hc13 => ?_) (fun hc13 => ?_)
  · -- c13.t
    obtain ⟨n, hn⟩ := getE (l := nodes l) (i := i) (by omega)
    have hnm := List.mem_of_getElem? hn
    have hcl := compX_len l n
    have hol : out.length ≤ i := by have := congrArg List.length ho; rw [List.length_map] at this; rw [this]; exact cmps_len l i
    have hsl : seen.length ≤ 2048 * 2049 := by
      rw [hs]
      refine Nat.le_trans (cmps_flat l i) (Nat.mul_le_mul (by omega) (by omega))
    refine w_skip ?_
    refine st_tn ?_
    refine w_seq ?_
    refine w_block ?_
    refine w_seq ?_
    refine w_region ?_
    refine wl_det rfl rfl rfl (op_move rfl) ?_
    refine wl_det rfl rfl rfl (op_move rfl) ?_
    refine wl_det rfl rfl rfl (op_move rfl) ?_
    refine wl_det rfl rfl rfl (op_idx rfl rfl tS26x (Sl.ent (Sl.lab 9 rfl (by unfold maxLen; omega))) (by omega)) ?_
    refine wl_det rfl rfl rfl (op_ldx rfl tO3x (Sl.lab 9 rfl (by unfold maxLen; omega)) (by assumption) (by rfl)) ?_
    refine wl_det rfl rfl rfl (op_fn Try.func50 rfl rfl rfl (has_any _ (Sl.lab 4 rfl (by unfold maxLen; omega)))) ?_
    refine wl_det rfl rfl rfl (op_not_d rfl) ?_
    refine wl_nil ?_
    refine st_tn ?_
    refine w_cond_d rfl (fun hc22 => ?_) (fun hc22 => ?_)
    · -- c22.t
      refine w_seq ?_
      refine w_region ?_
      refine wl_det rfl rfl rfl (op_move rfl) ?_
      refine wl_det rfl rfl rfl (op_move rfl) ?_
      refine wl_det rfl rfl rfl (op_move rfl) ?_
      refine wl_det rfl rfl rfl (op_idx rfl rfl tS26x (Sl.ent (Sl.lab 9 rfl (by unfold maxLen; omega))) (by omega)) ?_
      refine wl_det rfl rfl rfl (op_ldx rfl tO3x (Sl.lab 9 rfl (by unfold maxLen; omega)) (by assumption) (by rfl)) ?_
      refine wl_op [] rfl rfl rfl rfl (op_fn Try.func42 rfl rfl rfl (rcomp_any 28 _ (Sl.app h _) (by omega))) ?_
      rintro _ _ ⟨S28, a28, c28, hss28, hsm28, rfl, rfl⟩
      refine wl_det rfl rfl rfl (op_assign rfl) ?_
      refine wl_nil ?_
      refine st_tn ?_
      have hS := comp_ss hss28 hsm28
      have hSl : S28.length ≤ 2049 := by rw [hS, compL_len]; omega
      refine w_region ?_
      refine wl_det rfl rfl rfl (op_move rfl) ?_
      refine wl_det rfl rfl rfl (op_move rfl) ?_
      refine wl_op [] rfl rfl rfl rfl (op_buildSlice (enc := encH) (l := [((a28, c28, S28) : Hd)]) (lab := 31) tL67_1x rfl rfl (fun _ => rfl) rfl) ?_
      rintro _ _ ⟨a31, c31, rfl, rfl⟩
      refine wl_op [3] rfl rfl rfl rfl (op_append (lab := 3) (lab' := 32) rfl rfl tP67x enc1H (Sl.lab 31 rfl (by simp [maxLen])) (by first | omega | (simp; omega)) (by first | omega | (simp; omega))) ?_
      rintro _ _ ⟨a32, c32, rfl, rfl⟩
      refine wl_det rfl rfl rfl (op_move rfl) ?_
      refine wl_det rfl rfl rfl (op_move rfl) ?_
      refine wl_op [4] rfl rfl rfl rfl (op_append (lab := 4) (lab' := 35) rfl rfl tP26x SL.enc1Z (Sl.lab 28 rfl (by unfold maxLen; omega)) (by first | omega | (simp; omega)) (by first | omega | (simp; omega))) ?_
      rintro _ _ ⟨a35, c35, rfl, rfl⟩
      refine wl_det rfl rfl rfl (op_assign rfl) ?_
      refine wl_det rfl rfl rfl (op_assign rfl) ?_
      refine wl_fam 701 28 (a28, c28, S28) rfl ?_
      refine wl_nil ?_
      refine st_bn ?_
      refine st_tn ?_
      refine w_region ?_
      refine wl_det rfl rfl rfl (op_move rfl) ?_
      refine wl_det rfl rfl rfl (op_add' rfl rfl (by omega)) ?_
      refine wl_det rfl rfl rfl (op_assign rfl) ?_
      refine wl_nil ?_
      refine st_roundQ (x := (out, a_out, c_out, seen, a_seen, c_seen, i)) ((out ++ [((a28, c28, S28) : Hd)], _, _, seen ++ S28, _, _, i + 1)) [32, 35, 701, 9] rfl (rfl) (.cons rfl (.cons rfl (.cons rfl (.nil _)))) (.cons rfl (.cons rfl (.nil _))) (by
          try dsimp only
          have e := cmps_out hn (by rw [← hs]; simpa using hc22)
          refine ⟨by omega, ?_, ?_⟩
          · rw [e, List.map_append, ho]; show _ ++ [S28] = _; rw [hS]
          · rw [e, List.flatten_append, hs, hS]; simp) (by
          try dsimp only
          omega) 
    · -- c22.f
      refine w_skip ?_
      refine st_bn ?_
      refine st_tn ?_
      refine w_region ?_
      refine wl_det rfl rfl rfl (op_move rfl) ?_
      refine wl_det rfl rfl rfl (op_add' rfl rfl (by omega)) ?_
      refine wl_det rfl rfl rfl (op_assign rfl) ?_
      refine wl_nil ?_
      refine st_roundQ (x := (out, a_out, c_out, seen, a_seen, c_seen, i)) ((out, _, _, seen, _, _, i + 1)) [3, 4, 701, 9] rfl (rfl) (.cons rfl (.cons rfl (.cons rfl (.nil _)))) (.cons rfl (.cons rfl (.nil _))) (by
          try dsimp only
          have e := cmps_in hn (by rw [← hs]; simpa using hc22)
          exact ⟨by omega, by rw [e]; exact ho, by rw [e]; exact hs⟩) (by
          try dsimp only
          omega) 
  · -- c13.f
    refine w_exit ?_
    refine st_te ?_
    refine st_te ?_
    refine st_be ?_
    refine st_tn ?_
    refine w_seq ?_
    refine w_region ?_
    refine wl_det rfl rfl rfl (op_move rfl) ?_
    refine wl_det rfl rfl rfl (op_assign rfl) ?_
    refine wl_nil ?_
    refine st_tn ?_
    refine w_ret ?_
    refine st_ret (vs := [_]) [3, 701] Try.results39 ⟨rfl, trivial⟩ rfl ?_
    refine ⟨[(l1, _), (l2, _)], rfl, ?_⟩
    refine ⟨out, a_out, c_out, ?_, rfl, rfl⟩
    rw [ho]; unfold cmpsL; rw [show i = (nodes l).length by omega]

set_option maxHeartbeats 1000000 in
set_option maxRecDepth 100000 in
theorem slists_any {σ : World} {F : List Res} {a b : Option Addr} {c d : Nat} {ss tt : List Hd} (h : Sl σ F encH 1 (.slice a ss.length c) ss) (g : Sl σ F encH 1 (.slice b tt.length d) tt) (hs : ∀ p ∈ ss, Sl σ F SL.encZ 1 (hv p) p.2.2) (ht : ∀ p ∈ tt, Sl σ F SL.encZ 1 (hv p) p.2.2) :
    FnT Try.prog σ F 37 [.slice a ss.length c, .slice b tt.length d] [] (fun u ρ => u = .bool (decide (ss.map (fun p => p.2.2) = tt.map (fun p => p.2.2))) ∧ ρ = []) := by
  refine fn_of 27 Try.func37 rfl Try.ntmps37 rfl ?_
  have hle := h.i64
  have gle := g.i64
  refine w_seq ?_
  refine w_region ?_
  refine wl_det rfl rfl rfl (op_assign rfl) ?_
  refine wl_nil ?_
  refine st_tn ?_
  refine w_seq ?_
  refine w_seq ?_
  refine w_region ?_
  refine wl_det rfl rfl rfl (op_move rfl) ?_
  refine wl_det rfl rfl rfl (op_lenT rfl tS67x (Sl.ent (by first | exact Sl.app (by assumption) _ | exact Sl.app (Sl.app (by assumption) _) _))) ?_
  refine wl_det rfl rfl rfl (op_move rfl) ?_
  refine wl_det rfl rfl rfl (op_lenT rfl tS67x (Sl.ent (by first | exact Sl.app (by assumption) _ | exact Sl.app (Sl.app (by assumption) _) _))) ?_
  refine wl_det rfl rfl rfl (op_neq rfl rfl) ?_
  refine wl_nil ?_
  refine st_tn ?_
  refine w_cond_d rfl (fun hc10 => ?_) (fun hc10 => ?_)
  · -- c10.t
    refine w_seq ?_
    refine w_region ?_
    refine wl_det rfl rfl rfl (op_assign rfl) ?_
    refine wl_nil ?_
    refine st_tn ?_
    refine w_ret ?_
    refine st_tr ?_
    refine st_ret (vs := [_]) [] Try.results37 ⟨rfl, trivial⟩ rfl ?_
    refine ⟨_, rfl, ?_⟩
    have : ¬ ss.map (fun p => p.2.2) = tt.map (fun p => p.2.2) := fun e => by have := congrArg List.length e; simp at this; omega
    exact ⟨by simp [retv, this], rfl⟩
  · -- c10.f
    refine w_skip ?_
    refine st_tn ?_
    refine w_seq ?_
    refine w_seq ?_
    refine w_region ?_
    refine wl_det rfl rfl rfl (op_assign rfl) ?_
    refine wl_nil ?_
    refine st_tn ?_
    refine w_block ?_
    refine w_loopQ (X := Nat) (fun z => z ≤ ss.length ∧ (ss.take z).map (fun p => p.2.2) = (tt.take z).map (fun p => p.2.2)) (fun z => [(5, .int .i64 (z))]) (fun _ => []) (fun z => ss.length - z) (0) [(0, _), (1, _)] [] [] rfl (rfl) (.cons rfl (.nil _)) (.cons rfl (.cons rfl (.nil _))) (by
        try dsimp only
        exact ⟨Nat.zero_le _, by simp⟩) ?_
    rintro i ⟨hi, hn⟩
    refine w_norm2 (by dsimp only [List.cons_append, List.nil_append]) (by dsimp only [List.cons_append, List.nil_append]) ?_
    try dsimp only at hi hn ⊢
    refine w_seq ?_
    refine w_seq ?_
    refine w_region ?_
    refine wl_det rfl rfl rfl (op_move rfl) ?_
    refine wl_det rfl rfl rfl (op_move rfl) ?_
    refine wl_det rfl rfl rfl (op_lenT rfl tS67x (Sl.ent (by first | exact Sl.app (by assumption) _ | exact Sl.app (Sl.app (by assumption) _) _))) ?_
    refine wl_det rfl rfl rfl (op_lss rfl rfl) ?_
    refine wl_nil ?_
    refine st_tn ?_
    refine w_cond_d rfl (fun hc14 => ?_) (fun hc14 => ?_)
    · -- c14.t
      obtain ⟨p, hp⟩ := getE (l := ss) (i := i) (by omega)
      obtain ⟨q, hq⟩ := getE (l := tt) (i := i) (by omega)
      have hps := hs p (List.mem_of_getElem? hp)
      have hqs := ht q (List.mem_of_getElem? hq)
      refine w_skip ?_
      refine st_tn ?_
      refine w_seq ?_
      refine w_block ?_
      refine w_seq ?_
      refine w_drawW (fun β => [⟨17, [], [], [], noW (_), false, [], []⟩, ⟨18, [], [], [], noW (_), false, [], []⟩, ⟨19, [0, 1], [], [], noW (_), false, [], []⟩, ⟨20, [2], [], [], noW (_), false, [], []⟩, ⟨21, [], [], [], noW (_), false, [], []⟩, ⟨22, [], [], [], noW (_), false, [], []⟩, ⟨23, [4, 5], [], [], noW (_), false, [], []⟩, ⟨24, [6], [], [], noW (_), false, [], []⟩]) [] [0, 5, 1] [⟨17, [], [], false, [], []⟩, ⟨18, [], [], false, [], []⟩, ⟨19, [0, 1], [], false, [], []⟩, ⟨20, [2], [], false, [], []⟩, ⟨21, [], [], false, [], []⟩, ⟨22, [], [], false, [], []⟩, ⟨23, [4, 5], [], false, [], []⟩, ⟨24, [6], [], false, [], []⟩] [[], [], [], [], [], [], [], []] [[], [], [], [], [], [], [], []] tMixx (fun _ => by rfl) (fun _ => by rfl) (by kernel_rfl) (by kernel_rfl) (by rfl) (by rfl)
          (fun β => ⟨.p rfl (by intro X; exact op_move rfl),
          ⟨.p rfl (by intro X; exact op_move rfl),
          ⟨.p rfl (by intro X; rintro _ _ ⟨rfl, rfl⟩ _ _ ⟨rfl, rfl⟩; exact op_idx rfl rfl tS67x (Sl.ent (Sl.app (Sl.app h X) _)) (by omega)),
          ⟨.p rfl (by intro X; rintro _ _ ⟨rfl, rfl⟩; exact op_ldx rfl tO26x (Sl.app (Sl.app h X) _) (by assumption) (by rfl)),
          ⟨.p rfl (by intro X; exact op_move rfl),
          ⟨.p rfl (by intro X; exact op_move rfl),
          ⟨.p rfl (by intro X; rintro _ _ ⟨rfl, rfl⟩ _ _ ⟨rfl, rfl⟩; exact op_idx rfl rfl tS67x (Sl.ent (Sl.app (Sl.app g X) _)) (by omega)),
          ⟨.p rfl (by intro X; rintro _ _ ⟨rfl, rfl⟩; exact op_ldx rfl tO26x (Sl.app (Sl.app g X) _) (by assumption) (by rfl)),
          trivial⟩⟩⟩⟩⟩⟩⟩⟩)
          (fun β β' => ⟨fun _ => by rfl, ⟨fun _ => by rfl, ⟨fun _ => by rfl, ⟨fun _ => by rfl, ⟨fun _ => by rfl, ⟨fun _ => by rfl, ⟨fun _ => by rfl, ⟨fun _ => by rfl, trivial⟩⟩⟩⟩⟩⟩⟩⟩) ?_
      intro β
      rintro _ _ ⟨rfl, rfl⟩ _ _ ⟨rfl, rfl⟩ _ _ ⟨rfl, rfl⟩ _ _ ⟨rfl, rfl⟩ _ _ ⟨rfl, rfl⟩ _ _ ⟨rfl, rfl⟩ _ _ ⟨rfl, rfl⟩ _ _ ⟨rfl, rfl⟩
      refine wl_norm (e' := [(0, _), (1, _), (5, _), (20, _), (24, _)]) (.cons rfl (.cons rfl (.cons rfl (.cons rfl (.cons rfl (.nil _)))))) (by dsimp only [cond_false, cond_true, List.nil_append, List.cons_append]) ?_
      refine wl_det rfl rfl rfl (op_fn Try.func18 rfl rfl rfl (same_any (by first | exact Sl.app (Sl.app hps X) _ | exact Sl.app hps _) (by first | exact Sl.app (Sl.app hqs X) _ | exact Sl.app hqs _))) ?_
      refine wl_det rfl rfl rfl (op_not_d rfl) ?_
      refine wl_nil ?_
      refine st_tn ?_
      refine w_cond_d rfl (fun hc26 => ?_) (fun hc26 => ?_)
      · -- c26.t
        refine w_seq ?_
        refine w_region ?_
        refine wl_det rfl rfl rfl (op_assign rfl) ?_
        refine wl_nil ?_
        refine st_tn ?_
        refine w_ret ?_
        refine st_br ?_
        refine st_tr ?_
        refine st_tr ?_
        refine st_br ?_
        refine st_tr ?_
        refine st_ret (vs := [_]) [] Try.results37 ⟨rfl, trivial⟩ rfl ?_
        refine ⟨_, rfl, ?_⟩
        have : ¬ ss.map (fun p => p.2.2) = tt.map (fun p => p.2.2) := fun e => by
          have h1 := congrArg (fun z => z[i]?) e
          simp only [List.getElem?_map, hp, hq, Option.map_some, Option.some.injEq] at h1
          have : ¬ p.2.2 = q.2.2 := by simpa using hc26
          exact this h1
        exact ⟨by simp [retv, this], rfl⟩
      · -- c26.f
        refine w_skip ?_
        refine st_bn ?_
        refine st_tn ?_
        refine w_region ?_
        refine wl_det rfl rfl rfl (op_move rfl) ?_
        refine wl_det rfl rfl rfl (op_add' rfl rfl (by omega)) ?_
        refine wl_det rfl rfl rfl (op_assign rfl) ?_
        refine wl_nil ?_
        refine st_roundQ (x := i) (i + 1) [] rfl (rfl) (.cons rfl (.nil _)) (.cons rfl (.cons rfl (.nil _))) (by
            try dsimp only
            refine ⟨by omega, ?_⟩
            have : p.2.2 = q.2.2 := by simpa using hc26
            rw [take_snoc hp, take_snoc hq, List.map_append, List.map_append, hn]; simp [this]) (by
            try dsimp only
            omega) 
    · -- c14.f
      refine w_exit ?_
      refine st_te ?_
      refine st_te ?_
      refine st_be ?_
      refine st_tn ?_
      refine w_seq ?_
      refine w_region ?_
      refine wl_det rfl rfl rfl (op_assign rfl) ?_
      refine wl_nil ?_
      refine st_tn ?_
      refine w_ret ?_
      refine st_ret (vs := [_]) [] Try.results37 ⟨rfl, trivial⟩ rfl ?_
      refine ⟨_, rfl, ?_⟩
      rw [take_all (by omega), take_all (by omega)] at hn
      exact ⟨by simp [retv, hn], rfl⟩

end Go.Proofs.Ytgdjnjbipemdcaa
namespace Go.Proofs.Ytgdjnjbipemdcaa
open Go Go.SL Go.RowKit Go.ConM
set_option linter.unusedVariables false
set_option linter.unusedSimpArgs false
theorem tS24y : sliceB Try.prog 24 34 3 = true := by kernel_rfl

theorem cmps_el (l : List Con) : ∀ i, ∀ o ∈ cmpsTo l i, o.length ≤ 2 * l.length + 1
  | 0, o, h => by simp [cmpsTo] at h
  | i + 1, o, h => by
    have h' : o ∈ (if (nodes l).getD i 0 ∈ (cmpsTo l i).flatten then cmpsTo l i else cmpsTo l i ++ [compL l ((nodes l).getD i 0)] : List (List Int)) := h
    split at h'
    · exact cmps_el l i o h'
    · rcases List.mem_append.1 h' with h' | h'
      · exact cmps_el l i o h'
      · simp only [List.mem_singleton] at h'; subst h'
        have h2 := compX_len l ((nodes l).getD i 0)
        have h3 := compL_len l ((nodes l).getD i 0)
        omega
theorem fam_len {l : List Con} {ss : List Hd} (h : ss.map (fun p => p.2.2) = cmpsL l) {p : Hd} (hp : p ∈ ss) : p.2.2.length ≤ 2 * l.length + 1 :=
  cmps_el l _ _ (by show p.2.2 ∈ cmpsL l; rw [← h]; exact List.mem_map.2 ⟨p, hp, rfl⟩)
theorem fam_cnt {l : List Con} {ss : List Hd} (h : ss.map (fun p => p.2.2) = cmpsL l) : ss.length ≤ (nodes l).length := by
  have := congrArg List.length h; rw [List.length_map] at this; rw [this]; exact cmps_len l _
set_option maxHeartbeats 2000000 in
set_option maxRecDepth 100000 in
theorem lawChecks_any {σ : World} {F : List Res} {a : Option Addr} {c : Nat} {l : List Con} (h : Sl σ F encC 3 (.slice a l.length c) l) (hb : InB l) :
    FnT Try.prog σ F 13 [.slice a l.length c] [] (fun u ρ => u = .bool true ∧ ρ = []) := by
  refine fn_of 34 Try.func13 rfl Try.ntmps13 rfl ?_
  have hle := h.i64
  have hnl := len_nodes l
  refine w_seq ?_
  refine w_region ?_
  refine wl_det rfl rfl rfl (op_assign rfl) ?_
  refine wl_nil ?_
  refine st_tn ?_
  refine w_seq ?_
  refine w_seq ?_
  refine w_region ?_
  refine wl_det rfl rfl rfl (op_fn Try.func15 rfl rfl rfl (known_any)) ?_
  refine wl_det rfl rfl rfl (op_not_t rfl) ?_
  refine wl_det rfl rfl rfl (op_move rfl) ?_
  refine wl_wanted_det rfl rfl rfl rfl rfl rfl rfl (op_move rfl) ?_
  refine wl_wanted_det rfl rfl rfl rfl rfl rfl rfl (op_lenT rfl tS24y (Sl.ent (by first | exact Sl.app (by assumption) _ | exact Sl.app (Sl.app (by assumption) _) _))) ?_
  refine wl_wanted_det rfl rfl rfl rfl rfl rfl rfl (op_gtr rfl rfl) ?_
  refine wl_det rfl rfl rfl (op_pick_f rfl rfl) ?_
  refine wl_nil ?_
  refine st_tn ?_
  refine w_cond_d rfl (fun hc10 => ?_) (fun hc10 => ?_)
  · -- c10.t
    refine w_seq ?_
    refine w_region ?_
    refine wl_det rfl rfl rfl (op_fn Try.func15 rfl rfl rfl (known_any)) ?_
    refine wl_det rfl rfl rfl (op_assign rfl) ?_
    refine wl_nil ?_
    refine st_tn ?_
    refine w_ret ?_
    refine st_tr ?_
    refine st_ret (vs := [_]) [] Try.results13 ⟨rfl, trivial⟩ rfl ?_
    refine ⟨_, rfl, ?_⟩
    exact ⟨rfl, rfl⟩
  · -- c10.f
    refine w_skip ?_
    refine st_tn ?_
    refine w_seq ?_
    refine w_region ?_
    refine wl_det rfl rfl rfl (op_move rfl) ?_
    refine wl_det rfl rfl rfl (op_fn Try.func29 rfl rfl rfl (chk_any (by first | exact Sl.app (by assumption) _ | exact Sl.app (Sl.app (by assumption) _) _) (by assumption) (by omega))) ?_
    refine wl_det rfl rfl rfl (op_assign rfl) ?_
    refine wl_nil ?_
    refine st_tn ?_
    refine w_seq ?_
    refine w_seq ?_
    refine w_region ?_
    refine wl_det rfl rfl rfl (op_move rfl) ?_
    refine wl_det rfl rfl rfl (op_move rfl) ?_
    refine wl_det rfl rfl rfl (op_fn Try.func30 rfl rfl rfl (rchk_any (by first | exact Sl.app (by assumption) _ | exact Sl.app (Sl.app (by assumption) _) _) (by assumption) (by omega))) ?_
    refine wl_det rfl rfl rfl (op_val (v' := .bool false) (by simp) (op_neq rfl rfl)) ?_
    refine wl_nil ?_
    refine st_tn ?_
    refine w_cond_f (rfl) ?_
    refine w_skip ?_
    refine st_tn ?_
    refine w_seq ?_
    by_cases hE : chkE l = 0
    · -- hE+
      refine w_region ?_
      refine wl_det rfl rfl rfl (op_move rfl) ?_
      refine wl_det rfl rfl rfl (op_val (v' := .bool false) (by simp [hE]) (op_neq rfl rfl)) ?_
      refine wl_det rfl rfl rfl (op_move rfl) ?_
      refine wl_wanted_det rfl rfl rfl rfl rfl rfl rfl (op_move rfl) ?_
      refine wl_wanted [] rfl rfl rfl rfl rfl rfl rfl rfl (op_fn Try.func36 rfl rfl rfl (nodes_any 22 (by first | exact Sl.app (by assumption) _ | exact Sl.app (Sl.app (by assumption) _) _) (by assumption) (by omega))) ?_
      rintro _ _ ⟨a22, c22, rfl, rfl⟩
      refine wl_wanted_det rfl rfl rfl rfl rfl rfl rfl (op_move rfl) ?_
      refine wl_wanted [] rfl rfl rfl rfl rfl rfl rfl rfl (op_fn Try.func32 rfl rfl rfl (rnodes_any 24 (by first | exact Sl.app (by assumption) _ | exact Sl.app (Sl.app (by assumption) _) _) (by assumption) (by omega))) ?_
      rintro _ _ ⟨a24, c24, rfl, rfl⟩
      refine wl_wanted_det rfl rfl rfl rfl rfl rfl rfl (op_val (v' := .bool true) (by simp) (op_fn Try.func18 rfl rfl rfl (same_any (Sl.lab 22 rfl (by unfold maxLen; omega)) (Sl.lab 24 rfl (by unfold maxLen; omega))))) ?_
      refine wl_wanted_det rfl rfl rfl rfl rfl rfl rfl (op_move rfl) ?_
      refine wl_wanted_det rfl rfl rfl rfl rfl rfl rfl (op_move rfl) ?_
      refine wl_wanted [] rfl rfl rfl rfl rfl rfl rfl rfl (op_fn Try.func38 rfl rfl rfl (comps_any 28 702 (Sl.app h _) hb (by omega))) ?_
      rintro _ _ ⟨ss28, a28, c28, hss28, rfl, rfl⟩
      refine wl_wanted_det rfl rfl rfl rfl rfl rfl rfl (op_move rfl) ?_
      refine wl_wanted [] rfl rfl rfl rfl rfl rfl rfl rfl (op_fn Try.func39 rfl rfl rfl (rcomps_any 30 703 (Sl.app h _) hb (by omega))) ?_
      rintro _ _ ⟨ss30, a30, c30, hss30, rfl, rfl⟩
      refine wl_wanted_det rfl rfl rfl rfl rfl rfl rfl (op_val (v' := .bool true) (by rw [hss28, hss30]; simp) (op_fn Try.func37 rfl rfl rfl (slists_any (Sl.lab 28 rfl (by have := fam_cnt hss28; unfold maxLen; omega)) (Sl.lab 30 rfl (by have := fam_cnt hss30; unfold maxLen; omega)) (fun p hp => fam_sl (l := 702) rfl hp (by have := fam_len hss28 hp; unfold maxLen; omega)) (fun p hp => fam_sl (l := 703) rfl hp (by have := fam_len hss30 hp; unfold maxLen; omega))))) ?_
      refine wl_wanted_det rfl rfl rfl rfl rfl rfl rfl (op_pick_t rfl rfl) ?_
      refine wl_det rfl rfl rfl (op_pick_f rfl rfl) ?_
      refine wl_det rfl rfl rfl (op_assign rfl) ?_
      refine wl_nil ?_
      refine st_tn ?_
      refine w_ret ?_
      refine st_ret (vs := [_]) [] Try.results13 ⟨rfl, trivial⟩ rfl ?_
      refine ⟨_, rfl, ?_⟩
      exact ⟨rfl, rfl⟩
    · -- hE-
      refine w_region ?_
      refine wl_det rfl rfl rfl (op_move rfl) ?_
      refine wl_det rfl rfl rfl (op_val (v' := .bool true) (by simp [hE]) (op_neq rfl rfl)) ?_
      refine wl_det rfl rfl rfl (op_move rfl) ?_
      refine wl_unwanted rfl rfl rfl rfl rfl rfl rfl rfl ?_
      refine wl_unwanted rfl rfl rfl rfl rfl rfl rfl rfl ?_
      refine wl_unwanted rfl rfl rfl rfl rfl rfl rfl rfl ?_
      refine wl_unwanted rfl rfl rfl rfl rfl rfl rfl rfl ?_
      refine wl_unwanted rfl rfl rfl rfl rfl rfl rfl rfl ?_
      refine wl_unwanted rfl rfl rfl rfl rfl rfl rfl rfl ?_
      refine wl_unwantedU rfl rfl rfl rfl rfl rfl rfl ?_
      refine wl_unwantedU rfl rfl rfl rfl rfl rfl rfl ?_
      refine wl_unwantedU rfl rfl rfl rfl rfl rfl rfl ?_
      refine wl_unwantedU rfl rfl rfl rfl rfl rfl rfl ?_
      refine wl_unwantedU rfl rfl rfl rfl rfl rfl rfl ?_
      refine wl_unwanted rfl rfl rfl rfl rfl rfl rfl rfl ?_
      refine wl_det rfl rfl rfl (op_pick_t rfl rfl) ?_
      refine wl_det rfl rfl rfl (op_assign rfl) ?_
      refine wl_nil ?_
      refine st_tn ?_
      refine w_ret ?_
      refine st_ret (vs := [_]) [] Try.results13 ⟨rfl, trivial⟩ rfl ?_
      refine ⟨_, rfl, ?_⟩
      exact ⟨rfl, rfl⟩

end Go.Proofs.Ytgdjnjbipemdcaa
