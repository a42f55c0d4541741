/- Contracts: implications; the law Implies (layer 9). Conditions: none. -/
import Derived.Test.YtgdjnjbipemdcaaK18
namespace Go.Proofs.Ytgdjnjbipemdcaa
open Go Go.SL Go.RowKit Go.ConM
set_option linter.unusedVariables false
set_option linter.unusedSimpArgs false
theorem tA34s : aggB Try.prog 34 3 = true := by kernel_rfl
theorem tF34_0s : fieldB Try.prog 34 0 0 = true := by kernel_rfl
theorem tF34_1s : fieldB Try.prog 34 1 1 = true := by kernel_rfl
theorem tF34_2s : fieldB Try.prog 34 2 2 = true := by kernel_rfl
theorem tL24_1s : zerosB Try.prog 24 34 3 1 = some [Value.int .i64 0, Value.int .i64 0, Value.int .i64 0] := by kernel_rfl
theorem tO3s : oneB Try.prog 3 = true := by kernel_rfl

theorem stepF_dec {c : Con} {p : Lbl × Bool} {x v : Int} (h : p.1 x = some v) : ∃ w, (stepF c p).1 x = some w ∧ w ≤ v := by
  unfold stepF
  split
  · rename_i hu
    dsimp only [setF]
    split
    · rename_i e
      subst e
      unfold updC at hu
      cases ha : p.1 c.f with
      | none => rw [ha] at hu; simp at hu
      | some a => rw [ha, h] at hu; simp at hu; exact ⟨_, rfl, by rw [Option.getD_some]; omega⟩
    · exact ⟨v, h, Int.le_refl _⟩
  · exact ⟨v, h, Int.le_refl _⟩
theorem relF_dec : ∀ {l : List Con} {p : Lbl × Bool} {x v : Int}, p.1 x = some v → ∃ w, (relF l p).1 x = some w ∧ w ≤ v
  | [], p, x, v, h => ⟨v, h, Int.le_refl _⟩
  | c :: l, p, x, v, h => by
    obtain ⟨w, h1, h2⟩ := stepF_dec (c := c) h
    obtain ⟨w', h3, h4⟩ := relF_dec (l := l) h1
    exact ⟨w', h3, Int.le_trans h4 h2⟩
theorem rf_dec {l : List Con} {f : Lbl} {x v : Int} (h : f x = some v) : ∀ k, ∃ w, RF l f k x = some w ∧ w ≤ v
  | 0 => ⟨v, h, Int.le_refl _⟩
  | k + 1 => by
    obtain ⟨w, h1, h2⟩ := rf_dec h k
    obtain ⟨w', h3, h4⟩ := relF_dec (l := l) (p := (RF l f k, false)) h1
    exact ⟨w', h3, Int.le_trans h4 h2⟩
/-- A potential of a system. -/
def Pot (l : List Con) (pt : Int → Int) : Prop := ∀ c ∈ l, pt c.t ≤ pt c.f + c.b
theorem relF_ge {pt : Int → Int} {m : Int} : ∀ {l : List Con} {p : Lbl × Bool}, Pot l pt → (∀ x v, p.1 x = some v → pt x + m ≤ v) → ∀ x v, (relF l p).1 x = some v → pt x + m ≤ v
  | [], p, _, h => h
  | c :: l, p, hp, h => by
    refine relF_ge (l := l) (p := stepF c p) (fun d hd => hp d (List.mem_cons_of_mem _ hd)) fun x v hx => ?_
    unfold stepF at hx
    split at hx
    · rename_i hu
      dsimp only [setF] at hx
      split at hx
      · rename_i e
        subst e
        unfold updC at hu
        cases ha : p.1 c.f with
        | none => rw [ha] at hu; simp at hu
        | some a =>
          rw [ha] at hx
          have h1 := h _ _ ha
          have h2 := hp c (by simp)
          simp at hx; omega
      · exact h x v hx
    · exact h x v hx
theorem rf_ge {l : List Con} {f : Lbl} {pt : Int → Int} {m : Int} (hp : Pot l pt) (h : ∀ x v, f x = some v → pt x + m ≤ v) : ∀ k x v, RF l f k x = some v → pt x + m ≤ v
  | 0 => h
  | k + 1 => relF_ge (p := (RF l f k, false)) hp (rf_ge hp h k)
theorem pot_feas {l : List Con} (h : Feas l) : Pot l fun x => (potF l x).getD 0 := fun c hc => by
  obtain ⟨hf, ht⟩ := nodes_in c hc
  obtain ⟨a, ha⟩ := Option.isSome_iff_exists.1 (potF_lab hf)
  obtain ⟨b, hb⟩ := Option.isSome_iff_exists.1 (potF_lab ht)
  dsimp only
  rw [ha, hb]
  exact stF_holds h hc ha hb
theorem dis_ge {l : List Con} {a : Int} {pt : Int → Int} (hp : Pot (ownL l a) pt) {x v : Int} (h : disF l a x = some v) : pt x - pt a ≤ v := by
  have := rf_ge (f := zeroF [a]) (m := - pt a) hp (fun x v hx => by
    unfold zeroF at hx
    split at hx
    · rename_i h1; rw [List.mem_singleton] at h1; subst h1; simp at hx; omega
    · simp at hx) _ x v h
  omega
theorem dis_self {l : List Con} {a : Int} (h : Feas (ownL l a)) : disF l a a = some 0 := by
  obtain ⟨w, h1, h2⟩ := rf_dec (l := ownL l a) (f := zeroF [a]) (x := a) (v := 0) (by unfold zeroF; rw [if_pos (by simp)]) (nodes l).length
  have h3 : disF l a a = some w := h1
  have := dis_ge (pot_feas h) h3
  rw [h3]; congr 1; omega
/-- What Implies returns. -/
noncomputable def impB (l : List Con) (c : Con) : Bool := decide (OkC c ∧ Feas l ∧ (if c.f = c.t then c.b ≥ 0 else (distR l c.f c.t).2 = 0 ∧ (distR l c.f c.t).1 ≤ c.b))
def impE (l : List Con) (c : Con) : Int := if OkC c then solE l else 2
theorem chk_one (c : Con) : chkE [c] = if OkC c then 0 else 2 := by
  have h1 : (nodes [c]).length ≤ 2 := len_nodes [c]
  unfold chkE
  rw [if_neg (by simp)]
  by_cases h : OkC c
  · rw [if_pos (by simpa using h), if_neg (by omega), if_pos h]
  · rw [if_neg (by simpa using h), if_neg h]
theorem solE_cases (l : List Con) : solE l = if Feas l then 0 else 21 := by
  by_cases h : Feas l
  · rw [if_pos h]; exact (sol_feas l).2 h
  · rw [if_neg h]; exact (solL_no h).1
set_option maxHeartbeats 2000000 in
set_option maxRecDepth 100000 in
theorem imp_any {σ : World} {F : List Res} {a : Option Addr} {c : Nat} {l : List Con} (cf ct cb : Int) (h : Sl σ F encC 3 (.slice a l.length c) l) (hl : Small l) (hb : InB l) (hcf : I64 cf) (hct : I64 ct) (hcb : I64 cb) :
    FnT Try.prog σ F 35 [.slice a l.length c, .agg #[.int .i64 cf, .int .i64 ct, .int .i64 cb]] [] (fun u ρ => u = .tuple #[.bool (impB l ⟨cf, ct, cb⟩), .int .i64 (impE l ⟨cf, ct, cb⟩)] ∧ ρ = []) := by
  refine fn_of 47 Try.func35 rfl Try.ntmps35 rfl ?_
  have hle := h.i64
  have hI2 : InB [(⟨cf, ct, cb⟩ : Con)] := by intro d hd; rw [List.mem_singleton] at hd; subst hd; exact ⟨hcf, hct, hcb⟩
  have hl1 : [(⟨cf, ct, cb⟩ : Con)].length = 1 := rfl
  have hco := chk_one ⟨cf, ct, cb⟩
  have hse := solE_cases l
  refine w_seq ?_
  refine w_region ?_
  refine wl_op [] rfl rfl rfl rfl (op_box (T := 34) (l := 3) rfl) ?_
  rintro _ _ ⟨b3, rfl, rfl⟩
  refine wl_det rfl rfl rfl (op_assign rfl) ?_
  refine wl_det rfl rfl rfl (op_assign rfl) ?_
  refine wl_nil ?_
  refine st_tn ?_
  refine w_seq ?_
  refine w_seq ?_
  refine w_region ?_
  refine wl_det rfl rfl rfl (op_loadA rfl tA34s (Ent.lab (l := 3) rfl (says_cel 0)) (Nat.le_of_ble_eq_true rfl)) ?_
  refine wl_op [] rfl rfl rfl rfl (op_buildSlice (enc := encC) (l := [(⟨cf, ct, cb⟩ : Con)]) (lab := 11) tL24_1s rfl rfl (fun _ => rfl) rfl) ?_
  rintro _ _ ⟨a11, c11, rfl, rfl⟩
  refine wl_det rfl rfl rfl (op_fn Try.func29 rfl rfl rfl (chk_any (Sl.lab 11 rfl (by unfold maxLen; omega)) (by assumption) (by omega))) ?_
  refine wl_det rfl rfl rfl (op_neq rfl rfl) ?_
  refine wl_nil ?_
  refine st_tn ?_
  refine w_cond_d rfl (fun hc13 => ?_) (fun hc13 => ?_)
  · -- c13.t
    have hno : ¬ OkC ⟨cf, ct, cb⟩ := fun hk => by rw [hco, if_pos hk] at hc13; exact hc13 rfl
    refine w_seq ?_
    refine w_region ?_
    refine wl_det rfl rfl rfl (op_assign rfl) ?_
    refine wl_det rfl rfl rfl (op_assign rfl) ?_
    refine wl_nil ?_
    refine st_tn ?_
    refine w_ret ?_
    refine st_tr ?_
    refine st_ret (vs := [_, _]) [] Try.results35 ⟨rfl, ⟨rfl, trivial⟩⟩ rfl ?_
    refine ⟨_, rfl, ?_⟩
    unfold impB impE; rw [decide_eq_false (fun h => hno h.1), if_neg hno]; exact ⟨rfl, rfl⟩
  · -- c13.f
    have hok : OkC ⟨cf, ct, cb⟩ := Classical.byContradiction fun hk => by rw [hco, if_neg hk] at hc13; simp at hc13
    refine w_skip ?_
    refine st_tn ?_
    refine w_seq ?_
    refine w_seq ?_
    refine w_region ?_
    refine wl_det rfl rfl rfl (op_move rfl) ?_
    refine wl_op [] rfl rfl rfl rfl (op_fn Try.func24 rfl rfl rfl (solve_any 16 (by first | exact Sl.app (by assumption) _ | exact Sl.app (Sl.app (by assumption) _) _) (by assumption) (by assumption))) ?_
    rintro _ _ ⟨a16, c16, rfl, rfl⟩
    refine wl_det rfl rfl rfl (op_move rfl) ?_
    refine wl_det rfl rfl rfl (op_extract rfl rfl) ?_
    refine wl_det rfl rfl rfl (op_extract rfl rfl) ?_
    refine wl_det rfl rfl rfl (op_assign rfl) ?_
    refine wl_det rfl rfl rfl (op_assign rfl) ?_
    refine wl_nil ?_
    refine st_tn ?_
    refine w_seq ?_
    refine w_region ?_
    refine wl_det rfl rfl rfl (op_move rfl) ?_
    refine wl_det rfl rfl rfl (op_neq rfl rfl) ?_
    refine wl_nil ?_
    refine st_tn ?_
    refine w_cond_d rfl (fun hc20 => ?_) (fun hc20 => ?_)
    · -- c20.t
      have hnf : ¬ Feas l := fun hf => by rw [hse, if_pos hf] at hc20; exact hc20 rfl
      refine w_seq ?_
      refine w_region ?_
      refine wl_det rfl rfl rfl (op_move rfl) ?_
      refine wl_det rfl rfl rfl (op_assign rfl) ?_
      refine wl_det rfl rfl rfl (op_assign rfl) ?_
      refine wl_nil ?_
      refine st_tn ?_
      refine w_ret ?_
      refine st_tr ?_
      refine st_ret (vs := [_, _]) [] Try.results35 ⟨rfl, ⟨rfl, trivial⟩⟩ rfl ?_
      refine ⟨_, rfl, ?_⟩
      unfold impB impE; rw [decide_eq_false (fun h => hnf h.2.1), if_pos hok]; exact ⟨rfl, rfl⟩
    · -- c20.f
      have hf : Feas l := Classical.byContradiction fun hk => by rw [hse, if_neg hk] at hc20; simp at hc20
      refine w_skip ?_
      refine st_tn ?_
      refine w_seq ?_
      refine w_seq ?_
      refine w_region ?_
      refine wl_det rfl rfl rfl (op_fieldAddr (off := 0) rfl tF34_0s) ?_
      refine wl_det rfl rfl rfl (op_load1 rfl tO3s (Ent.lab (l := 3) rfl (says_cel 0))) ?_
      refine wl_det rfl rfl rfl (op_fieldAddr (off := 1) rfl tF34_1s) ?_
      refine wl_det rfl rfl rfl (op_load1 rfl tO3s (Ent.lab (l := 3) rfl (says_cel 1))) ?_
      refine wl_det rfl rfl rfl (op_eql rfl rfl) ?_
      refine wl_nil ?_
      refine st_tn ?_
      refine w_cond_d rfl (fun hc26 => ?_) (fun hc26 => ?_)
      · -- c26.t
        refine w_seq ?_
        refine w_region ?_
        refine wl_det rfl rfl rfl (op_fieldAddr (off := 2) rfl tF34_2s) ?_
        refine wl_det rfl rfl rfl (op_load1 rfl tO3s (Ent.lab (l := 3) rfl (says_cel 2))) ?_
        refine wl_det rfl rfl rfl (op_geq rfl rfl) ?_
        refine wl_det rfl rfl rfl (op_assign rfl) ?_
        refine wl_det rfl rfl rfl (op_assign rfl) ?_
        refine wl_nil ?_
        refine st_tn ?_
        refine w_ret ?_
        refine st_tr ?_
        refine st_ret (vs := [_, _]) [] Try.results35 ⟨rfl, ⟨rfl, trivial⟩⟩ rfl ?_
        refine ⟨_, rfl, ?_⟩
        have he : impB l ⟨cf, ct, cb⟩ = decide (cb ≥ 0) := by unfold impB; rw [decide_eq_decide]; simp only [if_pos hc26]; exact ⟨fun h => h.2.2, fun h => ⟨hok, hf, h⟩⟩
        have hz : impE l ⟨cf, ct, cb⟩ = 0 := by unfold impE; rw [if_pos hok, hse, if_pos hf]
        rw [he, hz]; exact ⟨rfl, rfl⟩
      · -- c26.f
        refine w_skip ?_
        refine st_tn ?_
        refine w_seq ?_
        refine w_region ?_
        refine wl_det rfl rfl rfl (op_move rfl) ?_
        refine wl_det rfl rfl rfl (op_fieldAddr (off := 0) rfl tF34_0s) ?_
        refine wl_det rfl rfl rfl (op_load1 rfl tO3s (Ent.lab (l := 3) rfl (says_cel 0))) ?_
        refine wl_det rfl rfl rfl (op_fieldAddr (off := 1) rfl tF34_1s) ?_
        refine wl_det rfl rfl rfl (op_load1 rfl tO3s (Ent.lab (l := 3) rfl (says_cel 1))) ?_
        refine wl_det rfl rfl rfl (op_fn Try.func22 rfl rfl rfl (dist_any _ _ (by first | exact Sl.app (by assumption) _ | exact Sl.app (Sl.app (by assumption) _) _) (by assumption) (by assumption))) ?_
        refine wl_det rfl rfl rfl (op_move rfl) ?_
        refine wl_det rfl rfl rfl (op_extract rfl rfl) ?_
        refine wl_det rfl rfl rfl (op_extract rfl rfl) ?_
        refine wl_det rfl rfl rfl (op_assign rfl) ?_
        refine wl_det rfl rfl rfl (op_assign rfl) ?_
        refine wl_nil ?_
        refine st_tn ?_
        refine w_seq ?_
        rw [dist_eq]
        refine w_region ?_
        refine wl_det rfl rfl rfl (op_move rfl) ?_
        refine wl_det rfl rfl rfl (op_eql rfl rfl) ?_
        refine wl_det rfl rfl rfl (op_move rfl) ?_
        refine wl_gsplit (t := 41) rfl (fun hg41 => ?_) (fun hg41 => ?_)
        · -- 41 is True
          refine wl_wanted_det rfl rfl rfl rfl rfl rfl rfl (op_move rfl) ?_
          refine wl_wanted_det rfl rfl rfl rfl rfl rfl rfl (op_fieldAddr (off := 2) rfl tF34_2s) ?_
          refine wl_wanted_det rfl rfl rfl rfl rfl rfl rfl (op_load1 rfl tO3s (Ent.lab (l := 3) rfl (says_cel 2))) ?_
          refine wl_wanted_det rfl rfl rfl rfl rfl rfl rfl (op_leq rfl rfl) ?_
          refine wl_det rfl rfl rfl (op_pick_t rfl rfl) ?_
          refine wl_det rfl rfl rfl (op_assign rfl) ?_
          refine wl_det rfl rfl rfl (op_assign rfl) ?_
          refine wl_nil ?_
          refine st_tn ?_
          refine w_ret ?_
          refine st_ret (vs := [_, _]) [] Try.results35 ⟨rfl, ⟨rfl, trivial⟩⟩ rfl ?_
          refine ⟨_, rfl, ?_⟩
          have hz : impE l ⟨cf, ct, cb⟩ = 0 := by unfold impE; rw [if_pos hok, hse, if_pos hf]
          have he : impB l ⟨cf, ct, cb⟩ = decide ((distR l cf ct).2 = 0 ∧ (distR l cf ct).1 ≤ cb) := by unfold impB; rw [decide_eq_decide]; simp only [if_neg hc26]; exact ⟨fun h => h.2.2, fun h => ⟨hok, hf, h⟩⟩
          rw [hz, he]; refine ⟨?_, rfl⟩; simp [hg41, retv]
        · -- 41 is False
          refine wl_unwanted rfl rfl rfl rfl rfl rfl rfl rfl ?_
          refine wl_unwanted rfl rfl rfl rfl rfl rfl rfl rfl ?_
          refine wl_unwanted rfl rfl rfl rfl rfl rfl rfl rfl ?_
          refine wl_unwanted rfl rfl rfl rfl rfl rfl rfl rfl ?_
          refine wl_det rfl rfl rfl (op_pick_f rfl rfl) ?_
          refine wl_det rfl rfl rfl (op_assign rfl) ?_
          refine wl_det rfl rfl rfl (op_assign rfl) ?_
          refine wl_nil ?_
          refine st_tn ?_
          refine w_ret ?_
          refine st_ret (vs := [_, _]) [] Try.results35 ⟨rfl, ⟨rfl, trivial⟩⟩ rfl ?_
          refine ⟨_, rfl, ?_⟩
          have hz : impE l ⟨cf, ct, cb⟩ = 0 := by unfold impE; rw [if_pos hok, hse, if_pos hf]
          have he : impB l ⟨cf, ct, cb⟩ = decide ((distR l cf ct).2 = 0 ∧ (distR l cf ct).1 ≤ cb) := by unfold impB; rw [decide_eq_decide]; simp only [if_neg hc26]; exact ⟨fun h => h.2.2, fun h => ⟨hok, hf, h⟩⟩
          rw [hz, he]; refine ⟨?_, rfl⟩; simp [hg41, retv]

theorem self_imp {l : List Con} {x b : Int} (h : (distR l x x).2 = 0) : (distR l x x).1 ≤ b ↔ b ≥ 0 := by
  unfold distR at h ⊢
  by_cases h1 : x ∈ nodes l ∧ x ∈ nodes l
  · rw [if_pos h1] at h ⊢
    by_cases h2 : Feas (ownL l x)
    · rw [if_pos h2] at h ⊢
      rw [dis_self h2]
    · rw [if_neg h2] at h; simp at h
  · rw [if_neg h1] at h; simp at h
set_option maxHeartbeats 2000000 in
set_option maxRecDepth 100000 in
theorem lawImplies_any {σ : World} {F : List Res} {a : Option Addr} {c : Nat} {s : List Arc} (cf ct cb : Int) (h : Sl σ F encA 3 (.slice a s.length c) s) (hs : OkA s) (hcf : I64 cf) (hct : I64 ct) (hcb : I64 cb) :
    FnT Try.prog σ F 12 [.slice a s.length c, .agg #[.int .i64 cf, .int .i64 ct, .int .i64 cb]] [] (fun u ρ => u = .bool true ∧ ρ = []) := by
  refine fn_of 79 Try.func12 rfl Try.ntmps12 rfl ?_
  have hle := h.i64
  obtain ⟨hfew, hsm, hin, hno, hbn⟩ := sys_ok hs
  obtain ⟨l, hl⟩ : ∃ l, l = sysL s := ⟨_, rfl⟩
  rw [← hl] at hfew hsm hin hno hbn
  have hI2 : InB [(⟨cf, ct, cb⟩ : Con)] := by intro d hd; rw [List.mem_singleton] at hd; subst hd; exact ⟨hcf, hct, hcb⟩
  have hl1 : [(⟨cf, ct, cb⟩ : Con)].length = 1 := rfl
  have hco := chk_one ⟨cf, ct, cb⟩
  refine w_seq ?_
  refine w_region ?_
  refine wl_op [] rfl rfl rfl rfl (op_box (T := 34) (l := 3) rfl) ?_
  rintro _ _ ⟨b3, rfl, rfl⟩
  refine wl_det rfl rfl rfl (op_assign rfl) ?_
  refine wl_nil ?_
  refine st_tn ?_
  refine w_seq ?_
  refine w_seq ?_
  refine w_region ?_
  refine wl_det rfl rfl rfl (op_fn Try.func15 rfl rfl rfl (known_any)) ?_
  refine wl_det rfl rfl rfl (op_not_t rfl) ?_
  refine wl_nil ?_
  refine st_tn ?_
  refine w_cond_f (rfl) ?_
  refine w_skip ?_
  refine st_tn ?_
  refine w_seq ?_
  refine w_region ?_
  refine wl_det rfl rfl rfl (op_move rfl) ?_
  refine wl_op [] rfl rfl rfl rfl (op_fn Try.func16 rfl rfl rfl (sys_any 15 (by first | exact Sl.app (by assumption) _ | exact Sl.app (Sl.app (by assumption) _) _) (by assumption))) ?_
  rintro _ _ ⟨a15, c15, rfl, rfl⟩
  refine wl_det rfl rfl rfl (op_assign rfl) ?_
  refine wl_nil ?_
  refine st_tn ?_
  refine w_seq ?_
  rw [← hl]
  clear hl
  have hse := solE_cases l
  refine w_region ?_
  refine wl_det rfl rfl rfl (op_move rfl) ?_
  refine wl_det rfl rfl rfl (op_loadA rfl tA34s (Ent.lab (l := 3) rfl (says_cel 0)) (Nat.le_of_ble_eq_true rfl)) ?_
  refine wl_det rfl rfl rfl (op_fn Try.func35 rfl rfl rfl (imp_any _ _ _ (Sl.lab 15 rfl (by unfold maxLen; omega)) (by assumption) (by assumption) (by assumption) (by assumption) (by assumption))) ?_
  refine wl_det rfl rfl rfl (op_move rfl) ?_
  refine wl_det rfl rfl rfl (op_extract rfl rfl) ?_
  refine wl_det rfl rfl rfl (op_extract rfl rfl) ?_
  refine wl_det rfl rfl rfl (op_assign rfl) ?_
  refine wl_det rfl rfl rfl (op_assign rfl) ?_
  refine wl_nil ?_
  refine st_tn ?_
  refine w_seq ?_
  refine w_seq ?_
  refine w_region ?_
  refine wl_det rfl rfl rfl (op_loadA rfl tA34s (Ent.lab (l := 3) rfl (says_cel 0)) (Nat.le_of_ble_eq_true rfl)) ?_
  refine wl_op [] rfl rfl rfl rfl (op_buildSlice (enc := encC) (l := [(⟨cf, ct, cb⟩ : Con)]) (lab := 23) tL24_1s rfl rfl (fun _ => rfl) rfl) ?_
  rintro _ _ ⟨a23, c23, rfl, rfl⟩
  refine wl_det rfl rfl rfl (op_fn Try.func30 rfl rfl rfl (rchk_any (Sl.lab 23 rfl (by unfold maxLen; omega)) (by assumption) (by omega))) ?_
  refine wl_det rfl rfl rfl (op_assign rfl) ?_
  refine wl_nil ?_
  refine st_tn ?_
  refine w_seq ?_
  refine w_region ?_
  refine wl_det rfl rfl rfl (op_move rfl) ?_
  refine wl_det rfl rfl rfl (op_neq rfl rfl) ?_
  refine wl_nil ?_
  refine st_tn ?_
  refine w_cond_d rfl (fun hc26 => ?_) (fun hc26 => ?_)
  · -- c26.t
    have hno : ¬ OkC ⟨cf, ct, cb⟩ := fun hk => by rw [hco, if_pos hk] at hc26; exact hc26 rfl
    have h1 : impE l ⟨cf, ct, cb⟩ = 2 := by unfold impE; rw [if_neg hno]
    have h2 : impB l ⟨cf, ct, cb⟩ = false := by unfold impB; rw [decide_eq_false (fun h => hno h.1)]
    rw [h1, h2, hco, if_neg hno]
    refine w_seq ?_
    refine w_region ?_
    refine wl_det rfl rfl rfl (op_move rfl) ?_
    refine wl_det rfl rfl rfl (op_move rfl) ?_
    refine wl_det rfl rfl rfl (op_val (v' := .bool true) (by rfl) (op_eql rfl rfl)) ?_
    refine wl_det rfl rfl rfl (op_move rfl) ?_
    refine wl_wanted_det rfl rfl rfl rfl rfl rfl rfl (op_move rfl) ?_
    refine wl_wanted_det rfl rfl rfl rfl rfl rfl rfl (op_not_f rfl) ?_
    refine wl_det rfl rfl rfl (op_pick_t rfl rfl) ?_
    refine wl_det rfl rfl rfl (op_assign rfl) ?_
    refine wl_nil ?_
    refine st_tn ?_
    refine w_ret ?_
    refine st_tr ?_
    refine st_ret (vs := [_]) [] Try.results12 ⟨rfl, trivial⟩ rfl ?_
    refine ⟨_, rfl, ?_⟩
    exact ⟨rfl, rfl⟩
  · -- c26.f
    have hok : OkC ⟨cf, ct, cb⟩ := Classical.byContradiction fun hk => by rw [hco, if_neg hk] at hc26; simp at hc26
    have h1 : impE l ⟨cf, ct, cb⟩ = solE l := by unfold impE; rw [if_pos hok]
    rw [h1]
    refine w_skip ?_
    refine st_tn ?_
    refine w_seq ?_
    refine w_seq ?_
    refine w_region ?_
    refine wl_det rfl rfl rfl (op_move rfl) ?_
    refine wl_det rfl rfl rfl (op_fn Try.func19 rfl rfl rfl (feas_any (Sl.lab 15 rfl (by unfold maxLen; omega)) (by assumption) (by assumption))) ?_
    refine wl_det rfl rfl rfl (op_not_d rfl) ?_
    refine wl_nil ?_
    refine st_tn ?_
    refine w_cond_d rfl (fun hc36 => ?_) (fun hc36 => ?_)
    · -- c36.t
      have h2 : impB l ⟨cf, ct, cb⟩ = false := by unfold impB; rw [decide_eq_false (fun h => hc36 h.2.1)]
      rw [h2, hse, if_neg hc36]
      refine w_seq ?_
      refine w_region ?_
      refine wl_det rfl rfl rfl (op_move rfl) ?_
      refine wl_det rfl rfl rfl (op_val (v' := .bool true) (by rfl) (op_eql rfl rfl)) ?_
      refine wl_det rfl rfl rfl (op_move rfl) ?_
      refine wl_wanted_det rfl rfl rfl rfl rfl rfl rfl (op_move rfl) ?_
      refine wl_wanted_det rfl rfl rfl rfl rfl rfl rfl (op_not_f rfl) ?_
      refine wl_det rfl rfl rfl (op_pick_t rfl rfl) ?_
      refine wl_det rfl rfl rfl (op_assign rfl) ?_
      refine wl_nil ?_
      refine st_tn ?_
      refine w_ret ?_
      refine st_tr ?_
      refine st_ret (vs := [_]) [] Try.results12 ⟨rfl, trivial⟩ rfl ?_
      refine ⟨_, rfl, ?_⟩
      exact ⟨rfl, rfl⟩
    · -- c36.f
      have hf : Feas l := Classical.not_not.1 hc36
      rw [hse, if_pos hf]
      refine w_skip ?_
      refine st_tn ?_
      refine w_seq ?_
      refine w_region ?_
      refine wl_det rfl rfl rfl (op_move rfl) ?_
      refine wl_det rfl rfl rfl (op_fieldAddr (off := 0) rfl tF34_0s) ?_
      refine wl_det rfl rfl rfl (op_load1 rfl tO3s (Ent.lab (l := 3) rfl (says_cel 0))) ?_
      refine wl_det rfl rfl rfl (op_fieldAddr (off := 1) rfl tF34_1s) ?_
      refine wl_det rfl rfl rfl (op_load1 rfl tO3s (Ent.lab (l := 3) rfl (says_cel 1))) ?_
      refine wl_det rfl rfl rfl (op_fn Try.func23 rfl rfl rfl (rdist_any _ _ (Sl.lab 15 rfl (by unfold maxLen; omega)) (by assumption) (by assumption))) ?_
      refine wl_det rfl rfl rfl (op_move rfl) ?_
      refine wl_det rfl rfl rfl (op_extract rfl rfl) ?_
      refine wl_det rfl rfl rfl (op_extract rfl rfl) ?_
      refine wl_det rfl rfl rfl (op_assign rfl) ?_
      refine wl_det rfl rfl rfl (op_assign rfl) ?_
      refine wl_nil ?_
      refine st_tn ?_
      refine w_seq ?_
      refine w_cutL [(11, .bool (decide (((distR l cf ct).2 = 0 ∧ (distR l cf ct).1 ≤ cb) ∨ (cf = ct ∧ cb ≥ 0))))] [6, 7] [3, 15, 23] rfl (fun K' hK => ?_) ?_
      · -- cut r11
        refine w_region ?_
        refine wl_det rfl rfl rfl (op_move rfl) ?_
        refine wl_det rfl rfl rfl (op_eql rfl rfl) ?_
        refine wl_det rfl rfl rfl (op_move rfl) ?_
        refine wl_gsplit (t := 54) rfl (fun hg54 => ?_) (fun hg54 => ?_)
        · -- 54 is True
          refine wl_wanted_det rfl rfl rfl rfl rfl rfl rfl (op_move rfl) ?_
          refine wl_wanted_det rfl rfl rfl rfl rfl rfl rfl (op_fieldAddr (off := 2) rfl tF34_2s) ?_
          refine wl_wanted_det rfl rfl rfl rfl rfl rfl rfl (op_load1 rfl tO3s (Ent.lab (l := 3) rfl (says_cel 2))) ?_
          refine wl_wanted_det rfl rfl rfl rfl rfl rfl rfl (op_leq rfl rfl) ?_
          refine wl_det rfl rfl rfl (op_pick_t rfl rfl) ?_
          refine wl_det rfl rfl rfl (op_move rfl) ?_
          refine wl_gsplit (t := 60) rfl (fun hg60 => ?_) (fun hg60 => ?_)
          · -- 60 is True
            refine wl_unwanted rfl rfl rfl rfl rfl rfl rfl rfl ?_
            refine wl_unwanted rfl rfl rfl rfl rfl rfl rfl rfl ?_
            refine wl_unwanted rfl rfl rfl rfl rfl rfl rfl rfl ?_
            refine wl_unwanted rfl rfl rfl rfl rfl rfl rfl rfl ?_
            refine wl_unwanted rfl rfl rfl rfl rfl rfl rfl rfl ?_
            refine wl_unwanted rfl rfl rfl rfl rfl rfl rfl rfl ?_
            refine wl_unwantedU rfl rfl rfl rfl rfl rfl rfl ?_
            refine wl_unwantedU rfl rfl rfl rfl rfl rfl rfl ?_
            refine wl_unwantedU rfl rfl rfl rfl rfl rfl rfl ?_
            refine wl_unwanted rfl rfl rfl rfl rfl rfl rfl rfl ?_
            refine wl_det rfl rfl rfl (op_pick_t rfl rfl) ?_
            refine wl_det rfl rfl rfl (op_assign rfl) ?_
            refine wl_nil ?_
            refine st_tn ?_
            exact cut_done1 [3, 15, 23] hK rfl (by first | (simp [*]; done) | (rw [decide_eq_decide]; simp [*]; done) | (rw [decide_eq_decide]; omega) | (symm; rw [decide_eq_true_iff]; omega) | (symm; rw [decide_eq_false_iff_not]; omega)) (by rfl) rfl rfl
          · -- 60 is False
            refine wl_wanted_det rfl rfl rfl rfl rfl rfl rfl (op_fieldAddr (off := 0) rfl tF34_0s) ?_
            refine wl_wanted_det rfl rfl rfl rfl rfl rfl rfl (op_load1 rfl tO3s (Ent.lab (l := 3) rfl (says_cel 0))) ?_
            refine wl_wanted_det rfl rfl rfl rfl rfl rfl rfl (op_fieldAddr (off := 1) rfl tF34_1s) ?_
            refine wl_wanted_det rfl rfl rfl rfl rfl rfl rfl (op_load1 rfl tO3s (Ent.lab (l := 3) rfl (says_cel 1))) ?_
            refine wl_wanted_det rfl rfl rfl rfl rfl rfl rfl (op_eql rfl rfl) ?_
            refine wl_wanted_det rfl rfl rfl rfl rfl rfl rfl (op_move rfl) ?_
            refine wl_gsplit (t := 66) rfl (fun hg66 => ?_) (fun hg66 => ?_)
            · -- 66 is True
              refine wl_wanted_det rfl rfl rfl rfl rfl rfl rfl (op_fieldAddr (off := 2) rfl tF34_2s) ?_
              refine wl_wanted_det rfl rfl rfl rfl rfl rfl rfl (op_load1 rfl tO3s (Ent.lab (l := 3) rfl (says_cel 2))) ?_
              refine wl_wanted_det rfl rfl rfl rfl rfl rfl rfl (op_geq rfl rfl) ?_
              refine wl_wanted_det rfl rfl rfl rfl rfl rfl rfl (op_pick_t rfl rfl) ?_
              refine wl_det rfl rfl rfl (op_pick_f rfl rfl) ?_
              refine wl_det rfl rfl rfl (op_assign rfl) ?_
              refine wl_nil ?_
              refine st_tn ?_
              exact cut_done1 [3, 15, 23] hK rfl (by first | (simp [*]; done) | (rw [decide_eq_decide]; simp [*]; done) | (rw [decide_eq_decide]; omega) | (symm; rw [decide_eq_true_iff]; omega) | (symm; rw [decide_eq_false_iff_not]; omega)) (by rfl) rfl rfl
            · -- 66 is False
              refine wl_unwanted rfl rfl rfl rfl rfl rfl rfl rfl ?_
              refine wl_unwanted rfl rfl rfl rfl rfl rfl rfl rfl ?_
              refine wl_unwanted rfl rfl rfl rfl rfl rfl rfl rfl ?_
              refine wl_wanted_det rfl rfl rfl rfl rfl rfl rfl (op_pick_f rfl rfl) ?_
              refine wl_det rfl rfl rfl (op_pick_f rfl rfl) ?_
              refine wl_det rfl rfl rfl (op_assign rfl) ?_
              refine wl_nil ?_
              refine st_tn ?_
              exact cut_done1 [3, 15, 23] hK rfl (by first | (simp [*]; done) | (rw [decide_eq_decide]; simp [*]; done) | (rw [decide_eq_decide]; omega) | (symm; rw [decide_eq_true_iff]; omega) | (symm; rw [decide_eq_false_iff_not]; omega)) (by rfl) rfl rfl
        · -- 54 is False
          refine wl_unwanted rfl rfl rfl rfl rfl rfl rfl rfl ?_
          refine wl_unwanted rfl rfl rfl rfl rfl rfl rfl rfl ?_
          refine wl_unwanted rfl rfl rfl rfl rfl rfl rfl rfl ?_
          refine wl_unwanted rfl rfl rfl rfl rfl rfl rfl rfl ?_
          refine wl_det rfl rfl rfl (op_pick_f rfl rfl) ?_
          refine wl_det rfl rfl rfl (op_move rfl) ?_
          refine wl_wanted_det rfl rfl rfl rfl rfl rfl rfl (op_fieldAddr (off := 0) rfl tF34_0s) ?_
          refine wl_wanted_det rfl rfl rfl rfl rfl rfl rfl (op_load1 rfl tO3s (Ent.lab (l := 3) rfl (says_cel 0))) ?_
          refine wl_wanted_det rfl rfl rfl rfl rfl rfl rfl (op_fieldAddr (off := 1) rfl tF34_1s) ?_
          refine wl_wanted_det rfl rfl rfl rfl rfl rfl rfl (op_load1 rfl tO3s (Ent.lab (l := 3) rfl (says_cel 1))) ?_
          refine wl_wanted_det rfl rfl rfl rfl rfl rfl rfl (op_eql rfl rfl) ?_
          refine wl_wanted_det rfl rfl rfl rfl rfl rfl rfl (op_move rfl) ?_
          refine wl_gsplit (t := 66) rfl (fun hg66 => ?_) (fun hg66 => ?_)
          · -- 66 is True
            refine wl_wanted_det rfl rfl rfl rfl rfl rfl rfl (op_fieldAddr (off := 2) rfl tF34_2s) ?_
            refine wl_wanted_det rfl rfl rfl rfl rfl rfl rfl (op_load1 rfl tO3s (Ent.lab (l := 3) rfl (says_cel 2))) ?_
            refine wl_wanted_det rfl rfl rfl rfl rfl rfl rfl (op_geq rfl rfl) ?_
            refine wl_wanted_det rfl rfl rfl rfl rfl rfl rfl (op_pick_t rfl rfl) ?_
            refine wl_det rfl rfl rfl (op_pick_f rfl rfl) ?_
            refine wl_det rfl rfl rfl (op_assign rfl) ?_
            refine wl_nil ?_
            refine st_tn ?_
            exact cut_done1 [3, 15, 23] hK rfl (by first | (simp [*]; done) | (rw [decide_eq_decide]; simp [*]; done) | (rw [decide_eq_decide]; omega) | (symm; rw [decide_eq_true_iff]; omega) | (symm; rw [decide_eq_false_iff_not]; omega)) (by rfl) rfl rfl
          · -- 66 is False
            refine wl_unwanted rfl rfl rfl rfl rfl rfl rfl rfl ?_
            refine wl_unwanted rfl rfl rfl rfl rfl rfl rfl rfl ?_
            refine wl_unwanted rfl rfl rfl rfl rfl rfl rfl rfl ?_
            refine wl_wanted_det rfl rfl rfl rfl rfl rfl rfl (op_pick_f rfl rfl) ?_
            refine wl_det rfl rfl rfl (op_pick_f rfl rfl) ?_
            refine wl_det rfl rfl rfl (op_assign rfl) ?_
            refine wl_nil ?_
            refine st_tn ?_
            exact cut_done1 [3, 15, 23] hK rfl (by first | (simp [*]; done) | (rw [decide_eq_decide]; simp [*]; done) | (rw [decide_eq_decide]; omega) | (symm; rw [decide_eq_true_iff]; omega) | (symm; rw [decide_eq_false_iff_not]; omega)) (by rfl) rfl rfl
      · -- behind r11
        show W _ _ _ _ _ [(11, _), (6, _), (7, _)] [(3, _), (15, _), (23, _)] _
        refine w_seq ?_
        have hib : impB l ⟨cf, ct, cb⟩ = decide (((distR l cf ct).2 = 0 ∧ (distR l cf ct).1 ≤ cb) ∨ (cf = ct ∧ cb ≥ 0)) := by
          unfold impB
          rw [decide_eq_decide]
          by_cases he : cf = ct
          · subst he
            simp only [if_pos True.intro, true_and]
            constructor
            · intro h; exact .inr h.2.2
            · rintro (h | h)
              · exact ⟨hok, hf, (self_imp h.1).1 h.2⟩
              · exact ⟨hok, hf, h⟩
          · simp only [if_neg he]
            exact ⟨fun h => .inl h.2.2, fun h => ⟨hok, hf, h.resolve_right fun h => he h.1⟩⟩
        refine w_region ?_
        refine wl_det rfl rfl rfl (op_move rfl) ?_
        refine wl_det rfl rfl rfl (op_val (v' := .bool true) (by rfl) (op_eql rfl rfl)) ?_
        refine wl_det rfl rfl rfl (op_move rfl) ?_
        refine wl_wanted_det rfl rfl rfl rfl rfl rfl rfl (op_move rfl) ?_
        refine wl_wanted_det rfl rfl rfl rfl rfl rfl rfl (op_move rfl) ?_
        refine wl_wanted_det rfl rfl rfl rfl rfl rfl rfl (op_val (v' := .bool true) (by rw [hib]; simp) (op_eqB rfl rfl Try.underlying4)) ?_
        refine wl_det rfl rfl rfl (op_pick_t rfl rfl) ?_
        refine wl_det rfl rfl rfl (op_assign rfl) ?_
        refine wl_nil ?_
        refine st_tn ?_
        refine w_ret ?_
        refine st_ret (vs := [_]) [] Try.results12 ⟨rfl, trivial⟩ rfl ?_
        refine ⟨_, rfl, ?_⟩
        exact ⟨rfl, rfl⟩

end Go.Proofs.Ytgdjnjbipemdcaa
