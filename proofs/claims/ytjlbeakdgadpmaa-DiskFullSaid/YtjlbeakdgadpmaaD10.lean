/- Contracts: Equal and Clone of a disk, agrees, same and copied of its model (layer 26). Conditions: none. -/
import Derived.Test.YtjlbeakdgadpmaaD9
import Derived.Test.YtjlbeakdgadpmaaClon
namespace Go.Proofs.Ytjlbeakdgadpmaa
open Go Go.SL Go.RowKit Go.DskM
set_option linter.unusedVariables false
set_option linter.unusedSimpArgs false
theorem tA65j : aggB Try.prog 65 5 = true := by kernel_rfl
theorem tA68j : aggB Try.prog 68 3 = true := by kernel_rfl
theorem tF65_0j : fieldB Try.prog 65 0 0 = true := by kernel_rfl
theorem tF65_1j : fieldB Try.prog 65 1 1 = true := by kernel_rfl
theorem tF65_2j : fieldB Try.prog 65 2 2 = true := by kernel_rfl
theorem tF65_3j : fieldB Try.prog 65 3 3 = true := by kernel_rfl
theorem tF65_4j : fieldB Try.prog 65 4 4 = true := by kernel_rfl
theorem tMixj : Try.prog.follows .mixedOrders = true := by kernel_rfl
theorem tN65j : (Try.prog.info? 65).bind (·.zero) = some (Value.agg #[Value.int .i64 0, Value.map none, Value.bool false, Value.bool false, Value.int .i64 0]) := by kernel_rfl
theorem tN68j : (Try.prog.info? 68).bind (·.zero) = some (Value.agg #[Value.string .empty, Value.int .i64 0, Value.bool false]) := by kernel_rfl
theorem tO3j : oneB Try.prog 3 = true := by kernel_rfl
theorem tO4j : oneB Try.prog 4 = true := by kernel_rfl
theorem tO63j : oneB Try.prog 63 = true := by kernel_rfl
theorem tQ63j : mapB Try.prog 63 9 68 KL.desc := ⟨Try.underlying63, Try.underlying9⟩
theorem tZ63j : (Try.prog.info? 63).map (·.size) = some 1 := by kernel_rfl
theorem tZ65j : (Try.prog.info? 65).map (·.size) = some 5 := by kernel_rfl
theorem tZ68j : (Try.prog.info? 68).map (·.size) = some 3 := by kernel_rfl

theorem str_beq (a b : Bs) : ((str a).toList == (str b).toList) = decide (a = b) := by
  rw [str_toList, str_toList]; by_cases h : a = b <;> simp [h]
theorem g68 : Try.prog.eqGuardType Try.prog.depth 68 = false := by kernel_rfl
theorem g51 : Try.prog.eqGuardType Try.prog.depth 51 = false := by kernel_rfl
set_option maxRecDepth 100000 in
theorem eq_file (f g : Fl) (w : World) : (Op.equal 68 (encF f) (encF g)).run Try.prog w = .ok (decide (f = g)) w := by
  have hs : Try.prog.stoodInHeld 68 = false := by kernel_rfl
  have hf : (Try.prog.fieldsOf 68).toList.map (fun f => (f.name, f.type, f.offset)) = [("data", 9, 0), ("synced", 3, 1), ("durable", 4, 2)] := by kernel_rfl
  have ha9 : ∀ w, (isAgg 9).run Try.prog w = .ok false w := fun w => by unfold isAgg; rw [Sem.run_bind, run_underlying Try.underlying9 w]; rfl
  have ha3 : ∀ w, (isAgg 3).run Try.prog w = .ok false w := fun w => by unfold isAgg; rw [Sem.run_bind, run_underlying Try.underlying3 w]; rfl
  have ha4 : ∀ w, (isAgg 4).run Try.prog w = .ok false w := fun w => by unfold isAgg; rw [Sem.run_bind, run_underlying Try.underlying4 w]; rfl
  obtain ⟨l, hl⟩ : ∃ l, Try.prog.fieldsOf 68 = l := ⟨_, rfl⟩
  unfold encF
  show (Op.equalIn (9999 + 1) 68 (.agg _) (.agg _)).run Try.prog w = _
  rw [run_equalIn_agg w 9999 68 _ _ (by kernel_rfl) hs]
  rw [hl] at hf ⊢
  obtain ⟨ll⟩ := l
  simp only at hf ⊢
  match ll, hf with
  | [x, y, z], hf =>
    simp only [List.map_cons, List.map_nil, List.cons.injEq, Prod.mk.injEq, and_true] at hf
    obtain ⟨⟨f1, f2, f3⟩, ⟨g1, g2, g3⟩, i1, i2, i3⟩ := hf
    obtain ⟨a, b, c⟩ := f
    obtain ⟨a', b', c'⟩ := g
    by_cases h1 : a = a' <;> by_cases h2 : b = b' <;> by_cases h3 : c = c' <;> simp [h1, h2, h3, part, Sem.run_bind, ha9, ha3, ha4, run_equalIn_int w 9998 3 .i64 .i64 _ _ Try.underlying3, run_equalIn_string w 9998 9 _ _ Try.underlying9, run_equalIn_bool' w 9998 4 _ _ Try.underlying4, str_beq, Op.eqFields, f1, f2, f3, g1, g2, g3, i1, i2, i3] <;> omega
set_option maxRecDepth 100000 in
set_option maxHeartbeats 1000000 in
theorem eq_sfile (p q : Bs × Fl) (w : World) : (Op.equal 51 (aggM p) (aggM q)).run Try.prog w = .ok (decide (p = q)) w := by
  have hs : Try.prog.stoodInHeld 51 = false := by kernel_rfl
  have hf : (Try.prog.fieldsOf 51).toList.map (fun f => (f.name, f.type, f.offset)) = [("name", 9, 0), ("data", 9, 1), ("durable", 3, 2), ("lasting", 4, 3)] := by kernel_rfl
  have ha9 : ∀ w, (isAgg 9).run Try.prog w = .ok false w := fun w => by unfold isAgg; rw [Sem.run_bind, run_underlying Try.underlying9 w]; rfl
  have ha3 : ∀ w, (isAgg 3).run Try.prog w = .ok false w := fun w => by unfold isAgg; rw [Sem.run_bind, run_underlying Try.underlying3 w]; rfl
  have ha4 : ∀ w, (isAgg 4).run Try.prog w = .ok false w := fun w => by unfold isAgg; rw [Sem.run_bind, run_underlying Try.underlying4 w]; rfl
  obtain ⟨l, hl⟩ : ∃ l, Try.prog.fieldsOf 51 = l := ⟨_, rfl⟩
  unfold aggM
  show (Op.equalIn (9999 + 1) 51 (.agg _) (.agg _)).run Try.prog w = _
  rw [run_equalIn_agg w 9999 51 _ _ (by kernel_rfl) hs]
  rw [hl] at hf ⊢
  obtain ⟨ll⟩ := l
  simp only at hf ⊢
  match ll, hf with
  | [x, y, z, v], hf =>
    simp only [List.map_cons, List.map_nil, List.cons.injEq, Prod.mk.injEq, and_true] at hf
    obtain ⟨⟨f1, f2, f3⟩, ⟨g1, g2, g3⟩, ⟨i1, i2, i3⟩, j1, j2, j3⟩ := hf
    obtain ⟨n, a, b, c⟩ := p
    obtain ⟨n', a', b', c'⟩ := q
    by_cases h0 : n = n' <;> by_cases h1 : a = a' <;> by_cases h2 : b = b' <;> by_cases h3 : c = c' <;> simp [h0, h1, h2, h3, part, Sem.run_bind, ha9, ha3, ha4, run_equalIn_int w 9998 3 .i64 .i64 _ _ Try.underlying3, run_equalIn_string w 9998 9 _ _ Try.underlying9, run_equalIn_bool' w 9998 4 _ _ Try.underlying4, str_beq, Op.eqFields, f1, f2, f3, g1, g2, g3, i1, i2, i3, j1, j2, j3] <;> omega
theorem sub_tail {x y : Bs × Fl} {a b : Files} (ha : DskM.Inc (x :: a)) (hb : DskM.Inc (y :: b)) (h : ∀ p ∈ x :: a, p ∈ y :: b) : ∀ p ∈ a, p ∈ b := fun p hp => by
  obtain ⟨a1, _⟩ := List.pairwise_cons.1 ha
  obtain ⟨b1, _⟩ := List.pairwise_cons.1 hb
  rcases List.mem_cons.1 (h p (List.mem_cons_of_mem _ hp)) with h1 | h1
  · exfalso
    rcases List.mem_cons.1 (h x List.mem_cons_self) with h2 | h2
    · have := a1 p hp; rw [h1, ← h2] at this; exact lt_irrefl _ this
    · have h3 := b1 x h2; have h4 := a1 p hp; rw [h1] at h4; exact lt_asymm h3 h4
  · exact h1
theorem sub_len : ∀ {a b : Files}, DskM.Inc a → DskM.Inc b → (∀ p ∈ a, p ∈ b) → a.length ≤ b.length
  | [], _, _, _, _ => Nat.zero_le _
  | x :: a, [], _, _, h => by have := h x List.mem_cons_self; simp at this
  | x :: a, y :: b, ha, hb, h => by
    have := sub_len (List.pairwise_cons.1 ha).2 (List.pairwise_cons.1 hb).2 (sub_tail ha hb h)
    simp only [List.length_cons]; omega
theorem sub_eq : ∀ {a b : Files}, DskM.Inc a → DskM.Inc b → (∀ p ∈ a, p ∈ b) → b.length ≤ a.length → a = b
  | [], [], _, _, _, _ => rfl
  | [], y :: b, _, _, _, h => by simp at h
  | x :: a, [], _, _, h, _ => by have := h x List.mem_cons_self; simp at this
  | x :: a, y :: b, ha, hb, h, hl => by
    have h1 := sub_eq (List.pairwise_cons.1 ha).2 (List.pairwise_cons.1 hb).2 (sub_tail ha hb h) (by simpa using hl)
    rcases List.mem_cons.1 (h x List.mem_cons_self) with h2 | h2
    · rw [h1, h2]
    · exfalso
      have h3 : ∀ p ∈ x :: a, p ∈ b := fun p hp => by
        rcases List.mem_cons.1 hp with rfl | hp
        · exact h2
        · exact sub_tail ha hb h p hp
      have h4 := sub_len ha (List.pairwise_cons.1 hb).2 h3
      rw [h1] at h4; simp only [List.length_cons] at h4; omega
theorem mclone_any {σ : World} {F : List Res} {m : Nat} {l : Files} (lab : Nat) (hm' : Mr σ F KL encF (.map (some m)) l) :
    FnT Try.prog σ F 45 [.map (some m)] [] (fun u ρ => ∃ mm, u = .map (some mm) ∧ ρ = [(lab, mp KL encF mm l)]) := by
  intro w ho
  have ho' : SL.Own σ F w := ho
  rcases hm' w ho' with ⟨h1, _⟩ | ⟨b2, bs, ck, h1, h2, h3⟩
  · cases h1
  · cases h1
    refine (AnyW.maps_Clone Try.clone45 m _ ck w h2).mono ?_
    rintro e W' ⟨rfl, rfl⟩
    exact ⟨_, _, rfl, ⟨_, rfl, rfl⟩, ho'.alloc ⟨bs, ck, rfl, h3⟩⟩
set_option maxHeartbeats 1000000 in
set_option maxRecDepth 100000 in
theorem mequal_any {σ : World} {F : List Res} {m1 m2 : Nat} {l1 l2 fs1 fs2 : Files} {bs : List Nat} {ck : Nat} (hp1 : l1.Perm fs1) (hp2 : l2.Perm fs2) (hi1 : DskM.Inc fs1) (hi2 : DskM.Inc fs2) (hm : Me σ F KL encF m1 l1 bs ck) (hm2' : Mr σ F KL encF (.map (some m2)) l2) :
    FnT Try.prog σ F 46 [.map (some m1), .map (some m2)] [] (fun u ρ => u = .bool (decide (fs1 = fs2)) ∧ ρ = []) := by
  refine fn_of 34 Try.func46 rfl Try.ntmps46 rfl ?_
  have hn1 : (l1.map Prod.fst).Nodup := (hp1.map Prod.fst).nodup_iff.2 hi1.nod
  have hn2 : (l2.map Prod.fst).Nodup := (hp2.map Prod.fst).nodup_iff.2 hi2.nod
  have e1 := hp1.length_eq
  have e2 := hp2.length_eq
  refine w_seq ?_
  refine w_region ?_
  refine wl_det rfl rfl rfl (op_assign rfl) ?_
  refine wl_nil ?_
  refine st_tn ?_
  refine w_seq ?_
  refine w_seq ?_
  refine w_region ?_
  refine wl_det rfl rfl rfl (op_move rfl) ?_
  refine wl_det rfl rfl rfl (op_lenM (kt := KL) (encV := encF) rfl tQ63j (Mr.ofMe (Ent.app hm _))) ?_
  refine wl_det rfl rfl rfl (op_move rfl) ?_
  refine wl_det rfl rfl rfl (op_lenM (kt := KL) (encV := encF) rfl tQ63j (Ent.app hm2' _)) ?_
  refine wl_det rfl rfl rfl (op_neq rfl rfl) ?_
  refine wl_nil ?_
  refine st_tn ?_
  refine w_cond_d rfl (fun hc13 => ?_) (fun hc13 => ?_)
  · -- c13.t
    refine w_seq ?_
    refine w_region ?_
    refine wl_det rfl rfl rfl (op_assign rfl) ?_
    refine wl_nil ?_
    refine st_tn ?_
    refine w_ret ?_
    refine st_tr ?_
    refine st_ret (vs := [_]) [] Try.results46 ⟨rfl, trivial⟩ rfl ?_
    refine ⟨_, rfl, ?_⟩
    have : fs1 ≠ fs2 := fun e => by rw [e] at e1; omega
    exact ⟨by simp [retv, this], rfl⟩
  · -- c13.f
    refine w_skip ?_
    refine st_tn ?_
    refine w_seq ?_
    refine w_seq ?_
    refine w_region ?_
    refine wl_det rfl rfl rfl (op_move rfl) ?_
    refine wl_op [] rfl rfl rfl rfl (op_range (kt := KL) (encV := encF) (lab := 15) rfl tQ63j (Ent.app hm _)) ?_
    rintro _ _ ⟨r15, rfl, rfl⟩
    refine wl_nil ?_
    refine st_tn ?_
    refine w_block ?_
    refine w_loopQ (X := List (Bs × Fl) × List (Bs × Fl)) (fun z => (z.1 ++ z.2).Perm l1 ∧ ∀ p ∈ z.1, find fs2 p.1 = some p.2) (fun z => []) (fun z => [(15, itR r15 m1 l1 bs ck (z.1) (z.2))]) (fun z => z.2.length) (([], l1)) [(1, _), (15, _)] [] [15] rfl (rfl) (.nil _) (.cons rfl (.cons rfl (.nil _))) (by
        try dsimp only
        exact ⟨List.Perm.refl _, by simp⟩) ?_
    rintro ⟨dn_it, td_it⟩ ⟨hperm, hn⟩
    refine w_norm2 (by dsimp only [List.cons_append, List.nil_append]) (by dsimp only [List.cons_append, List.nil_append]) ?_
    try dsimp only at hperm hn ⊢
    refine w_seq ?_
    refine w_region ?_
    refine wl_op [15] rfl rfl rfl rfl (op_next (kt := KL) (encV := encF) (lab := 15) rfl (Ent.app hm _)) ?_
    rintro _ _ ⟨o16, dn16, td16, rfl, rfl, hn16⟩
    refine wl_det rfl rfl rfl (op_nextOk rfl) ?_
    refine wl_nil ?_
    refine st_tn ?_
    refine w_seq ?_
    refine w_cond rfl (fun hc17 => ?_) (fun hc17 => ?_)
    · -- c17.t
      obtain ⟨p, hpe⟩ := Option.isSome_iff_exists.1 hc17
      subst hpe
      obtain ⟨hdn16, hpt⟩ : dn16 = p :: dn_it ∧ td_it.Perm (p :: td16) := hn16
      subst hdn16
      have hlk := look_perm hp2 hn2 p.1
      have hpm : p ∈ fs1 := hp1.mem_iff.1 (hperm.mem_iff.1 (List.mem_append_right _ (hpt.mem_iff.2 List.mem_cons_self)))
      refine w_skip ?_
      refine st_tn ?_
      refine w_block ?_
      refine w_seq ?_
      refine w_region ?_
      refine wl_det rfl rfl rfl (op_entry (kt := KL) (encV := encF) rfl (Ent.app hm _) (It.lab 15 rfl)) ?_
      refine wl_det rfl rfl rfl (op_extract rfl rfl) ?_
      refine wl_det rfl rfl rfl (op_extract rfl rfl) ?_
      refine wl_op [] rfl rfl rfl rfl (op_alloc (l := 6) tN68j) ?_
      rintro _ _ ⟨b6, rfl, rfl⟩
      refine wl_det rfl rfl rfl (op_assign rfl) ?_
      refine wl_op0 [6] rfl rfl rfl (op_store rfl rfl tZ68j (by rfl) (by rfl) (by exact Nat.le_of_ble_eq_true rfl)) ?_
      rintro _ _ ⟨rfl, rfl⟩
      refine wl_nil ?_
      refine st_tn ?_
      refine w_seq ?_
      by_cases hf : (find fs2 p.1).isSome = true
      · -- hf+
        obtain ⟨f, hff⟩ := Option.isSome_iff_exists.1 hf
        refine w_region ?_
        refine wl_det rfl rfl rfl (op_move rfl) ?_
        refine wl_det rfl rfl rfl (op_move rfl) ?_
        refine wl_det rfl rfl rfl (op_val (v' := .tuple #[encF f, .bool true]) (by rw [hlk, hff]; rfl) (op_lookup2 (kt := KL) (encV := encF) rfl rfl tQ63j tN68j (Ent.app hm2' _))) ?_
        refine wl_det rfl rfl rfl (op_move rfl) ?_
        refine wl_det rfl rfl rfl (op_extract rfl rfl) ?_
        refine wl_det rfl rfl rfl (op_extract rfl rfl) ?_
        refine wl_op [] rfl rfl rfl rfl (op_alloc (l := 7) tN68j) ?_
        rintro _ _ ⟨b7, rfl, rfl⟩
        refine wl_op0 [7] rfl rfl rfl (op_store rfl rfl tZ68j (by rfl) (by rfl) (by exact Nat.le_of_ble_eq_true rfl)) ?_
        rintro _ _ ⟨rfl, rfl⟩
        refine wl_det rfl rfl rfl (op_assign rfl) ?_
        refine wl_nil ?_
        refine st_tn ?_
        refine w_seq ?_
        refine w_region ?_
        refine wl_det rfl rfl rfl (op_move rfl) ?_
        refine wl_det rfl rfl rfl (op_not_t rfl) ?_
        refine wl_det rfl rfl rfl (op_move rfl) ?_
        refine wl_wanted_det rfl rfl rfl rfl rfl rfl rfl (op_loadA rfl tA68j (Ent.lab (l := 6) rfl (says_cel 0)) (Nat.le_of_ble_eq_true rfl)) ?_
        refine wl_wanted_det rfl rfl rfl rfl rfl rfl rfl (op_loadA rfl tA68j (Ent.lab (l := 7) rfl (says_cel 0)) (Nat.le_of_ble_eq_true rfl)) ?_
        refine wl_wanted_det rfl rfl rfl rfl rfl rfl rfl (op_neA rfl rfl g68 (eq_file p.2 f)) ?_
        refine wl_det rfl rfl rfl (op_pick_f rfl rfl) ?_
        refine wl_nil ?_
        refine st_tn ?_
        refine w_cond rfl (fun hc33 => ?_) (fun hc33 => ?_)
        · -- c33.t
          refine w_seq ?_
          refine w_region ?_
          refine wl_det rfl rfl rfl (op_assign rfl) ?_
          refine wl_nil ?_
          refine st_tn ?_
          refine w_ret ?_
          refine st_br ?_
          refine st_tr ?_
          refine st_br ?_
          refine st_tr ?_
          refine st_ret (vs := [_]) [] Try.results46 ⟨rfl, trivial⟩ rfl ?_
          refine ⟨_, rfl, ?_⟩
          have : fs1 ≠ fs2 := fun e => by
            rw [← e, find_of hi1 hpm] at hff
            have : ¬ p.2 = f := by simpa using hc33
            exact this (by simpa using hff)
          exact ⟨by simp [retv, this], rfl⟩
        · -- c33.f
          refine w_skip ?_
          refine st_bn ?_
          refine st_roundQ (x := (dn_it, td_it)) ((_, _)) [15] rfl (rfl) (.nil _) (.cons rfl (.cons rfl (.nil _))) (by
              try dsimp only
              refine ⟨perm_next hperm hpt, fun q hq => ?_⟩
              rcases List.mem_cons.1 hq with rfl | hq
              · have : q.2 = f := by simpa using hc33
                rw [hff, this]
              · exact hn q hq) (by
              try dsimp only
              have := hpt.length_eq; simp at this; omega) 
      · -- hf-
        have hff : find fs2 p.1 = none := by simpa using hf
        refine w_region ?_
        refine wl_det rfl rfl rfl (op_move rfl) ?_
        refine wl_det rfl rfl rfl (op_move rfl) ?_
        refine wl_det rfl rfl rfl (op_val (v' := .tuple #[encF zeroF, .bool false]) (by rw [hlk, hff]; rfl) (op_lookup2 (kt := KL) (encV := encF) rfl rfl tQ63j tN68j (Ent.app hm2' _))) ?_
        refine wl_det rfl rfl rfl (op_move rfl) ?_
        refine wl_det rfl rfl rfl (op_extract rfl rfl) ?_
        refine wl_det rfl rfl rfl (op_extract rfl rfl) ?_
        refine wl_op [] rfl rfl rfl rfl (op_alloc (l := 7) tN68j) ?_
        rintro _ _ ⟨b7, rfl, rfl⟩
        refine wl_op0 [7] rfl rfl rfl (op_store rfl rfl tZ68j (by rfl) (by rfl) (by exact Nat.le_of_ble_eq_true rfl)) ?_
        rintro _ _ ⟨rfl, rfl⟩
        refine wl_det rfl rfl rfl (op_assign rfl) ?_
        refine wl_nil ?_
        refine st_tn ?_
        refine w_seq ?_
        refine w_region ?_
        refine wl_det rfl rfl rfl (op_move rfl) ?_
        refine wl_det rfl rfl rfl (op_not_f rfl) ?_
        refine wl_det rfl rfl rfl (op_move rfl) ?_
        refine wl_unwanted rfl rfl rfl rfl rfl rfl rfl rfl ?_
        refine wl_unwanted rfl rfl rfl rfl rfl rfl rfl rfl ?_
        refine wl_unwanted rfl rfl rfl rfl rfl rfl rfl rfl ?_
        refine wl_det rfl rfl rfl (op_pick_t rfl rfl) ?_
        refine wl_nil ?_
        refine st_tn ?_
        refine w_cond_t (rfl) ?_
        refine w_seq ?_
        refine w_region ?_
        refine wl_det rfl rfl rfl (op_assign rfl) ?_
        refine wl_nil ?_
        refine st_tn ?_
        refine w_ret ?_
        refine st_br ?_
        refine st_tr ?_
        refine st_br ?_
        refine st_tr ?_
        refine st_ret (vs := [_]) [] Try.results46 ⟨rfl, trivial⟩ rfl ?_
        refine ⟨_, rfl, ?_⟩
        have : fs1 ≠ fs2 := fun e => by rw [← e, find_of hi1 hpm] at hff; simp at hff
        exact ⟨by simp [retv, this], rfl⟩
    · -- c17.f
      have ho : o16 = none := by simpa using hc17
      subst ho
      obtain ⟨htd, hdn16, htd16⟩ : td_it = [] ∧ dn16 = dn_it ∧ td16 = [] := hn16
      subst htd
      rw [List.append_nil] at hperm
      refine w_exit ?_
      refine st_te ?_
      refine st_te ?_
      refine st_be ?_
      refine st_tn ?_
      refine w_seq ?_
      refine w_region ?_
      refine wl_det rfl rfl rfl (op_assign rfl) ?_
      refine wl_nil ?_
      refine st_tn ?_
      refine w_ret ?_
      refine st_ret (vs := [_]) [] Try.results46 ⟨rfl, trivial⟩ rfl ?_
      refine ⟨_, rfl, ?_⟩
      have : fs1 = fs2 := sub_eq hi1 hi2 (fun p hp => find_mem (hn p (hperm.mem_iff.2 (hp1.mem_iff.2 hp)))) (by omega)
      exact ⟨by simp [retv, this], rfl⟩

theorem St.ext_iff' (s t : St) : s = t ↔ s.cap = t.cap ∧ s.down = t.down ∧ s.lim = t.lim ∧ s.left = t.left ∧ s.fs = t.fs := by
  constructor
  · rintro rfl; exact ⟨rfl, rfl, rfl, rfl, rfl⟩
  · obtain ⟨a, b, c, d, e⟩ := s
    obtain ⟨a', b', c', d', e'⟩ := t
    rintro ⟨h1, h2, h3, h4, h5⟩
    simp only at h1 h2 h3 h4 h5
    subst h1; subst h2; subst h3; subst h4; subst h5; rfl
theorem dec_st (s t : St) : decide (s = t) = decide (s.cap = t.cap ∧ s.down = t.down ∧ s.lim = t.lim ∧ s.left = t.left ∧ s.fs = t.fs) := decide_eq_decide.2 (St.ext_iff' s t)
set_option maxHeartbeats 2000000 in
set_option maxRecDepth 100000 in
theorem equal_any {σ : World} {F : List Res} {b1 m1 b2 m2 : Nat} {s t : St} {l1 l2 : Files} {bs : List Nat} {ck : Nat} (hg1 : DskM.Good s) (hg2 : DskM.Good t) (hp1 : l1.Perm s.fs) (hp2 : l2.Perm t.fs) (hd1 : Ent σ F (At ⟨b1, 0, none⟩ (cellD s m1))) (hd2 : Ent σ F (At ⟨b2, 0, none⟩ (cellD t m2))) (hm : Me σ F KL encF m1 l1 bs ck) (hm2' : Mr σ F KL encF (.map (some m2)) l2) :
    FnT Try.prog σ F 30 [.pointer (some ⟨b1, 0, none⟩), .pointer (some ⟨b2, 0, none⟩)] [] (fun u ρ => u = .bool (decide (s = t)) ∧ ρ = []) := by
  refine fn_of 67 Try.func30 rfl Try.ntmps30 rfl ?_
  refine w_seq ?_
  refine w_region ?_
  refine wl_det rfl rfl rfl (op_assign rfl) ?_
  refine wl_nil ?_
  refine st_tn ?_
  refine w_seq ?_
  refine w_seq ?_
  refine w_region ?_
  refine wl_det rfl rfl rfl (op_move rfl) ?_
  refine wl_det rfl rfl rfl (op_val (v' := .bool false) (by simp) (op_eqPtr rfl Try.underlying22)) ?_
  refine wl_det rfl rfl rfl (op_move rfl) ?_
  refine wl_wanted_det rfl rfl rfl rfl rfl rfl rfl (op_move rfl) ?_
  refine wl_wanted_det rfl rfl rfl rfl rfl rfl rfl (op_val (v' := .bool false) (by simp) (op_eqPtr rfl Try.underlying22)) ?_
  refine wl_det rfl rfl rfl (op_pick_f rfl rfl) ?_
  refine wl_nil ?_
  refine st_tn ?_
  refine w_cond_f (rfl) ?_
  refine w_skip ?_
  refine st_tn ?_
  refine w_seq ?_
  by_cases h1 : s.cap = t.cap
  · -- h1+
    by_cases h2 : s.down = t.down
    · -- h2+
      by_cases h3 : s.lim = t.lim
      · -- h3+
        by_cases h4 : s.left = t.left
        · -- h4+
          refine w_drawW (fun β => (⟨14, [], [], [], noW (_), false, [], []⟩ :: ⟨15, [0], [], [], noW (_), false, [], []⟩ :: ⟨16, [1], [], [], noW (_), false, [], []⟩ :: ⟨17, [2], [], [], noW (_), false, [], []⟩ :: ⟨18, [], [], [], noW (_), false, [], []⟩ :: ⟨19, [4], [], [], noW (_), false, [], []⟩ :: ⟨20, [5], [], [], noW (_), false, [], []⟩ :: ⟨21, [6], [], [], noW (_), false, [], []⟩ :: ⟨22, [3, 7], [], [], noW (_), false, [], []⟩ :: ⟨23, [8], [], [], noW (_), false, [], []⟩ :: ⟨24, [], [], [], noW (_), false, [], []⟩ :: ⟨25, [10], [], [], noW (_), false, [], []⟩ :: ⟨26, [11], [], [], noW (_), false, [], []⟩ :: ⟨27, [12], [], [], noW (_), false, [], []⟩ :: ⟨28, [], [], [], noW (_), false, [], []⟩ :: ⟨29, [14], [], [], noW (_), false, [], []⟩ :: ⟨30, [15], [], [], noW (_), false, [], []⟩ :: ⟨31, [16], [], [], noW (_), false, [], []⟩ :: ⟨32, [13, 17], [], [], noW (_), false, [], []⟩ :: ⟨33, [9, 18], [], [], noW (_), false, [], []⟩ :: ⟨34, [19], [], [], noW (_), false, [], []⟩ :: ⟨35, [], [], [], noW (_), false, [], []⟩ :: ⟨36, [21], [], [], noW (_), false, [], []⟩ :: ⟨37, [22], [], [], noW (_), false, [], []⟩ :: ⟨38, [23], [], [], noW (_), false, [], []⟩ :: ⟨39, [], [], [], noW (_), false, [], []⟩ :: ⟨40, [25], [], [], noW (_), false, [], []⟩ :: ⟨41, [26], [], [], noW (_), false, [], []⟩ :: ⟨42, [27], [], [], noW (_), false, [], []⟩ :: ⟨43, [24, 28], [], [], noW (_), false, [], []⟩ :: ⟨44, [20, 29], [], [], noW (_), false, [], []⟩ :: ⟨45, [30], [], [], noW (_), false, [], []⟩ :: ⟨46, [], [], [], noW (_), false, [], []⟩ :: ⟨47, [32], [], [], noW (_), false, [], []⟩ :: ⟨48, [33], [], [], noW (_), false, [], []⟩ :: ⟨49, [34], [], [], noW (_), false, [], []⟩ :: ⟨50, [], [], [], noW (_), false, [], []⟩ :: ⟨51, [36], [], [], noW (_), false, [], []⟩ :: ⟨52, [37], [], [], noW (_), false, [], []⟩ :: ⟨53, [38], [], [], noW (_), false, [], []⟩ :: ⟨54, [35, 39], [], [], noW (_), false, [], []⟩ :: ⟨55, [31, 40], [], [], noW (_), false, [], []⟩ :: ⟨56, [41], [], [], noW (_), false, [], []⟩ :: ⟨57, [], [], [], noW (_), false, [], []⟩ :: ⟨58, [43], [], [], noW (_), false, [], []⟩ :: ⟨59, [44], [], [], noW (_), false, [], []⟩ :: ⟨60, [45], [], [], noW (_), false, [], []⟩ :: ⟨61, [], [], [], noW (_), false, [], []⟩ :: ⟨62, [47], [], [], noW (_), false, [], []⟩ :: ⟨63, [48], [], [], noW (_), false, [], []⟩ :: ⟨64, [49], [], [], noW (_), false, [], []⟩ :: ⟨65, [46, 50], [], [], noW (_), false, [], []⟩ :: ⟨66, [42, 51], [], [], noW (_), false, [], []⟩ :: [])) [] [0, 1] (⟨14, [], [], false, [], []⟩ :: ⟨15, [0], [], false, [], []⟩ :: ⟨16, [1], [], false, [], []⟩ :: ⟨17, [2], [], false, [], []⟩ :: ⟨18, [], [], false, [], []⟩ :: ⟨19, [4], [], false, [], []⟩ :: ⟨20, [5], [], false, [], []⟩ :: ⟨21, [6], [], false, [], []⟩ :: ⟨22, [3, 7], [], false, [], []⟩ :: ⟨23, [8], [], false, [], []⟩ :: ⟨24, [], [], false, [], []⟩ :: ⟨25, [10], [], false, [], []⟩ :: ⟨26, [11], [], false, [], []⟩ :: ⟨27, [12], [], false, [], []⟩ :: ⟨28, [], [], false, [], []⟩ :: ⟨29, [14], [], false, [], []⟩ :: ⟨30, [15], [], false, [], []⟩ :: ⟨31, [16], [], false, [], []⟩ :: ⟨32, [13, 17], [], false, [], []⟩ :: ⟨33, [9, 18], [], false, [], []⟩ :: ⟨34, [19], [], false, [], []⟩ :: ⟨35, [], [], false, [], []⟩ :: ⟨36, [21], [], false, [], []⟩ :: ⟨37, [22], [], false, [], []⟩ :: ⟨38, [23], [], false, [], []⟩ :: ⟨39, [], [], false, [], []⟩ :: ⟨40, [25], [], false, [], []⟩ :: ⟨41, [26], [], false, [], []⟩ :: ⟨42, [27], [], false, [], []⟩ :: ⟨43, [24, 28], [], false, [], []⟩ :: ⟨44, [20, 29], [], false, [], []⟩ :: ⟨45, [30], [], false, [], []⟩ :: ⟨46, [], [], false, [], []⟩ :: ⟨47, [32], [], false, [], []⟩ :: ⟨48, [33], [], false, [], []⟩ :: ⟨49, [34], [], false, [], []⟩ :: ⟨50, [], [], false, [], []⟩ :: ⟨51, [36], [], false, [], []⟩ :: ⟨52, [37], [], false, [], []⟩ :: ⟨53, [38], [], false, [], []⟩ :: ⟨54, [35, 39], [], false, [], []⟩ :: ⟨55, [31, 40], [], false, [], []⟩ :: ⟨56, [41], [], false, [], []⟩ :: ⟨57, [], [], false, [], []⟩ :: ⟨58, [43], [], false, [], []⟩ :: ⟨59, [44], [], false, [], []⟩ :: ⟨60, [45], [], false, [], []⟩ :: ⟨61, [], [], false, [], []⟩ :: ⟨62, [47], [], false, [], []⟩ :: ⟨63, [48], [], false, [], []⟩ :: ⟨64, [49], [], false, [], []⟩ :: ⟨65, [46, 50], [], false, [], []⟩ :: ⟨66, [42, 51], [], false, [], []⟩ :: []) ([] :: [] :: [] :: [] :: [] :: [] :: [] :: [] :: [] :: [] :: [] :: [] :: [] :: [] :: [] :: [] :: [] :: [] :: [] :: [] :: [] :: [] :: [] :: [] :: [] :: [] :: [] :: [] :: [] :: [] :: [] :: [] :: [] :: [] :: [] :: [] :: [] :: [] :: [] :: [] :: [] :: [] :: [] :: [] :: [] :: [] :: [] :: [] :: [] :: [] :: [] :: [] :: [] :: []) ([] :: [] :: [] :: [] :: [] :: [] :: [] :: [] :: [] :: [] :: [] :: [] :: [] :: [] :: [] :: [] :: [] :: [] :: [] :: [] :: [] :: [] :: [] :: [] :: [] :: [] :: [] :: [] :: [] :: [] :: [] :: [] :: [] :: [] :: [] :: [] :: [] :: [] :: [] :: [] :: [] :: [] :: [] :: [] :: [] :: [] :: [] :: [] :: [] :: [] :: [] :: [] :: [] :: []) tMixj (fun _ => by rfl) (fun _ => by rfl) (by kernel_rfl) (by kernel_rfl) (by rfl) (by rfl)
              (fun β => ⟨.p rfl (by intro X; exact op_move rfl),
              ⟨.p rfl (by intro X; rintro _ _ ⟨rfl, rfl⟩; exact op_nilCheck rfl),
              ⟨.p rfl (by intro X; rintro _ _ ⟨rfl, rfl⟩; exact op_fieldAddr (off := 0) rfl tF65_0j),
              ⟨.p rfl (by intro X; rintro _ _ ⟨rfl, rfl⟩; exact op_load1 rfl tO3j (Ent.app (Ent.app (Ent.fld hd1 0) X) _)),
              ⟨.p rfl (by intro X; exact op_move rfl),
              ⟨.p rfl (by intro X; rintro _ _ ⟨rfl, rfl⟩; exact op_nilCheck rfl),
              ⟨.p rfl (by intro X; rintro _ _ ⟨rfl, rfl⟩; exact op_fieldAddr (off := 0) rfl tF65_0j),
              ⟨.p rfl (by intro X; rintro _ _ ⟨rfl, rfl⟩; exact op_load1 rfl tO3j (Ent.app (Ent.app (Ent.fld hd2 0) X) _)),
              ⟨.p rfl (by intro X; rintro _ _ ⟨rfl, rfl⟩ _ _ ⟨rfl, rfl⟩; exact op_val (v' := .bool true) (by simp [h1]) (op_eql rfl rfl)),
              ⟨.p rfl (by intro X; rintro _ _ ⟨rfl, rfl⟩; exact op_move rfl),
              ⟨.w rfl rfl rfl (by rintro _ _ ⟨rfl, rfl⟩; rfl) (by intro X; exact op_move rfl),
              ⟨.w rfl rfl rfl (by rintro _ _ ⟨rfl, rfl⟩; rfl) (by intro X; rintro _ _ ⟨rfl, rfl⟩; exact op_nilCheck rfl),
              ⟨.w rfl rfl rfl (by rintro _ _ ⟨rfl, rfl⟩; rfl) (by intro X; rintro _ _ ⟨rfl, rfl⟩; exact op_fieldAddr (off := 2) rfl tF65_2j),
              ⟨.w rfl rfl rfl (by rintro _ _ ⟨rfl, rfl⟩; rfl) (by intro X; rintro _ _ ⟨rfl, rfl⟩; exact op_load1 rfl tO4j (Ent.app (Ent.app (Ent.fld hd1 2) X) _)),
              ⟨.w rfl rfl rfl (by rintro _ _ ⟨rfl, rfl⟩; rfl) (by intro X; exact op_move rfl),
              ⟨.w rfl rfl rfl (by rintro _ _ ⟨rfl, rfl⟩; rfl) (by intro X; rintro _ _ ⟨rfl, rfl⟩; exact op_nilCheck rfl),
              ⟨.w rfl rfl rfl (by rintro _ _ ⟨rfl, rfl⟩; rfl) (by intro X; rintro _ _ ⟨rfl, rfl⟩; exact op_fieldAddr (off := 2) rfl tF65_2j),
              ⟨.w rfl rfl rfl (by rintro _ _ ⟨rfl, rfl⟩; rfl) (by intro X; rintro _ _ ⟨rfl, rfl⟩; exact op_load1 rfl tO4j (Ent.app (Ent.app (Ent.fld hd2 2) X) _)),
              ⟨.w rfl rfl rfl (by rintro _ _ ⟨rfl, rfl⟩; rfl) (by intro X; rintro _ _ ⟨rfl, rfl⟩ _ _ ⟨rfl, rfl⟩; exact op_val (v' := .bool true) (by simp [h2]) (op_eqB rfl rfl Try.underlying4)),
              ⟨.p rfl (by intro X; rintro _ _ ⟨rfl, rfl⟩ _ _ ⟨rfl, rfl⟩; exact op_pick_t rfl rfl),
              ⟨.p rfl (by intro X; rintro _ _ ⟨rfl, rfl⟩; exact op_move rfl),
              ⟨.w rfl rfl rfl (by rintro _ _ ⟨rfl, rfl⟩; rfl) (by intro X; exact op_move rfl),
              ⟨.w rfl rfl rfl (by rintro _ _ ⟨rfl, rfl⟩; rfl) (by intro X; rintro _ _ ⟨rfl, rfl⟩; exact op_nilCheck rfl),
              ⟨.w rfl rfl rfl (by rintro _ _ ⟨rfl, rfl⟩; rfl) (by intro X; rintro _ _ ⟨rfl, rfl⟩; exact op_fieldAddr (off := 3) rfl tF65_3j),
              ⟨.w rfl rfl rfl (by rintro _ _ ⟨rfl, rfl⟩; rfl) (by intro X; rintro _ _ ⟨rfl, rfl⟩; exact op_load1 rfl tO4j (Ent.app (Ent.app (Ent.fld hd1 3) X) _)),
              ⟨.w rfl rfl rfl (by rintro _ _ ⟨rfl, rfl⟩; rfl) (by intro X; exact op_move rfl),
              ⟨.w rfl rfl rfl (by rintro _ _ ⟨rfl, rfl⟩; rfl) (by intro X; rintro _ _ ⟨rfl, rfl⟩; exact op_nilCheck rfl),
              ⟨.w rfl rfl rfl (by rintro _ _ ⟨rfl, rfl⟩; rfl) (by intro X; rintro _ _ ⟨rfl, rfl⟩; exact op_fieldAddr (off := 3) rfl tF65_3j),
              ⟨.w rfl rfl rfl (by rintro _ _ ⟨rfl, rfl⟩; rfl) (by intro X; rintro _ _ ⟨rfl, rfl⟩; exact op_load1 rfl tO4j (Ent.app (Ent.app (Ent.fld hd2 3) X) _)),
              ⟨.w rfl rfl rfl (by rintro _ _ ⟨rfl, rfl⟩; rfl) (by intro X; rintro _ _ ⟨rfl, rfl⟩ _ _ ⟨rfl, rfl⟩; exact op_val (v' := .bool true) (by simp [h3]) (op_eqB rfl rfl Try.underlying4)),
              ⟨.p rfl (by intro X; rintro _ _ ⟨rfl, rfl⟩ _ _ ⟨rfl, rfl⟩; exact op_pick_t rfl rfl),
              ⟨.p rfl (by intro X; rintro _ _ ⟨rfl, rfl⟩; exact op_move rfl),
              ⟨.w rfl rfl rfl (by rintro _ _ ⟨rfl, rfl⟩; rfl) (by intro X; exact op_move rfl),
              ⟨.w rfl rfl rfl (by rintro _ _ ⟨rfl, rfl⟩; rfl) (by intro X; rintro _ _ ⟨rfl, rfl⟩; exact op_nilCheck rfl),
              ⟨.w rfl rfl rfl (by rintro _ _ ⟨rfl, rfl⟩; rfl) (by intro X; rintro _ _ ⟨rfl, rfl⟩; exact op_fieldAddr (off := 4) rfl tF65_4j),
              ⟨.w rfl rfl rfl (by rintro _ _ ⟨rfl, rfl⟩; rfl) (by intro X; rintro _ _ ⟨rfl, rfl⟩; exact op_load1 rfl tO3j (Ent.app (Ent.app (Ent.fld hd1 4) X) _)),
              ⟨.w rfl rfl rfl (by rintro _ _ ⟨rfl, rfl⟩; rfl) (by intro X; exact op_move rfl),
              ⟨.w rfl rfl rfl (by rintro _ _ ⟨rfl, rfl⟩; rfl) (by intro X; rintro _ _ ⟨rfl, rfl⟩; exact op_nilCheck rfl),
              ⟨.w rfl rfl rfl (by rintro _ _ ⟨rfl, rfl⟩; rfl) (by intro X; rintro _ _ ⟨rfl, rfl⟩; exact op_fieldAddr (off := 4) rfl tF65_4j),
              ⟨.w rfl rfl rfl (by rintro _ _ ⟨rfl, rfl⟩; rfl) (by intro X; rintro _ _ ⟨rfl, rfl⟩; exact op_load1 rfl tO3j (Ent.app (Ent.app (Ent.fld hd2 4) X) _)),
              ⟨.w rfl rfl rfl (by rintro _ _ ⟨rfl, rfl⟩; rfl) (by intro X; rintro _ _ ⟨rfl, rfl⟩ _ _ ⟨rfl, rfl⟩; exact op_val (v' := .bool true) (by simp [h4]) (op_eql rfl rfl)),
              ⟨.p rfl (by intro X; rintro _ _ ⟨rfl, rfl⟩ _ _ ⟨rfl, rfl⟩; exact op_pick_t rfl rfl),
              ⟨.p rfl (by intro X; rintro _ _ ⟨rfl, rfl⟩; exact op_move rfl),
              ⟨.w rfl rfl rfl (by rintro _ _ ⟨rfl, rfl⟩; rfl) (by intro X; exact op_move rfl),
              ⟨.w rfl rfl rfl (by rintro _ _ ⟨rfl, rfl⟩; rfl) (by intro X; rintro _ _ ⟨rfl, rfl⟩; exact op_nilCheck rfl),
              ⟨.w rfl rfl rfl (by rintro _ _ ⟨rfl, rfl⟩; rfl) (by intro X; rintro _ _ ⟨rfl, rfl⟩; exact op_fieldAddr (off := 1) rfl tF65_1j),
              ⟨.w rfl rfl rfl (by rintro _ _ ⟨rfl, rfl⟩; rfl) (by intro X; rintro _ _ ⟨rfl, rfl⟩; exact op_load1 rfl tO63j (Ent.app (Ent.app (Ent.fld hd1 1) X) _)),
              ⟨.w rfl rfl rfl (by rintro _ _ ⟨rfl, rfl⟩; rfl) (by intro X; exact op_move rfl),
              ⟨.w rfl rfl rfl (by rintro _ _ ⟨rfl, rfl⟩; rfl) (by intro X; rintro _ _ ⟨rfl, rfl⟩; exact op_nilCheck rfl),
              ⟨.w rfl rfl rfl (by rintro _ _ ⟨rfl, rfl⟩; rfl) (by intro X; rintro _ _ ⟨rfl, rfl⟩; exact op_fieldAddr (off := 1) rfl tF65_1j),
              ⟨.w rfl rfl rfl (by rintro _ _ ⟨rfl, rfl⟩; rfl) (by intro X; rintro _ _ ⟨rfl, rfl⟩; exact op_load1 rfl tO63j (Ent.app (Ent.app (Ent.fld hd2 1) X) _)),
              ⟨.w rfl rfl rfl (by rintro _ _ ⟨rfl, rfl⟩; rfl) (by intro X; rintro _ _ ⟨rfl, rfl⟩ _ _ ⟨rfl, rfl⟩; exact op_fn Try.func46 rfl rfl rfl (mequal_any hp1 hp2 hg1.inc hg2.inc (Ent.app (Ent.app hm X) _) (Ent.app (Ent.app hm2' X) _))),
              ⟨.p rfl (by intro X; rintro _ _ ⟨rfl, rfl⟩ _ _ ⟨rfl, rfl⟩; exact op_pick_t rfl rfl),
              trivial⟩⟩⟩⟩⟩⟩⟩⟩⟩⟩⟩⟩⟩⟩⟩⟩⟩⟩⟩⟩⟩⟩⟩⟩⟩⟩⟩⟩⟩⟩⟩⟩⟩⟩⟩⟩⟩⟩⟩⟩⟩⟩⟩⟩⟩⟩⟩⟩⟩⟩⟩⟩⟩)
              (fun β β' => ⟨fun _ => by rfl, ⟨fun _ => by rfl, ⟨fun _ => by rfl, ⟨fun _ => by rfl, ⟨fun _ => by rfl, ⟨fun _ => by rfl, ⟨fun _ => by rfl, ⟨fun _ => by rfl, ⟨fun _ => by rfl, ⟨fun _ => by rfl, ⟨fun _ => by rfl, ⟨fun _ => by rfl, ⟨fun _ => by rfl, ⟨fun _ => by rfl, ⟨fun _ => by rfl, ⟨fun _ => by rfl, ⟨fun _ => by rfl, ⟨fun _ => by rfl, ⟨fun _ => by rfl, ⟨fun _ => by rfl, ⟨fun _ => by rfl, ⟨fun _ => by rfl, ⟨fun _ => by rfl, ⟨fun _ => by rfl, ⟨fun _ => by rfl, ⟨fun _ => by rfl, ⟨fun _ => by rfl, ⟨fun _ => by rfl, ⟨fun _ => by rfl, ⟨fun _ => by rfl, ⟨fun _ => by rfl, ⟨fun _ => by rfl, ⟨fun _ => by rfl, ⟨fun _ => by rfl, ⟨fun _ => by rfl, ⟨fun _ => by rfl, ⟨fun _ => by rfl, ⟨fun _ => by rfl, ⟨fun _ => by rfl, ⟨fun _ => by rfl, ⟨fun _ => by rfl, ⟨fun _ => by rfl, ⟨fun _ => by rfl, ⟨fun _ => by rfl, ⟨fun _ => by rfl, ⟨fun _ => by rfl, ⟨fun _ => by rfl, ⟨fun _ => by rfl, ⟨fun _ => by rfl, ⟨fun _ => by rfl, ⟨fun _ => by rfl, ⟨fun _ => by rfl, ⟨fun _ => by rfl, trivial⟩⟩⟩⟩⟩⟩⟩⟩⟩⟩⟩⟩⟩⟩⟩⟩⟩⟩⟩⟩⟩⟩⟩⟩⟩⟩⟩⟩⟩⟩⟩⟩⟩⟩⟩⟩⟩⟩⟩⟩⟩⟩⟩⟩⟩⟩⟩⟩⟩⟩⟩⟩⟩) ?_
          intro β
          rintro _ _ ⟨rfl, rfl⟩ _ _ ⟨rfl, rfl⟩ _ _ ⟨rfl, rfl⟩ _ _ ⟨rfl, rfl⟩ _ _ ⟨rfl, rfl⟩ _ _ ⟨rfl, rfl⟩ _ _ ⟨rfl, rfl⟩ _ _ ⟨rfl, rfl⟩ _ _ ⟨rfl, rfl⟩ _ _ ⟨rfl, rfl⟩ _ _ ⟨rfl, rfl⟩ _ _ ⟨rfl, rfl⟩ _ _ ⟨rfl, rfl⟩ _ _ ⟨rfl, rfl⟩ _ _ ⟨rfl, rfl⟩ _ _ ⟨rfl, rfl⟩ _ _ ⟨rfl, rfl⟩ _ _ ⟨rfl, rfl⟩ _ _ ⟨rfl, rfl⟩ _ _ ⟨rfl, rfl⟩ _ _ ⟨rfl, rfl⟩ _ _ ⟨rfl, rfl⟩ _ _ ⟨rfl, rfl⟩ _ _ ⟨rfl, rfl⟩ _ _ ⟨rfl, rfl⟩ _ _ ⟨rfl, rfl⟩ _ _ ⟨rfl, rfl⟩ _ _ ⟨rfl, rfl⟩ _ _ ⟨rfl, rfl⟩ _ _ ⟨rfl, rfl⟩ _ _ ⟨rfl, rfl⟩ _ _ ⟨rfl, rfl⟩ _ _ ⟨rfl, rfl⟩ _ _ ⟨rfl, rfl⟩ _ _ ⟨rfl, rfl⟩ _ _ ⟨rfl, rfl⟩ _ _ ⟨rfl, rfl⟩ _ _ ⟨rfl, rfl⟩ _ _ ⟨rfl, rfl⟩ _ _ ⟨rfl, rfl⟩ _ _ ⟨rfl, rfl⟩ _ _ ⟨rfl, rfl⟩ _ _ ⟨rfl, rfl⟩ _ _ ⟨rfl, rfl⟩ _ _ ⟨rfl, rfl⟩ _ _ ⟨rfl, rfl⟩ _ _ ⟨rfl, rfl⟩ _ _ ⟨rfl, rfl⟩ _ _ ⟨rfl, rfl⟩ _ _ ⟨rfl, rfl⟩ _ _ ⟨rfl, rfl⟩ _ _ ⟨rfl, rfl⟩ _ _ ⟨rfl, rfl⟩
          refine wl_norm (e' := [(66, _)]) (.cons rfl (.nil _)) (by dsimp only [cond_false, cond_true, List.nil_append, List.cons_append]) ?_
          refine wl_det rfl rfl rfl (op_assign rfl) ?_
          refine wl_nil ?_
          refine st_tn ?_
          refine w_ret ?_
          refine st_ret (vs := [_]) [] Try.results30 ⟨rfl, trivial⟩ rfl ?_
          refine ⟨_, rfl, ?_⟩
          refine ⟨?_, rfl⟩
          simp only [retv]
          rw [dec_st]
          simp [h1, h2, h3, h4]
        · -- h4-
          refine w_drawW (fun β => (⟨14, [], [], [], noW (_), false, [], []⟩ :: ⟨15, [0], [], [], noW (_), false, [], []⟩ :: ⟨16, [1], [], [], noW (_), false, [], []⟩ :: ⟨17, [2], [], [], noW (_), false, [], []⟩ :: ⟨18, [], [], [], noW (_), false, [], []⟩ :: ⟨19, [4], [], [], noW (_), false, [], []⟩ :: ⟨20, [5], [], [], noW (_), false, [], []⟩ :: ⟨21, [6], [], [], noW (_), false, [], []⟩ :: ⟨22, [3, 7], [], [], noW (_), false, [], []⟩ :: ⟨23, [8], [], [], noW (_), false, [], []⟩ :: ⟨24, [], [], [], noW (_), false, [], []⟩ :: ⟨25, [10], [], [], noW (_), false, [], []⟩ :: ⟨26, [11], [], [], noW (_), false, [], []⟩ :: ⟨27, [12], [], [], noW (_), false, [], []⟩ :: ⟨28, [], [], [], noW (_), false, [], []⟩ :: ⟨29, [14], [], [], noW (_), false, [], []⟩ :: ⟨30, [15], [], [], noW (_), false, [], []⟩ :: ⟨31, [16], [], [], noW (_), false, [], []⟩ :: ⟨32, [13, 17], [], [], noW (_), false, [], []⟩ :: ⟨33, [9, 18], [], [], noW (_), false, [], []⟩ :: ⟨34, [19], [], [], noW (_), false, [], []⟩ :: ⟨35, [], [], [], noW (_), false, [], []⟩ :: ⟨36, [21], [], [], noW (_), false, [], []⟩ :: ⟨37, [22], [], [], noW (_), false, [], []⟩ :: ⟨38, [23], [], [], noW (_), false, [], []⟩ :: ⟨39, [], [], [], noW (_), false, [], []⟩ :: ⟨40, [25], [], [], noW (_), false, [], []⟩ :: ⟨41, [26], [], [], noW (_), false, [], []⟩ :: ⟨42, [27], [], [], noW (_), false, [], []⟩ :: ⟨43, [24, 28], [], [], noW (_), false, [], []⟩ :: ⟨44, [20, 29], [], [], noW (_), false, [], []⟩ :: ⟨45, [30], [], [], noW (_), false, [], []⟩ :: ⟨46, [], [], [], noW (_), false, [], []⟩ :: ⟨47, [32], [], [], noW (_), false, [], []⟩ :: ⟨48, [33], [], [], noW (_), false, [], []⟩ :: ⟨49, [34], [], [], noW (_), false, [], []⟩ :: ⟨50, [], [], [], noW (_), false, [], []⟩ :: ⟨51, [36], [], [], noW (_), false, [], []⟩ :: ⟨52, [37], [], [], noW (_), false, [], []⟩ :: ⟨53, [38], [], [], noW (_), false, [], []⟩ :: ⟨54, [35, 39], [], [], noW (_), false, [], []⟩ :: ⟨55, [31, 40], [], [], noW (_), false, [], []⟩ :: ⟨56, [41], [], [], noW (_), false, [], []⟩ :: ⟨57, [], [], [], noW (Det undef), false, [], []⟩ :: ⟨58, [], [], [], noW (Det undef), false, [], []⟩ :: ⟨59, [], [], [], noW (Det undef), false, [], []⟩ :: ⟨60, [], [], [], noW (Det undef), false, [], []⟩ :: ⟨61, [], [], [], noW (Det undef), false, [], []⟩ :: ⟨62, [], [], [], noW (Det undef), false, [], []⟩ :: ⟨63, [], [], [], noW (Det undef), false, [], []⟩ :: ⟨64, [], [], [], noW (Det undef), false, [], []⟩ :: ⟨65, [], [], [], noW (Det undef), false, [], []⟩ :: ⟨66, [42, 51], [], [], noW (_), false, [], []⟩ :: [])) [] [0, 1] (⟨14, [], [], false, [], []⟩ :: ⟨15, [0], [], false, [], []⟩ :: ⟨16, [1], [], false, [], []⟩ :: ⟨17, [2], [], false, [], []⟩ :: ⟨18, [], [], false, [], []⟩ :: ⟨19, [4], [], false, [], []⟩ :: ⟨20, [5], [], false, [], []⟩ :: ⟨21, [6], [], false, [], []⟩ :: ⟨22, [3, 7], [], false, [], []⟩ :: ⟨23, [8], [], false, [], []⟩ :: ⟨24, [], [], false, [], []⟩ :: ⟨25, [10], [], false, [], []⟩ :: ⟨26, [11], [], false, [], []⟩ :: ⟨27, [12], [], false, [], []⟩ :: ⟨28, [], [], false, [], []⟩ :: ⟨29, [14], [], false, [], []⟩ :: ⟨30, [15], [], false, [], []⟩ :: ⟨31, [16], [], false, [], []⟩ :: ⟨32, [13, 17], [], false, [], []⟩ :: ⟨33, [9, 18], [], false, [], []⟩ :: ⟨34, [19], [], false, [], []⟩ :: ⟨35, [], [], false, [], []⟩ :: ⟨36, [21], [], false, [], []⟩ :: ⟨37, [22], [], false, [], []⟩ :: ⟨38, [23], [], false, [], []⟩ :: ⟨39, [], [], false, [], []⟩ :: ⟨40, [25], [], false, [], []⟩ :: ⟨41, [26], [], false, [], []⟩ :: ⟨42, [27], [], false, [], []⟩ :: ⟨43, [24, 28], [], false, [], []⟩ :: ⟨44, [20, 29], [], false, [], []⟩ :: ⟨45, [30], [], false, [], []⟩ :: ⟨46, [], [], false, [], []⟩ :: ⟨47, [32], [], false, [], []⟩ :: ⟨48, [33], [], false, [], []⟩ :: ⟨49, [34], [], false, [], []⟩ :: ⟨50, [], [], false, [], []⟩ :: ⟨51, [36], [], false, [], []⟩ :: ⟨52, [37], [], false, [], []⟩ :: ⟨53, [38], [], false, [], []⟩ :: ⟨54, [35, 39], [], false, [], []⟩ :: ⟨55, [31, 40], [], false, [], []⟩ :: ⟨56, [41], [], false, [], []⟩ :: ⟨57, [], [], false, [], []⟩ :: ⟨58, [], [], false, [], []⟩ :: ⟨59, [], [], false, [], []⟩ :: ⟨60, [], [], false, [], []⟩ :: ⟨61, [], [], false, [], []⟩ :: ⟨62, [], [], false, [], []⟩ :: ⟨63, [], [], false, [], []⟩ :: ⟨64, [], [], false, [], []⟩ :: ⟨65, [], [], false, [], []⟩ :: ⟨66, [42, 51], [], false, [], []⟩ :: []) ([] :: [] :: [] :: [] :: [] :: [] :: [] :: [] :: [] :: [] :: [] :: [] :: [] :: [] :: [] :: [] :: [] :: [] :: [] :: [] :: [] :: [] :: [] :: [] :: [] :: [] :: [] :: [] :: [] :: [] :: [] :: [] :: [] :: [] :: [] :: [] :: [] :: [] :: [] :: [] :: [] :: [] :: [] :: [] :: [] :: [] :: [] :: [] :: [] :: [] :: [] :: [] :: [] :: []) ([] :: [] :: [] :: [] :: [] :: [] :: [] :: [] :: [] :: [] :: [] :: [] :: [] :: [] :: [] :: [] :: [] :: [] :: [] :: [] :: [] :: [] :: [] :: [] :: [] :: [] :: [] :: [] :: [] :: [] :: [] :: [] :: [] :: [] :: [] :: [] :: [] :: [] :: [] :: [] :: [] :: [] :: [] :: [] :: [] :: [] :: [] :: [] :: [] :: [] :: [] :: [] :: [] :: []) tMixj (fun _ => by rfl) (fun _ => by rfl) (by kernel_rfl) (by kernel_rfl) (by rfl) (by rfl)
              (fun β => ⟨.p rfl (by intro X; exact op_move rfl),
              ⟨.p rfl (by intro X; rintro _ _ ⟨rfl, rfl⟩; exact op_nilCheck rfl),
              ⟨.p rfl (by intro X; rintro _ _ ⟨rfl, rfl⟩; exact op_fieldAddr (off := 0) rfl tF65_0j),
              ⟨.p rfl (by intro X; rintro _ _ ⟨rfl, rfl⟩; exact op_load1 rfl tO3j (Ent.app (Ent.app (Ent.fld hd1 0) X) _)),
              ⟨.p rfl (by intro X; exact op_move rfl),
              ⟨.p rfl (by intro X; rintro _ _ ⟨rfl, rfl⟩; exact op_nilCheck rfl),
              ⟨.p rfl (by intro X; rintro _ _ ⟨rfl, rfl⟩; exact op_fieldAddr (off := 0) rfl tF65_0j),
              ⟨.p rfl (by intro X; rintro _ _ ⟨rfl, rfl⟩; exact op_load1 rfl tO3j (Ent.app (Ent.app (Ent.fld hd2 0) X) _)),
              ⟨.p rfl (by intro X; rintro _ _ ⟨rfl, rfl⟩ _ _ ⟨rfl, rfl⟩; exact op_val (v' := .bool true) (by simp [h1]) (op_eql rfl rfl)),
              ⟨.p rfl (by intro X; rintro _ _ ⟨rfl, rfl⟩; exact op_move rfl),
              ⟨.w rfl rfl rfl (by rintro _ _ ⟨rfl, rfl⟩; rfl) (by intro X; exact op_move rfl),
              ⟨.w rfl rfl rfl (by rintro _ _ ⟨rfl, rfl⟩; rfl) (by intro X; rintro _ _ ⟨rfl, rfl⟩; exact op_nilCheck rfl),
              ⟨.w rfl rfl rfl (by rintro _ _ ⟨rfl, rfl⟩; rfl) (by intro X; rintro _ _ ⟨rfl, rfl⟩; exact op_fieldAddr (off := 2) rfl tF65_2j),
              ⟨.w rfl rfl rfl (by rintro _ _ ⟨rfl, rfl⟩; rfl) (by intro X; rintro _ _ ⟨rfl, rfl⟩; exact op_load1 rfl tO4j (Ent.app (Ent.app (Ent.fld hd1 2) X) _)),
              ⟨.w rfl rfl rfl (by rintro _ _ ⟨rfl, rfl⟩; rfl) (by intro X; exact op_move rfl),
              ⟨.w rfl rfl rfl (by rintro _ _ ⟨rfl, rfl⟩; rfl) (by intro X; rintro _ _ ⟨rfl, rfl⟩; exact op_nilCheck rfl),
              ⟨.w rfl rfl rfl (by rintro _ _ ⟨rfl, rfl⟩; rfl) (by intro X; rintro _ _ ⟨rfl, rfl⟩; exact op_fieldAddr (off := 2) rfl tF65_2j),
              ⟨.w rfl rfl rfl (by rintro _ _ ⟨rfl, rfl⟩; rfl) (by intro X; rintro _ _ ⟨rfl, rfl⟩; exact op_load1 rfl tO4j (Ent.app (Ent.app (Ent.fld hd2 2) X) _)),
              ⟨.w rfl rfl rfl (by rintro _ _ ⟨rfl, rfl⟩; rfl) (by intro X; rintro _ _ ⟨rfl, rfl⟩ _ _ ⟨rfl, rfl⟩; exact op_val (v' := .bool true) (by simp [h2]) (op_eqB rfl rfl Try.underlying4)),
              ⟨.p rfl (by intro X; rintro _ _ ⟨rfl, rfl⟩ _ _ ⟨rfl, rfl⟩; exact op_pick_t rfl rfl),
              ⟨.p rfl (by intro X; rintro _ _ ⟨rfl, rfl⟩; exact op_move rfl),
              ⟨.w rfl rfl rfl (by rintro _ _ ⟨rfl, rfl⟩; rfl) (by intro X; exact op_move rfl),
              ⟨.w rfl rfl rfl (by rintro _ _ ⟨rfl, rfl⟩; rfl) (by intro X; rintro _ _ ⟨rfl, rfl⟩; exact op_nilCheck rfl),
              ⟨.w rfl rfl rfl (by rintro _ _ ⟨rfl, rfl⟩; rfl) (by intro X; rintro _ _ ⟨rfl, rfl⟩; exact op_fieldAddr (off := 3) rfl tF65_3j),
              ⟨.w rfl rfl rfl (by rintro _ _ ⟨rfl, rfl⟩; rfl) (by intro X; rintro _ _ ⟨rfl, rfl⟩; exact op_load1 rfl tO4j (Ent.app (Ent.app (Ent.fld hd1 3) X) _)),
              ⟨.w rfl rfl rfl (by rintro _ _ ⟨rfl, rfl⟩; rfl) (by intro X; exact op_move rfl),
              ⟨.w rfl rfl rfl (by rintro _ _ ⟨rfl, rfl⟩; rfl) (by intro X; rintro _ _ ⟨rfl, rfl⟩; exact op_nilCheck rfl),
              ⟨.w rfl rfl rfl (by rintro _ _ ⟨rfl, rfl⟩; rfl) (by intro X; rintro _ _ ⟨rfl, rfl⟩; exact op_fieldAddr (off := 3) rfl tF65_3j),
              ⟨.w rfl rfl rfl (by rintro _ _ ⟨rfl, rfl⟩; rfl) (by intro X; rintro _ _ ⟨rfl, rfl⟩; exact op_load1 rfl tO4j (Ent.app (Ent.app (Ent.fld hd2 3) X) _)),
              ⟨.w rfl rfl rfl (by rintro _ _ ⟨rfl, rfl⟩; rfl) (by intro X; rintro _ _ ⟨rfl, rfl⟩ _ _ ⟨rfl, rfl⟩; exact op_val (v' := .bool true) (by simp [h3]) (op_eqB rfl rfl Try.underlying4)),
              ⟨.p rfl (by intro X; rintro _ _ ⟨rfl, rfl⟩ _ _ ⟨rfl, rfl⟩; exact op_pick_t rfl rfl),
              ⟨.p rfl (by intro X; rintro _ _ ⟨rfl, rfl⟩; exact op_move rfl),
              ⟨.w rfl rfl rfl (by rintro _ _ ⟨rfl, rfl⟩; rfl) (by intro X; exact op_move rfl),
              ⟨.w rfl rfl rfl (by rintro _ _ ⟨rfl, rfl⟩; rfl) (by intro X; rintro _ _ ⟨rfl, rfl⟩; exact op_nilCheck rfl),
              ⟨.w rfl rfl rfl (by rintro _ _ ⟨rfl, rfl⟩; rfl) (by intro X; rintro _ _ ⟨rfl, rfl⟩; exact op_fieldAddr (off := 4) rfl tF65_4j),
              ⟨.w rfl rfl rfl (by rintro _ _ ⟨rfl, rfl⟩; rfl) (by intro X; rintro _ _ ⟨rfl, rfl⟩; exact op_load1 rfl tO3j (Ent.app (Ent.app (Ent.fld hd1 4) X) _)),
              ⟨.w rfl rfl rfl (by rintro _ _ ⟨rfl, rfl⟩; rfl) (by intro X; exact op_move rfl),
              ⟨.w rfl rfl rfl (by rintro _ _ ⟨rfl, rfl⟩; rfl) (by intro X; rintro _ _ ⟨rfl, rfl⟩; exact op_nilCheck rfl),
              ⟨.w rfl rfl rfl (by rintro _ _ ⟨rfl, rfl⟩; rfl) (by intro X; rintro _ _ ⟨rfl, rfl⟩; exact op_fieldAddr (off := 4) rfl tF65_4j),
              ⟨.w rfl rfl rfl (by rintro _ _ ⟨rfl, rfl⟩; rfl) (by intro X; rintro _ _ ⟨rfl, rfl⟩; exact op_load1 rfl tO3j (Ent.app (Ent.app (Ent.fld hd2 4) X) _)),
              ⟨.w rfl rfl rfl (by rintro _ _ ⟨rfl, rfl⟩; rfl) (by intro X; rintro _ _ ⟨rfl, rfl⟩ _ _ ⟨rfl, rfl⟩; exact op_val (v' := .bool false) (by simp [h4]) (op_eql rfl rfl)),
              ⟨.p rfl (by intro X; rintro _ _ ⟨rfl, rfl⟩ _ _ ⟨rfl, rfl⟩; exact op_pick_t rfl rfl),
              ⟨.p rfl (by intro X; rintro _ _ ⟨rfl, rfl⟩; exact op_move rfl),
              ⟨.u rfl rfl rfl (by rintro _ _ ⟨rfl, rfl⟩; exact congrArg (offB true) (by rfl : _ = Value.bool false)) ⟨rfl, rfl⟩ rfl rfl,
              ⟨.u rfl rfl rfl (by rintro _ _ ⟨rfl, rfl⟩; exact congrArg (offB true) (by rfl : _ = Value.bool false)) ⟨rfl, rfl⟩ rfl rfl,
              ⟨.u rfl rfl rfl (by rintro _ _ ⟨rfl, rfl⟩; exact congrArg (offB true) (by rfl : _ = Value.bool false)) ⟨rfl, rfl⟩ rfl rfl,
              ⟨.u rfl rfl rfl (by rintro _ _ ⟨rfl, rfl⟩; exact congrArg (offB true) (by rfl : _ = Value.bool false)) ⟨rfl, rfl⟩ rfl rfl,
              ⟨.u rfl rfl rfl (by rintro _ _ ⟨rfl, rfl⟩; exact congrArg (offB true) (by rfl : _ = Value.bool false)) ⟨rfl, rfl⟩ rfl rfl,
              ⟨.u rfl rfl rfl (by rintro _ _ ⟨rfl, rfl⟩; exact congrArg (offB true) (by rfl : _ = Value.bool false)) ⟨rfl, rfl⟩ rfl rfl,
              ⟨.u rfl rfl rfl (by rintro _ _ ⟨rfl, rfl⟩; exact congrArg (offB true) (by rfl : _ = Value.bool false)) ⟨rfl, rfl⟩ rfl rfl,
              ⟨.u rfl rfl rfl (by rintro _ _ ⟨rfl, rfl⟩; exact congrArg (offB true) (by rfl : _ = Value.bool false)) ⟨rfl, rfl⟩ rfl rfl,
              ⟨.u rfl rfl rfl (by rintro _ _ ⟨rfl, rfl⟩; exact congrArg (offB true) (by rfl : _ = Value.bool false)) ⟨rfl, rfl⟩ rfl rfl,
              ⟨.p rfl (by intro X; rintro _ _ ⟨rfl, rfl⟩ _ _ ⟨rfl, rfl⟩; exact op_pick_f rfl rfl),
              trivial⟩⟩⟩⟩⟩⟩⟩⟩⟩⟩⟩⟩⟩⟩⟩⟩⟩⟩⟩⟩⟩⟩⟩⟩⟩⟩⟩⟩⟩⟩⟩⟩⟩⟩⟩⟩⟩⟩⟩⟩⟩⟩⟩⟩⟩⟩⟩⟩⟩⟩⟩⟩⟩)
              (fun β β' => ⟨fun _ => by rfl, ⟨fun _ => by rfl, ⟨fun _ => by rfl, ⟨fun _ => by rfl, ⟨fun _ => by rfl, ⟨fun _ => by rfl, ⟨fun _ => by rfl, ⟨fun _ => by rfl, ⟨fun _ => by rfl, ⟨fun _ => by rfl, ⟨fun _ => by rfl, ⟨fun _ => by rfl, ⟨fun _ => by rfl, ⟨fun _ => by rfl, ⟨fun _ => by rfl, ⟨fun _ => by rfl, ⟨fun _ => by rfl, ⟨fun _ => by rfl, ⟨fun _ => by rfl, ⟨fun _ => by rfl, ⟨fun _ => by rfl, ⟨fun _ => by rfl, ⟨fun _ => by rfl, ⟨fun _ => by rfl, ⟨fun _ => by rfl, ⟨fun _ => by rfl, ⟨fun _ => by rfl, ⟨fun _ => by rfl, ⟨fun _ => by rfl, ⟨fun _ => by rfl, ⟨fun _ => by rfl, ⟨fun _ => by rfl, ⟨fun _ => by rfl, ⟨fun _ => by rfl, ⟨fun _ => by rfl, ⟨fun _ => by rfl, ⟨fun _ => by rfl, ⟨fun _ => by rfl, ⟨fun _ => by rfl, ⟨fun _ => by rfl, ⟨fun _ => by rfl, ⟨fun _ => by rfl, ⟨fun _ => by rfl, ⟨fun _ => by rfl, ⟨fun _ => by rfl, ⟨fun _ => by rfl, ⟨fun _ => by rfl, ⟨fun _ => by rfl, ⟨fun _ => by rfl, ⟨fun _ => by rfl, ⟨fun _ => by rfl, ⟨fun _ => by rfl, ⟨fun _ => by rfl, trivial⟩⟩⟩⟩⟩⟩⟩⟩⟩⟩⟩⟩⟩⟩⟩⟩⟩⟩⟩⟩⟩⟩⟩⟩⟩⟩⟩⟩⟩⟩⟩⟩⟩⟩⟩⟩⟩⟩⟩⟩⟩⟩⟩⟩⟩⟩⟩⟩⟩⟩⟩⟩⟩) ?_
          intro β
          rintro _ _ ⟨rfl, rfl⟩ _ _ ⟨rfl, rfl⟩ _ _ ⟨rfl, rfl⟩ _ _ ⟨rfl, rfl⟩ _ _ ⟨rfl, rfl⟩ _ _ ⟨rfl, rfl⟩ _ _ ⟨rfl, rfl⟩ _ _ ⟨rfl, rfl⟩ _ _ ⟨rfl, rfl⟩ _ _ ⟨rfl, rfl⟩ _ _ ⟨rfl, rfl⟩ _ _ ⟨rfl, rfl⟩ _ _ ⟨rfl, rfl⟩ _ _ ⟨rfl, rfl⟩ _ _ ⟨rfl, rfl⟩ _ _ ⟨rfl, rfl⟩ _ _ ⟨rfl, rfl⟩ _ _ ⟨rfl, rfl⟩ _ _ ⟨rfl, rfl⟩ _ _ ⟨rfl, rfl⟩ _ _ ⟨rfl, rfl⟩ _ _ ⟨rfl, rfl⟩ _ _ ⟨rfl, rfl⟩ _ _ ⟨rfl, rfl⟩ _ _ ⟨rfl, rfl⟩ _ _ ⟨rfl, rfl⟩ _ _ ⟨rfl, rfl⟩ _ _ ⟨rfl, rfl⟩ _ _ ⟨rfl, rfl⟩ _ _ ⟨rfl, rfl⟩ _ _ ⟨rfl, rfl⟩ _ _ ⟨rfl, rfl⟩ _ _ ⟨rfl, rfl⟩ _ _ ⟨rfl, rfl⟩ _ _ ⟨rfl, rfl⟩ _ _ ⟨rfl, rfl⟩ _ _ ⟨rfl, rfl⟩ _ _ ⟨rfl, rfl⟩ _ _ ⟨rfl, rfl⟩ _ _ ⟨rfl, rfl⟩ _ _ ⟨rfl, rfl⟩ _ _ ⟨rfl, rfl⟩ _ _ ⟨rfl, rfl⟩ _ _ ⟨rfl, rfl⟩ _ _ ⟨rfl, rfl⟩ _ _ ⟨rfl, rfl⟩ _ _ ⟨rfl, rfl⟩ _ _ ⟨rfl, rfl⟩ _ _ ⟨rfl, rfl⟩ _ _ ⟨rfl, rfl⟩ _ _ ⟨rfl, rfl⟩ _ _ ⟨rfl, rfl⟩ _ _ ⟨rfl, rfl⟩
          refine wl_norm (e' := [(66, _)]) (.cons rfl (.nil _)) (by dsimp only [cond_false, cond_true, List.nil_append, List.cons_append]) ?_
          refine wl_det rfl rfl rfl (op_assign rfl) ?_
          refine wl_nil ?_
          refine st_tn ?_
          refine w_ret ?_
          refine st_ret (vs := [_]) [] Try.results30 ⟨rfl, trivial⟩ rfl ?_
          refine ⟨_, rfl, ?_⟩
          refine ⟨?_, rfl⟩
          simp only [retv]
          rw [dec_st]
          simp [h4]
      · -- h3-
        refine w_drawW (fun β => (⟨14, [], [], [], noW (_), false, [], []⟩ :: ⟨15, [0], [], [], noW (_), false, [], []⟩ :: ⟨16, [1], [], [], noW (_), false, [], []⟩ :: ⟨17, [2], [], [], noW (_), false, [], []⟩ :: ⟨18, [], [], [], noW (_), false, [], []⟩ :: ⟨19, [4], [], [], noW (_), false, [], []⟩ :: ⟨20, [5], [], [], noW (_), false, [], []⟩ :: ⟨21, [6], [], [], noW (_), false, [], []⟩ :: ⟨22, [3, 7], [], [], noW (_), false, [], []⟩ :: ⟨23, [8], [], [], noW (_), false, [], []⟩ :: ⟨24, [], [], [], noW (_), false, [], []⟩ :: ⟨25, [10], [], [], noW (_), false, [], []⟩ :: ⟨26, [11], [], [], noW (_), false, [], []⟩ :: ⟨27, [12], [], [], noW (_), false, [], []⟩ :: ⟨28, [], [], [], noW (_), false, [], []⟩ :: ⟨29, [14], [], [], noW (_), false, [], []⟩ :: ⟨30, [15], [], [], noW (_), false, [], []⟩ :: ⟨31, [16], [], [], noW (_), false, [], []⟩ :: ⟨32, [13, 17], [], [], noW (_), false, [], []⟩ :: ⟨33, [9, 18], [], [], noW (_), false, [], []⟩ :: ⟨34, [19], [], [], noW (_), false, [], []⟩ :: ⟨35, [], [], [], noW (_), false, [], []⟩ :: ⟨36, [21], [], [], noW (_), false, [], []⟩ :: ⟨37, [22], [], [], noW (_), false, [], []⟩ :: ⟨38, [23], [], [], noW (_), false, [], []⟩ :: ⟨39, [], [], [], noW (_), false, [], []⟩ :: ⟨40, [25], [], [], noW (_), false, [], []⟩ :: ⟨41, [26], [], [], noW (_), false, [], []⟩ :: ⟨42, [27], [], [], noW (_), false, [], []⟩ :: ⟨43, [24, 28], [], [], noW (_), false, [], []⟩ :: ⟨44, [20, 29], [], [], noW (_), false, [], []⟩ :: ⟨45, [30], [], [], noW (_), false, [], []⟩ :: ⟨46, [], [], [], noW (Det undef), false, [], []⟩ :: ⟨47, [], [], [], noW (Det undef), false, [], []⟩ :: ⟨48, [], [], [], noW (Det undef), false, [], []⟩ :: ⟨49, [], [], [], noW (Det undef), false, [], []⟩ :: ⟨50, [], [], [], noW (Det undef), false, [], []⟩ :: ⟨51, [], [], [], noW (Det undef), false, [], []⟩ :: ⟨52, [], [], [], noW (Det undef), false, [], []⟩ :: ⟨53, [], [], [], noW (Det undef), false, [], []⟩ :: ⟨54, [], [], [], noW (Det undef), false, [], []⟩ :: ⟨55, [31, 40], [], [], noW (_), false, [], []⟩ :: ⟨56, [41], [], [], noW (_), false, [], []⟩ :: ⟨57, [], [], [], noW (Det undef), false, [], []⟩ :: ⟨58, [], [], [], noW (Det undef), false, [], []⟩ :: ⟨59, [], [], [], noW (Det undef), false, [], []⟩ :: ⟨60, [], [], [], noW (Det undef), false, [], []⟩ :: ⟨61, [], [], [], noW (Det undef), false, [], []⟩ :: ⟨62, [], [], [], noW (Det undef), false, [], []⟩ :: ⟨63, [], [], [], noW (Det undef), false, [], []⟩ :: ⟨64, [], [], [], noW (Det undef), false, [], []⟩ :: ⟨65, [], [], [], noW (Det undef), false, [], []⟩ :: ⟨66, [42, 51], [], [], noW (_), false, [], []⟩ :: [])) [] [0, 1] (⟨14, [], [], false, [], []⟩ :: ⟨15, [0], [], false, [], []⟩ :: ⟨16, [1], [], false, [], []⟩ :: ⟨17, [2], [], false, [], []⟩ :: ⟨18, [], [], false, [], []⟩ :: ⟨19, [4], [], false, [], []⟩ :: ⟨20, [5], [], false, [], []⟩ :: ⟨21, [6], [], false, [], []⟩ :: ⟨22, [3, 7], [], false, [], []⟩ :: ⟨23, [8], [], false, [], []⟩ :: ⟨24, [], [], false, [], []⟩ :: ⟨25, [10], [], false, [], []⟩ :: ⟨26, [11], [], false, [], []⟩ :: ⟨27, [12], [], false, [], []⟩ :: ⟨28, [], [], false, [], []⟩ :: ⟨29, [14], [], false, [], []⟩ :: ⟨30, [15], [], false, [], []⟩ :: ⟨31, [16], [], false, [], []⟩ :: ⟨32, [13, 17], [], false, [], []⟩ :: ⟨33, [9, 18], [], false, [], []⟩ :: ⟨34, [19], [], false, [], []⟩ :: ⟨35, [], [], false, [], []⟩ :: ⟨36, [21], [], false, [], []⟩ :: ⟨37, [22], [], false, [], []⟩ :: ⟨38, [23], [], false, [], []⟩ :: ⟨39, [], [], false, [], []⟩ :: ⟨40, [25], [], false, [], []⟩ :: ⟨41, [26], [], false, [], []⟩ :: ⟨42, [27], [], false, [], []⟩ :: ⟨43, [24, 28], [], false, [], []⟩ :: ⟨44, [20, 29], [], false, [], []⟩ :: ⟨45, [30], [], false, [], []⟩ :: ⟨46, [], [], false, [], []⟩ :: ⟨47, [], [], false, [], []⟩ :: ⟨48, [], [], false, [], []⟩ :: ⟨49, [], [], false, [], []⟩ :: ⟨50, [], [], false, [], []⟩ :: ⟨51, [], [], false, [], []⟩ :: ⟨52, [], [], false, [], []⟩ :: ⟨53, [], [], false, [], []⟩ :: ⟨54, [], [], false, [], []⟩ :: ⟨55, [31, 40], [], false, [], []⟩ :: ⟨56, [41], [], false, [], []⟩ :: ⟨57, [], [], false, [], []⟩ :: ⟨58, [], [], false, [], []⟩ :: ⟨59, [], [], false, [], []⟩ :: ⟨60, [], [], false, [], []⟩ :: ⟨61, [], [], false, [], []⟩ :: ⟨62, [], [], false, [], []⟩ :: ⟨63, [], [], false, [], []⟩ :: ⟨64, [], [], false, [], []⟩ :: ⟨65, [], [], false, [], []⟩ :: ⟨66, [42, 51], [], false, [], []⟩ :: []) ([] :: [] :: [] :: [] :: [] :: [] :: [] :: [] :: [] :: [] :: [] :: [] :: [] :: [] :: [] :: [] :: [] :: [] :: [] :: [] :: [] :: [] :: [] :: [] :: [] :: [] :: [] :: [] :: [] :: [] :: [] :: [] :: [] :: [] :: [] :: [] :: [] :: [] :: [] :: [] :: [] :: [] :: [] :: [] :: [] :: [] :: [] :: [] :: [] :: [] :: [] :: [] :: [] :: []) ([] :: [] :: [] :: [] :: [] :: [] :: [] :: [] :: [] :: [] :: [] :: [] :: [] :: [] :: [] :: [] :: [] :: [] :: [] :: [] :: [] :: [] :: [] :: [] :: [] :: [] :: [] :: [] :: [] :: [] :: [] :: [] :: [] :: [] :: [] :: [] :: [] :: [] :: [] :: [] :: [] :: [] :: [] :: [] :: [] :: [] :: [] :: [] :: [] :: [] :: [] :: [] :: [] :: []) tMixj (fun _ => by rfl) (fun _ => by rfl) (by kernel_rfl) (by kernel_rfl) (by rfl) (by rfl)
            (fun β => ⟨.p rfl (by intro X; exact op_move rfl),
            ⟨.p rfl (by intro X; rintro _ _ ⟨rfl, rfl⟩; exact op_nilCheck rfl),
            ⟨.p rfl (by intro X; rintro _ _ ⟨rfl, rfl⟩; exact op_fieldAddr (off := 0) rfl tF65_0j),
            ⟨.p rfl (by intro X; rintro _ _ ⟨rfl, rfl⟩; exact op_load1 rfl tO3j (Ent.app (Ent.app (Ent.fld hd1 0) X) _)),
            ⟨.p rfl (by intro X; exact op_move rfl),
            ⟨.p rfl (by intro X; rintro _ _ ⟨rfl, rfl⟩; exact op_nilCheck rfl),
            ⟨.p rfl (by intro X; rintro _ _ ⟨rfl, rfl⟩; exact op_fieldAddr (off := 0) rfl tF65_0j),
            ⟨.p rfl (by intro X; rintro _ _ ⟨rfl, rfl⟩; exact op_load1 rfl tO3j (Ent.app (Ent.app (Ent.fld hd2 0) X) _)),
            ⟨.p rfl (by intro X; rintro _ _ ⟨rfl, rfl⟩ _ _ ⟨rfl, rfl⟩; exact op_val (v' := .bool true) (by simp [h1]) (op_eql rfl rfl)),
            ⟨.p rfl (by intro X; rintro _ _ ⟨rfl, rfl⟩; exact op_move rfl),
            ⟨.w rfl rfl rfl (by rintro _ _ ⟨rfl, rfl⟩; rfl) (by intro X; exact op_move rfl),
            ⟨.w rfl rfl rfl (by rintro _ _ ⟨rfl, rfl⟩; rfl) (by intro X; rintro _ _ ⟨rfl, rfl⟩; exact op_nilCheck rfl),
            ⟨.w rfl rfl rfl (by rintro _ _ ⟨rfl, rfl⟩; rfl) (by intro X; rintro _ _ ⟨rfl, rfl⟩; exact op_fieldAddr (off := 2) rfl tF65_2j),
            ⟨.w rfl rfl rfl (by rintro _ _ ⟨rfl, rfl⟩; rfl) (by intro X; rintro _ _ ⟨rfl, rfl⟩; exact op_load1 rfl tO4j (Ent.app (Ent.app (Ent.fld hd1 2) X) _)),
            ⟨.w rfl rfl rfl (by rintro _ _ ⟨rfl, rfl⟩; rfl) (by intro X; exact op_move rfl),
            ⟨.w rfl rfl rfl (by rintro _ _ ⟨rfl, rfl⟩; rfl) (by intro X; rintro _ _ ⟨rfl, rfl⟩; exact op_nilCheck rfl),
            ⟨.w rfl rfl rfl (by rintro _ _ ⟨rfl, rfl⟩; rfl) (by intro X; rintro _ _ ⟨rfl, rfl⟩; exact op_fieldAddr (off := 2) rfl tF65_2j),
            ⟨.w rfl rfl rfl (by rintro _ _ ⟨rfl, rfl⟩; rfl) (by intro X; rintro _ _ ⟨rfl, rfl⟩; exact op_load1 rfl tO4j (Ent.app (Ent.app (Ent.fld hd2 2) X) _)),
            ⟨.w rfl rfl rfl (by rintro _ _ ⟨rfl, rfl⟩; rfl) (by intro X; rintro _ _ ⟨rfl, rfl⟩ _ _ ⟨rfl, rfl⟩; exact op_val (v' := .bool true) (by simp [h2]) (op_eqB rfl rfl Try.underlying4)),
            ⟨.p rfl (by intro X; rintro _ _ ⟨rfl, rfl⟩ _ _ ⟨rfl, rfl⟩; exact op_pick_t rfl rfl),
            ⟨.p rfl (by intro X; rintro _ _ ⟨rfl, rfl⟩; exact op_move rfl),
            ⟨.w rfl rfl rfl (by rintro _ _ ⟨rfl, rfl⟩; rfl) (by intro X; exact op_move rfl),
            ⟨.w rfl rfl rfl (by rintro _ _ ⟨rfl, rfl⟩; rfl) (by intro X; rintro _ _ ⟨rfl, rfl⟩; exact op_nilCheck rfl),
            ⟨.w rfl rfl rfl (by rintro _ _ ⟨rfl, rfl⟩; rfl) (by intro X; rintro _ _ ⟨rfl, rfl⟩; exact op_fieldAddr (off := 3) rfl tF65_3j),
            ⟨.w rfl rfl rfl (by rintro _ _ ⟨rfl, rfl⟩; rfl) (by intro X; rintro _ _ ⟨rfl, rfl⟩; exact op_load1 rfl tO4j (Ent.app (Ent.app (Ent.fld hd1 3) X) _)),
            ⟨.w rfl rfl rfl (by rintro _ _ ⟨rfl, rfl⟩; rfl) (by intro X; exact op_move rfl),
            ⟨.w rfl rfl rfl (by rintro _ _ ⟨rfl, rfl⟩; rfl) (by intro X; rintro _ _ ⟨rfl, rfl⟩; exact op_nilCheck rfl),
            ⟨.w rfl rfl rfl (by rintro _ _ ⟨rfl, rfl⟩; rfl) (by intro X; rintro _ _ ⟨rfl, rfl⟩; exact op_fieldAddr (off := 3) rfl tF65_3j),
            ⟨.w rfl rfl rfl (by rintro _ _ ⟨rfl, rfl⟩; rfl) (by intro X; rintro _ _ ⟨rfl, rfl⟩; exact op_load1 rfl tO4j (Ent.app (Ent.app (Ent.fld hd2 3) X) _)),
            ⟨.w rfl rfl rfl (by rintro _ _ ⟨rfl, rfl⟩; rfl) (by intro X; rintro _ _ ⟨rfl, rfl⟩ _ _ ⟨rfl, rfl⟩; exact op_val (v' := .bool false) (by simp [h3]) (op_eqB rfl rfl Try.underlying4)),
            ⟨.p rfl (by intro X; rintro _ _ ⟨rfl, rfl⟩ _ _ ⟨rfl, rfl⟩; exact op_pick_t rfl rfl),
            ⟨.p rfl (by intro X; rintro _ _ ⟨rfl, rfl⟩; exact op_move rfl),
            ⟨.u rfl rfl rfl (by rintro _ _ ⟨rfl, rfl⟩; exact congrArg (offB true) (by rfl : _ = Value.bool false)) ⟨rfl, rfl⟩ rfl rfl,
            ⟨.u rfl rfl rfl (by rintro _ _ ⟨rfl, rfl⟩; exact congrArg (offB true) (by rfl : _ = Value.bool false)) ⟨rfl, rfl⟩ rfl rfl,
            ⟨.u rfl rfl rfl (by rintro _ _ ⟨rfl, rfl⟩; exact congrArg (offB true) (by rfl : _ = Value.bool false)) ⟨rfl, rfl⟩ rfl rfl,
            ⟨.u rfl rfl rfl (by rintro _ _ ⟨rfl, rfl⟩; exact congrArg (offB true) (by rfl : _ = Value.bool false)) ⟨rfl, rfl⟩ rfl rfl,
            ⟨.u rfl rfl rfl (by rintro _ _ ⟨rfl, rfl⟩; exact congrArg (offB true) (by rfl : _ = Value.bool false)) ⟨rfl, rfl⟩ rfl rfl,
            ⟨.u rfl rfl rfl (by rintro _ _ ⟨rfl, rfl⟩; exact congrArg (offB true) (by rfl : _ = Value.bool false)) ⟨rfl, rfl⟩ rfl rfl,
            ⟨.u rfl rfl rfl (by rintro _ _ ⟨rfl, rfl⟩; exact congrArg (offB true) (by rfl : _ = Value.bool false)) ⟨rfl, rfl⟩ rfl rfl,
            ⟨.u rfl rfl rfl (by rintro _ _ ⟨rfl, rfl⟩; exact congrArg (offB true) (by rfl : _ = Value.bool false)) ⟨rfl, rfl⟩ rfl rfl,
            ⟨.u rfl rfl rfl (by rintro _ _ ⟨rfl, rfl⟩; exact congrArg (offB true) (by rfl : _ = Value.bool false)) ⟨rfl, rfl⟩ rfl rfl,
            ⟨.p rfl (by intro X; rintro _ _ ⟨rfl, rfl⟩ _ _ ⟨rfl, rfl⟩; exact op_pick_f rfl rfl),
            ⟨.p rfl (by intro X; rintro _ _ ⟨rfl, rfl⟩; exact op_move rfl),
            ⟨.u rfl rfl rfl (by rintro _ _ ⟨rfl, rfl⟩; exact congrArg (offB true) (by rfl : _ = Value.bool false)) ⟨rfl, rfl⟩ rfl rfl,
            ⟨.u rfl rfl rfl (by rintro _ _ ⟨rfl, rfl⟩; exact congrArg (offB true) (by rfl : _ = Value.bool false)) ⟨rfl, rfl⟩ rfl rfl,
            ⟨.u rfl rfl rfl (by rintro _ _ ⟨rfl, rfl⟩; exact congrArg (offB true) (by rfl : _ = Value.bool false)) ⟨rfl, rfl⟩ rfl rfl,
            ⟨.u rfl rfl rfl (by rintro _ _ ⟨rfl, rfl⟩; exact congrArg (offB true) (by rfl : _ = Value.bool false)) ⟨rfl, rfl⟩ rfl rfl,
            ⟨.u rfl rfl rfl (by rintro _ _ ⟨rfl, rfl⟩; exact congrArg (offB true) (by rfl : _ = Value.bool false)) ⟨rfl, rfl⟩ rfl rfl,
            ⟨.u rfl rfl rfl (by rintro _ _ ⟨rfl, rfl⟩; exact congrArg (offB true) (by rfl : _ = Value.bool false)) ⟨rfl, rfl⟩ rfl rfl,
            ⟨.u rfl rfl rfl (by rintro _ _ ⟨rfl, rfl⟩; exact congrArg (offB true) (by rfl : _ = Value.bool false)) ⟨rfl, rfl⟩ rfl rfl,
            ⟨.u rfl rfl rfl (by rintro _ _ ⟨rfl, rfl⟩; exact congrArg (offB true) (by rfl : _ = Value.bool false)) ⟨rfl, rfl⟩ rfl rfl,
            ⟨.u rfl rfl rfl (by rintro _ _ ⟨rfl, rfl⟩; exact congrArg (offB true) (by rfl : _ = Value.bool false)) ⟨rfl, rfl⟩ rfl rfl,
            ⟨.p rfl (by intro X; rintro _ _ ⟨rfl, rfl⟩ _ _ ⟨rfl, rfl⟩; exact op_pick_f rfl rfl),
            trivial⟩⟩⟩⟩⟩⟩⟩⟩⟩⟩⟩⟩⟩⟩⟩⟩⟩⟩⟩⟩⟩⟩⟩⟩⟩⟩⟩⟩⟩⟩⟩⟩⟩⟩⟩⟩⟩⟩⟩⟩⟩⟩⟩⟩⟩⟩⟩⟩⟩⟩⟩⟩⟩)
            (fun β β' => ⟨fun _ => by rfl, ⟨fun _ => by rfl, ⟨fun _ => by rfl, ⟨fun _ => by rfl, ⟨fun _ => by rfl, ⟨fun _ => by rfl, ⟨fun _ => by rfl, ⟨fun _ => by rfl, ⟨fun _ => by rfl, ⟨fun _ => by rfl, ⟨fun _ => by rfl, ⟨fun _ => by rfl, ⟨fun _ => by rfl, ⟨fun _ => by rfl, ⟨fun _ => by rfl, ⟨fun _ => by rfl, ⟨fun _ => by rfl, ⟨fun _ => by rfl, ⟨fun _ => by rfl, ⟨fun _ => by rfl, ⟨fun _ => by rfl, ⟨fun _ => by rfl, ⟨fun _ => by rfl, ⟨fun _ => by rfl, ⟨fun _ => by rfl, ⟨fun _ => by rfl, ⟨fun _ => by rfl, ⟨fun _ => by rfl, ⟨fun _ => by rfl, ⟨fun _ => by rfl, ⟨fun _ => by rfl, ⟨fun _ => by rfl, ⟨fun _ => by rfl, ⟨fun _ => by rfl, ⟨fun _ => by rfl, ⟨fun _ => by rfl, ⟨fun _ => by rfl, ⟨fun _ => by rfl, ⟨fun _ => by rfl, ⟨fun _ => by rfl, ⟨fun _ => by rfl, ⟨fun _ => by rfl, ⟨fun _ => by rfl, ⟨fun _ => by rfl, ⟨fun _ => by rfl, ⟨fun _ => by rfl, ⟨fun _ => by rfl, ⟨fun _ => by rfl, ⟨fun _ => by rfl, ⟨fun _ => by rfl, ⟨fun _ => by rfl, ⟨fun _ => by rfl, ⟨fun _ => by rfl, trivial⟩⟩⟩⟩⟩⟩⟩⟩⟩⟩⟩⟩⟩⟩⟩⟩⟩⟩⟩⟩⟩⟩⟩⟩⟩⟩⟩⟩⟩⟩⟩⟩⟩⟩⟩⟩⟩⟩⟩⟩⟩⟩⟩⟩⟩⟩⟩⟩⟩⟩⟩⟩⟩) ?_
        intro β
        rintro _ _ ⟨rfl, rfl⟩ _ _ ⟨rfl, rfl⟩ _ _ ⟨rfl, rfl⟩ _ _ ⟨rfl, rfl⟩ _ _ ⟨rfl, rfl⟩ _ _ ⟨rfl, rfl⟩ _ _ ⟨rfl, rfl⟩ _ _ ⟨rfl, rfl⟩ _ _ ⟨rfl, rfl⟩ _ _ ⟨rfl, rfl⟩ _ _ ⟨rfl, rfl⟩ _ _ ⟨rfl, rfl⟩ _ _ ⟨rfl, rfl⟩ _ _ ⟨rfl, rfl⟩ _ _ ⟨rfl, rfl⟩ _ _ ⟨rfl, rfl⟩ _ _ ⟨rfl, rfl⟩ _ _ ⟨rfl, rfl⟩ _ _ ⟨rfl, rfl⟩ _ _ ⟨rfl, rfl⟩ _ _ ⟨rfl, rfl⟩ _ _ ⟨rfl, rfl⟩ _ _ ⟨rfl, rfl⟩ _ _ ⟨rfl, rfl⟩ _ _ ⟨rfl, rfl⟩ _ _ ⟨rfl, rfl⟩ _ _ ⟨rfl, rfl⟩ _ _ ⟨rfl, rfl⟩ _ _ ⟨rfl, rfl⟩ _ _ ⟨rfl, rfl⟩ _ _ ⟨rfl, rfl⟩ _ _ ⟨rfl, rfl⟩ _ _ ⟨rfl, rfl⟩ _ _ ⟨rfl, rfl⟩ _ _ ⟨rfl, rfl⟩ _ _ ⟨rfl, rfl⟩ _ _ ⟨rfl, rfl⟩ _ _ ⟨rfl, rfl⟩ _ _ ⟨rfl, rfl⟩ _ _ ⟨rfl, rfl⟩ _ _ ⟨rfl, rfl⟩ _ _ ⟨rfl, rfl⟩ _ _ ⟨rfl, rfl⟩ _ _ ⟨rfl, rfl⟩ _ _ ⟨rfl, rfl⟩ _ _ ⟨rfl, rfl⟩ _ _ ⟨rfl, rfl⟩ _ _ ⟨rfl, rfl⟩ _ _ ⟨rfl, rfl⟩ _ _ ⟨rfl, rfl⟩ _ _ ⟨rfl, rfl⟩ _ _ ⟨rfl, rfl⟩ _ _ ⟨rfl, rfl⟩
        refine wl_norm (e' := [(66, _)]) (.cons rfl (.nil _)) (by dsimp only [cond_false, cond_true, List.nil_append, List.cons_append]) ?_
        refine wl_det rfl rfl rfl (op_assign rfl) ?_
        refine wl_nil ?_
        refine st_tn ?_
        refine w_ret ?_
        refine st_ret (vs := [_]) [] Try.results30 ⟨rfl, trivial⟩ rfl ?_
        refine ⟨_, rfl, ?_⟩
        refine ⟨?_, rfl⟩
        simp only [retv]
        rw [dec_st]
        simp [h3]
    · -- h2-
      refine w_drawW (fun β => (⟨14, [], [], [], noW (_), false, [], []⟩ :: ⟨15, [0], [], [], noW (_), false, [], []⟩ :: ⟨16, [1], [], [], noW (_), false, [], []⟩ :: ⟨17, [2], [], [], noW (_), false, [], []⟩ :: ⟨18, [], [], [], noW (_), false, [], []⟩ :: ⟨19, [4], [], [], noW (_), false, [], []⟩ :: ⟨20, [5], [], [], noW (_), false, [], []⟩ :: ⟨21, [6], [], [], noW (_), false, [], []⟩ :: ⟨22, [3, 7], [], [], noW (_), false, [], []⟩ :: ⟨23, [8], [], [], noW (_), false, [], []⟩ :: ⟨24, [], [], [], noW (_), false, [], []⟩ :: ⟨25, [10], [], [], noW (_), false, [], []⟩ :: ⟨26, [11], [], [], noW (_), false, [], []⟩ :: ⟨27, [12], [], [], noW (_), false, [], []⟩ :: ⟨28, [], [], [], noW (_), false, [], []⟩ :: ⟨29, [14], [], [], noW (_), false, [], []⟩ :: ⟨30, [15], [], [], noW (_), false, [], []⟩ :: ⟨31, [16], [], [], noW (_), false, [], []⟩ :: ⟨32, [13, 17], [], [], noW (_), false, [], []⟩ :: ⟨33, [9, 18], [], [], noW (_), false, [], []⟩ :: ⟨34, [19], [], [], noW (_), false, [], []⟩ :: ⟨35, [], [], [], noW (Det undef), false, [], []⟩ :: ⟨36, [], [], [], noW (Det undef), false, [], []⟩ :: ⟨37, [], [], [], noW (Det undef), false, [], []⟩ :: ⟨38, [], [], [], noW (Det undef), false, [], []⟩ :: ⟨39, [], [], [], noW (Det undef), false, [], []⟩ :: ⟨40, [], [], [], noW (Det undef), false, [], []⟩ :: ⟨41, [], [], [], noW (Det undef), false, [], []⟩ :: ⟨42, [], [], [], noW (Det undef), false, [], []⟩ :: ⟨43, [], [], [], noW (Det undef), false, [], []⟩ :: ⟨44, [20, 29], [], [], noW (_), false, [], []⟩ :: ⟨45, [30], [], [], noW (_), false, [], []⟩ :: ⟨46, [], [], [], noW (Det undef), false, [], []⟩ :: ⟨47, [], [], [], noW (Det undef), false, [], []⟩ :: ⟨48, [], [], [], noW (Det undef), false, [], []⟩ :: ⟨49, [], [], [], noW (Det undef), false, [], []⟩ :: ⟨50, [], [], [], noW (Det undef), false, [], []⟩ :: ⟨51, [], [], [], noW (Det undef), false, [], []⟩ :: ⟨52, [], [], [], noW (Det undef), false, [], []⟩ :: ⟨53, [], [], [], noW (Det undef), false, [], []⟩ :: ⟨54, [], [], [], noW (Det undef), false, [], []⟩ :: ⟨55, [31, 40], [], [], noW (_), false, [], []⟩ :: ⟨56, [41], [], [], noW (_), false, [], []⟩ :: ⟨57, [], [], [], noW (Det undef), false, [], []⟩ :: ⟨58, [], [], [], noW (Det undef), false, [], []⟩ :: ⟨59, [], [], [], noW (Det undef), false, [], []⟩ :: ⟨60, [], [], [], noW (Det undef), false, [], []⟩ :: ⟨61, [], [], [], noW (Det undef), false, [], []⟩ :: ⟨62, [], [], [], noW (Det undef), false, [], []⟩ :: ⟨63, [], [], [], noW (Det undef), false, [], []⟩ :: ⟨64, [], [], [], noW (Det undef), false, [], []⟩ :: ⟨65, [], [], [], noW (Det undef), false, [], []⟩ :: ⟨66, [42, 51], [], [], noW (_), false, [], []⟩ :: [])) [] [0, 1] (⟨14, [], [], false, [], []⟩ :: ⟨15, [0], [], false, [], []⟩ :: ⟨16, [1], [], false, [], []⟩ :: ⟨17, [2], [], false, [], []⟩ :: ⟨18, [], [], false, [], []⟩ :: ⟨19, [4], [], false, [], []⟩ :: ⟨20, [5], [], false, [], []⟩ :: ⟨21, [6], [], false, [], []⟩ :: ⟨22, [3, 7], [], false, [], []⟩ :: ⟨23, [8], [], false, [], []⟩ :: ⟨24, [], [], false, [], []⟩ :: ⟨25, [10], [], false, [], []⟩ :: ⟨26, [11], [], false, [], []⟩ :: ⟨27, [12], [], false, [], []⟩ :: ⟨28, [], [], false, [], []⟩ :: ⟨29, [14], [], false, [], []⟩ :: ⟨30, [15], [], false, [], []⟩ :: ⟨31, [16], [], false, [], []⟩ :: ⟨32, [13, 17], [], false, [], []⟩ :: ⟨33, [9, 18], [], false, [], []⟩ :: ⟨34, [19], [], false, [], []⟩ :: ⟨35, [], [], false, [], []⟩ :: ⟨36, [], [], false, [], []⟩ :: ⟨37, [], [], false, [], []⟩ :: ⟨38, [], [], false, [], []⟩ :: ⟨39, [], [], false, [], []⟩ :: ⟨40, [], [], false, [], []⟩ :: ⟨41, [], [], false, [], []⟩ :: ⟨42, [], [], false, [], []⟩ :: ⟨43, [], [], false, [], []⟩ :: ⟨44, [20, 29], [], false, [], []⟩ :: ⟨45, [30], [], false, [], []⟩ :: ⟨46, [], [], false, [], []⟩ :: ⟨47, [], [], false, [], []⟩ :: ⟨48, [], [], false, [], []⟩ :: ⟨49, [], [], false, [], []⟩ :: ⟨50, [], [], false, [], []⟩ :: ⟨51, [], [], false, [], []⟩ :: ⟨52, [], [], false, [], []⟩ :: ⟨53, [], [], false, [], []⟩ :: ⟨54, [], [], false, [], []⟩ :: ⟨55, [31, 40], [], false, [], []⟩ :: ⟨56, [41], [], false, [], []⟩ :: ⟨57, [], [], false, [], []⟩ :: ⟨58, [], [], false, [], []⟩ :: ⟨59, [], [], false, [], []⟩ :: ⟨60, [], [], false, [], []⟩ :: ⟨61, [], [], false, [], []⟩ :: ⟨62, [], [], false, [], []⟩ :: ⟨63, [], [], false, [], []⟩ :: ⟨64, [], [], false, [], []⟩ :: ⟨65, [], [], false, [], []⟩ :: ⟨66, [42, 51], [], false, [], []⟩ :: []) ([] :: [] :: [] :: [] :: [] :: [] :: [] :: [] :: [] :: [] :: [] :: [] :: [] :: [] :: [] :: [] :: [] :: [] :: [] :: [] :: [] :: [] :: [] :: [] :: [] :: [] :: [] :: [] :: [] :: [] :: [] :: [] :: [] :: [] :: [] :: [] :: [] :: [] :: [] :: [] :: [] :: [] :: [] :: [] :: [] :: [] :: [] :: [] :: [] :: [] :: [] :: [] :: [] :: []) ([] :: [] :: [] :: [] :: [] :: [] :: [] :: [] :: [] :: [] :: [] :: [] :: [] :: [] :: [] :: [] :: [] :: [] :: [] :: [] :: [] :: [] :: [] :: [] :: [] :: [] :: [] :: [] :: [] :: [] :: [] :: [] :: [] :: [] :: [] :: [] :: [] :: [] :: [] :: [] :: [] :: [] :: [] :: [] :: [] :: [] :: [] :: [] :: [] :: [] :: [] :: [] :: [] :: []) tMixj (fun _ => by rfl) (fun _ => by rfl) (by kernel_rfl) (by kernel_rfl) (by rfl) (by rfl)
          (fun β => ⟨.p rfl (by intro X; exact op_move rfl),
          ⟨.p rfl (by intro X; rintro _ _ ⟨rfl, rfl⟩; exact op_nilCheck rfl),
          ⟨.p rfl (by intro X; rintro _ _ ⟨rfl, rfl⟩; exact op_fieldAddr (off := 0) rfl tF65_0j),
          ⟨.p rfl (by intro X; rintro _ _ ⟨rfl, rfl⟩; exact op_load1 rfl tO3j (Ent.app (Ent.app (Ent.fld hd1 0) X) _)),
          ⟨.p rfl (by intro X; exact op_move rfl),
          ⟨.p rfl (by intro X; rintro _ _ ⟨rfl, rfl⟩; exact op_nilCheck rfl),
          ⟨.p rfl (by intro X; rintro _ _ ⟨rfl, rfl⟩; exact op_fieldAddr (off := 0) rfl tF65_0j),
          ⟨.p rfl (by intro X; rintro _ _ ⟨rfl, rfl⟩; exact op_load1 rfl tO3j (Ent.app (Ent.app (Ent.fld hd2 0) X) _)),
          ⟨.p rfl (by intro X; rintro _ _ ⟨rfl, rfl⟩ _ _ ⟨rfl, rfl⟩; exact op_val (v' := .bool true) (by simp [h1]) (op_eql rfl rfl)),
          ⟨.p rfl (by intro X; rintro _ _ ⟨rfl, rfl⟩; exact op_move rfl),
          ⟨.w rfl rfl rfl (by rintro _ _ ⟨rfl, rfl⟩; rfl) (by intro X; exact op_move rfl),
          ⟨.w rfl rfl rfl (by rintro _ _ ⟨rfl, rfl⟩; rfl) (by intro X; rintro _ _ ⟨rfl, rfl⟩; exact op_nilCheck rfl),
          ⟨.w rfl rfl rfl (by rintro _ _ ⟨rfl, rfl⟩; rfl) (by intro X; rintro _ _ ⟨rfl, rfl⟩; exact op_fieldAddr (off := 2) rfl tF65_2j),
          ⟨.w rfl rfl rfl (by rintro _ _ ⟨rfl, rfl⟩; rfl) (by intro X; rintro _ _ ⟨rfl, rfl⟩; exact op_load1 rfl tO4j (Ent.app (Ent.app (Ent.fld hd1 2) X) _)),
          ⟨.w rfl rfl rfl (by rintro _ _ ⟨rfl, rfl⟩; rfl) (by intro X; exact op_move rfl),
          ⟨.w rfl rfl rfl (by rintro _ _ ⟨rfl, rfl⟩; rfl) (by intro X; rintro _ _ ⟨rfl, rfl⟩; exact op_nilCheck rfl),
          ⟨.w rfl rfl rfl (by rintro _ _ ⟨rfl, rfl⟩; rfl) (by intro X; rintro _ _ ⟨rfl, rfl⟩; exact op_fieldAddr (off := 2) rfl tF65_2j),
          ⟨.w rfl rfl rfl (by rintro _ _ ⟨rfl, rfl⟩; rfl) (by intro X; rintro _ _ ⟨rfl, rfl⟩; exact op_load1 rfl tO4j (Ent.app (Ent.app (Ent.fld hd2 2) X) _)),
          ⟨.w rfl rfl rfl (by rintro _ _ ⟨rfl, rfl⟩; rfl) (by intro X; rintro _ _ ⟨rfl, rfl⟩ _ _ ⟨rfl, rfl⟩; exact op_val (v' := .bool false) (by simp [h2]) (op_eqB rfl rfl Try.underlying4)),
          ⟨.p rfl (by intro X; rintro _ _ ⟨rfl, rfl⟩ _ _ ⟨rfl, rfl⟩; exact op_pick_t rfl rfl),
          ⟨.p rfl (by intro X; rintro _ _ ⟨rfl, rfl⟩; exact op_move rfl),
          ⟨.u rfl rfl rfl (by rintro _ _ ⟨rfl, rfl⟩; exact congrArg (offB true) (by rfl : _ = Value.bool false)) ⟨rfl, rfl⟩ rfl rfl,
          ⟨.u rfl rfl rfl (by rintro _ _ ⟨rfl, rfl⟩; exact congrArg (offB true) (by rfl : _ = Value.bool false)) ⟨rfl, rfl⟩ rfl rfl,
          ⟨.u rfl rfl rfl (by rintro _ _ ⟨rfl, rfl⟩; exact congrArg (offB true) (by rfl : _ = Value.bool false)) ⟨rfl, rfl⟩ rfl rfl,
          ⟨.u rfl rfl rfl (by rintro _ _ ⟨rfl, rfl⟩; exact congrArg (offB true) (by rfl : _ = Value.bool false)) ⟨rfl, rfl⟩ rfl rfl,
          ⟨.u rfl rfl rfl (by rintro _ _ ⟨rfl, rfl⟩; exact congrArg (offB true) (by rfl : _ = Value.bool false)) ⟨rfl, rfl⟩ rfl rfl,
          ⟨.u rfl rfl rfl (by rintro _ _ ⟨rfl, rfl⟩; exact congrArg (offB true) (by rfl : _ = Value.bool false)) ⟨rfl, rfl⟩ rfl rfl,
          ⟨.u rfl rfl rfl (by rintro _ _ ⟨rfl, rfl⟩; exact congrArg (offB true) (by rfl : _ = Value.bool false)) ⟨rfl, rfl⟩ rfl rfl,
          ⟨.u rfl rfl rfl (by rintro _ _ ⟨rfl, rfl⟩; exact congrArg (offB true) (by rfl : _ = Value.bool false)) ⟨rfl, rfl⟩ rfl rfl,
          ⟨.u rfl rfl rfl (by rintro _ _ ⟨rfl, rfl⟩; exact congrArg (offB true) (by rfl : _ = Value.bool false)) ⟨rfl, rfl⟩ rfl rfl,
          ⟨.p rfl (by intro X; rintro _ _ ⟨rfl, rfl⟩ _ _ ⟨rfl, rfl⟩; exact op_pick_f rfl rfl),
          ⟨.p rfl (by intro X; rintro _ _ ⟨rfl, rfl⟩; exact op_move rfl),
          ⟨.u rfl rfl rfl (by rintro _ _ ⟨rfl, rfl⟩; exact congrArg (offB true) (by rfl : _ = Value.bool false)) ⟨rfl, rfl⟩ rfl rfl,
          ⟨.u rfl rfl rfl (by rintro _ _ ⟨rfl, rfl⟩; exact congrArg (offB true) (by rfl : _ = Value.bool false)) ⟨rfl, rfl⟩ rfl rfl,
          ⟨.u rfl rfl rfl (by rintro _ _ ⟨rfl, rfl⟩; exact congrArg (offB true) (by rfl : _ = Value.bool false)) ⟨rfl, rfl⟩ rfl rfl,
          ⟨.u rfl rfl rfl (by rintro _ _ ⟨rfl, rfl⟩; exact congrArg (offB true) (by rfl : _ = Value.bool false)) ⟨rfl, rfl⟩ rfl rfl,
          ⟨.u rfl rfl rfl (by rintro _ _ ⟨rfl, rfl⟩; exact congrArg (offB true) (by rfl : _ = Value.bool false)) ⟨rfl, rfl⟩ rfl rfl,
          ⟨.u rfl rfl rfl (by rintro _ _ ⟨rfl, rfl⟩; exact congrArg (offB true) (by rfl : _ = Value.bool false)) ⟨rfl, rfl⟩ rfl rfl,
          ⟨.u rfl rfl rfl (by rintro _ _ ⟨rfl, rfl⟩; exact congrArg (offB true) (by rfl : _ = Value.bool false)) ⟨rfl, rfl⟩ rfl rfl,
          ⟨.u rfl rfl rfl (by rintro _ _ ⟨rfl, rfl⟩; exact congrArg (offB true) (by rfl : _ = Value.bool false)) ⟨rfl, rfl⟩ rfl rfl,
          ⟨.u rfl rfl rfl (by rintro _ _ ⟨rfl, rfl⟩; exact congrArg (offB true) (by rfl : _ = Value.bool false)) ⟨rfl, rfl⟩ rfl rfl,
          ⟨.p rfl (by intro X; rintro _ _ ⟨rfl, rfl⟩ _ _ ⟨rfl, rfl⟩; exact op_pick_f rfl rfl),
          ⟨.p rfl (by intro X; rintro _ _ ⟨rfl, rfl⟩; exact op_move rfl),
          ⟨.u rfl rfl rfl (by rintro _ _ ⟨rfl, rfl⟩; exact congrArg (offB true) (by rfl : _ = Value.bool false)) ⟨rfl, rfl⟩ rfl rfl,
          ⟨.u rfl rfl rfl (by rintro _ _ ⟨rfl, rfl⟩; exact congrArg (offB true) (by rfl : _ = Value.bool false)) ⟨rfl, rfl⟩ rfl rfl,
          ⟨.u rfl rfl rfl (by rintro _ _ ⟨rfl, rfl⟩; exact congrArg (offB true) (by rfl : _ = Value.bool false)) ⟨rfl, rfl⟩ rfl rfl,
          ⟨.u rfl rfl rfl (by rintro _ _ ⟨rfl, rfl⟩; exact congrArg (offB true) (by rfl : _ = Value.bool false)) ⟨rfl, rfl⟩ rfl rfl,
          ⟨.u rfl rfl rfl (by rintro _ _ ⟨rfl, rfl⟩; exact congrArg (offB true) (by rfl : _ = Value.bool false)) ⟨rfl, rfl⟩ rfl rfl,
          ⟨.u rfl rfl rfl (by rintro _ _ ⟨rfl, rfl⟩; exact congrArg (offB true) (by rfl : _ = Value.bool false)) ⟨rfl, rfl⟩ rfl rfl,
          ⟨.u rfl rfl rfl (by rintro _ _ ⟨rfl, rfl⟩; exact congrArg (offB true) (by rfl : _ = Value.bool false)) ⟨rfl, rfl⟩ rfl rfl,
          ⟨.u rfl rfl rfl (by rintro _ _ ⟨rfl, rfl⟩; exact congrArg (offB true) (by rfl : _ = Value.bool false)) ⟨rfl, rfl⟩ rfl rfl,
          ⟨.u rfl rfl rfl (by rintro _ _ ⟨rfl, rfl⟩; exact congrArg (offB true) (by rfl : _ = Value.bool false)) ⟨rfl, rfl⟩ rfl rfl,
          ⟨.p rfl (by intro X; rintro _ _ ⟨rfl, rfl⟩ _ _ ⟨rfl, rfl⟩; exact op_pick_f rfl rfl),
          trivial⟩⟩⟩⟩⟩⟩⟩⟩⟩⟩⟩⟩⟩⟩⟩⟩⟩⟩⟩⟩⟩⟩⟩⟩⟩⟩⟩⟩⟩⟩⟩⟩⟩⟩⟩⟩⟩⟩⟩⟩⟩⟩⟩⟩⟩⟩⟩⟩⟩⟩⟩⟩⟩)
          (fun β β' => ⟨fun _ => by rfl, ⟨fun _ => by rfl, ⟨fun _ => by rfl, ⟨fun _ => by rfl, ⟨fun _ => by rfl, ⟨fun _ => by rfl, ⟨fun _ => by rfl, ⟨fun _ => by rfl, ⟨fun _ => by rfl, ⟨fun _ => by rfl, ⟨fun _ => by rfl, ⟨fun _ => by rfl, ⟨fun _ => by rfl, ⟨fun _ => by rfl, ⟨fun _ => by rfl, ⟨fun _ => by rfl, ⟨fun _ => by rfl, ⟨fun _ => by rfl, ⟨fun _ => by rfl, ⟨fun _ => by rfl, ⟨fun _ => by rfl, ⟨fun _ => by rfl, ⟨fun _ => by rfl, ⟨fun _ => by rfl, ⟨fun _ => by rfl, ⟨fun _ => by rfl, ⟨fun _ => by rfl, ⟨fun _ => by rfl, ⟨fun _ => by rfl, ⟨fun _ => by rfl, ⟨fun _ => by rfl, ⟨fun _ => by rfl, ⟨fun _ => by rfl, ⟨fun _ => by rfl, ⟨fun _ => by rfl, ⟨fun _ => by rfl, ⟨fun _ => by rfl, ⟨fun _ => by rfl, ⟨fun _ => by rfl, ⟨fun _ => by rfl, ⟨fun _ => by rfl, ⟨fun _ => by rfl, ⟨fun _ => by rfl, ⟨fun _ => by rfl, ⟨fun _ => by rfl, ⟨fun _ => by rfl, ⟨fun _ => by rfl, ⟨fun _ => by rfl, ⟨fun _ => by rfl, ⟨fun _ => by rfl, ⟨fun _ => by rfl, ⟨fun _ => by rfl, ⟨fun _ => by rfl, trivial⟩⟩⟩⟩⟩⟩⟩⟩⟩⟩⟩⟩⟩⟩⟩⟩⟩⟩⟩⟩⟩⟩⟩⟩⟩⟩⟩⟩⟩⟩⟩⟩⟩⟩⟩⟩⟩⟩⟩⟩⟩⟩⟩⟩⟩⟩⟩⟩⟩⟩⟩⟩⟩) ?_
      intro β
      rintro _ _ ⟨rfl, rfl⟩ _ _ ⟨rfl, rfl⟩ _ _ ⟨rfl, rfl⟩ _ _ ⟨rfl, rfl⟩ _ _ ⟨rfl, rfl⟩ _ _ ⟨rfl, rfl⟩ _ _ ⟨rfl, rfl⟩ _ _ ⟨rfl, rfl⟩ _ _ ⟨rfl, rfl⟩ _ _ ⟨rfl, rfl⟩ _ _ ⟨rfl, rfl⟩ _ _ ⟨rfl, rfl⟩ _ _ ⟨rfl, rfl⟩ _ _ ⟨rfl, rfl⟩ _ _ ⟨rfl, rfl⟩ _ _ ⟨rfl, rfl⟩ _ _ ⟨rfl, rfl⟩ _ _ ⟨rfl, rfl⟩ _ _ ⟨rfl, rfl⟩ _ _ ⟨rfl, rfl⟩ _ _ ⟨rfl, rfl⟩ _ _ ⟨rfl, rfl⟩ _ _ ⟨rfl, rfl⟩ _ _ ⟨rfl, rfl⟩ _ _ ⟨rfl, rfl⟩ _ _ ⟨rfl, rfl⟩ _ _ ⟨rfl, rfl⟩ _ _ ⟨rfl, rfl⟩ _ _ ⟨rfl, rfl⟩ _ _ ⟨rfl, rfl⟩ _ _ ⟨rfl, rfl⟩ _ _ ⟨rfl, rfl⟩ _ _ ⟨rfl, rfl⟩ _ _ ⟨rfl, rfl⟩ _ _ ⟨rfl, rfl⟩ _ _ ⟨rfl, rfl⟩ _ _ ⟨rfl, rfl⟩ _ _ ⟨rfl, rfl⟩ _ _ ⟨rfl, rfl⟩ _ _ ⟨rfl, rfl⟩ _ _ ⟨rfl, rfl⟩ _ _ ⟨rfl, rfl⟩ _ _ ⟨rfl, rfl⟩ _ _ ⟨rfl, rfl⟩ _ _ ⟨rfl, rfl⟩ _ _ ⟨rfl, rfl⟩ _ _ ⟨rfl, rfl⟩ _ _ ⟨rfl, rfl⟩ _ _ ⟨rfl, rfl⟩ _ _ ⟨rfl, rfl⟩ _ _ ⟨rfl, rfl⟩ _ _ ⟨rfl, rfl⟩ _ _ ⟨rfl, rfl⟩
      refine wl_norm (e' := [(66, _)]) (.cons rfl (.nil _)) (by dsimp only [cond_false, cond_true, List.nil_append, List.cons_append]) ?_
      refine wl_det rfl rfl rfl (op_assign rfl) ?_
      refine wl_nil ?_
      refine st_tn ?_
      refine w_ret ?_
      refine st_ret (vs := [_]) [] Try.results30 ⟨rfl, trivial⟩ rfl ?_
      refine ⟨_, rfl, ?_⟩
      refine ⟨?_, rfl⟩
      simp only [retv]
      rw [dec_st]
      simp [h2]
  · -- h1-
    refine w_drawW (fun β => (⟨14, [], [], [], noW (_), false, [], []⟩ :: ⟨15, [0], [], [], noW (_), false, [], []⟩ :: ⟨16, [1], [], [], noW (_), false, [], []⟩ :: ⟨17, [2], [], [], noW (_), false, [], []⟩ :: ⟨18, [], [], [], noW (_), false, [], []⟩ :: ⟨19, [4], [], [], noW (_), false, [], []⟩ :: ⟨20, [5], [], [], noW (_), false, [], []⟩ :: ⟨21, [6], [], [], noW (_), false, [], []⟩ :: ⟨22, [3, 7], [], [], noW (_), false, [], []⟩ :: ⟨23, [8], [], [], noW (_), false, [], []⟩ :: ⟨24, [], [], [], noW (Det undef), false, [], []⟩ :: ⟨25, [], [], [], noW (Det undef), false, [], []⟩ :: ⟨26, [], [], [], noW (Det undef), false, [], []⟩ :: ⟨27, [], [], [], noW (Det undef), false, [], []⟩ :: ⟨28, [], [], [], noW (Det undef), false, [], []⟩ :: ⟨29, [], [], [], noW (Det undef), false, [], []⟩ :: ⟨30, [], [], [], noW (Det undef), false, [], []⟩ :: ⟨31, [], [], [], noW (Det undef), false, [], []⟩ :: ⟨32, [], [], [], noW (Det undef), false, [], []⟩ :: ⟨33, [9, 18], [], [], noW (_), false, [], []⟩ :: ⟨34, [19], [], [], noW (_), false, [], []⟩ :: ⟨35, [], [], [], noW (Det undef), false, [], []⟩ :: ⟨36, [], [], [], noW (Det undef), false, [], []⟩ :: ⟨37, [], [], [], noW (Det undef), false, [], []⟩ :: ⟨38, [], [], [], noW (Det undef), false, [], []⟩ :: ⟨39, [], [], [], noW (Det undef), false, [], []⟩ :: ⟨40, [], [], [], noW (Det undef), false, [], []⟩ :: ⟨41, [], [], [], noW (Det undef), false, [], []⟩ :: ⟨42, [], [], [], noW (Det undef), false, [], []⟩ :: ⟨43, [], [], [], noW (Det undef), false, [], []⟩ :: ⟨44, [20, 29], [], [], noW (_), false, [], []⟩ :: ⟨45, [30], [], [], noW (_), false, [], []⟩ :: ⟨46, [], [], [], noW (Det undef), false, [], []⟩ :: ⟨47, [], [], [], noW (Det undef), false, [], []⟩ :: ⟨48, [], [], [], noW (Det undef), false, [], []⟩ :: ⟨49, [], [], [], noW (Det undef), false, [], []⟩ :: ⟨50, [], [], [], noW (Det undef), false, [], []⟩ :: ⟨51, [], [], [], noW (Det undef), false, [], []⟩ :: ⟨52, [], [], [], noW (Det undef), false, [], []⟩ :: ⟨53, [], [], [], noW (Det undef), false, [], []⟩ :: ⟨54, [], [], [], noW (Det undef), false, [], []⟩ :: ⟨55, [31, 40], [], [], noW (_), false, [], []⟩ :: ⟨56, [41], [], [], noW (_), false, [], []⟩ :: ⟨57, [], [], [], noW (Det undef), false, [], []⟩ :: ⟨58, [], [], [], noW (Det undef), false, [], []⟩ :: ⟨59, [], [], [], noW (Det undef), false, [], []⟩ :: ⟨60, [], [], [], noW (Det undef), false, [], []⟩ :: ⟨61, [], [], [], noW (Det undef), false, [], []⟩ :: ⟨62, [], [], [], noW (Det undef), false, [], []⟩ :: ⟨63, [], [], [], noW (Det undef), false, [], []⟩ :: ⟨64, [], [], [], noW (Det undef), false, [], []⟩ :: ⟨65, [], [], [], noW (Det undef), false, [], []⟩ :: ⟨66, [42, 51], [], [], noW (_), false, [], []⟩ :: [])) [] [0, 1] (⟨14, [], [], false, [], []⟩ :: ⟨15, [0], [], false, [], []⟩ :: ⟨16, [1], [], false, [], []⟩ :: ⟨17, [2], [], false, [], []⟩ :: ⟨18, [], [], false, [], []⟩ :: ⟨19, [4], [], false, [], []⟩ :: ⟨20, [5], [], false, [], []⟩ :: ⟨21, [6], [], false, [], []⟩ :: ⟨22, [3, 7], [], false, [], []⟩ :: ⟨23, [8], [], false, [], []⟩ :: ⟨24, [], [], false, [], []⟩ :: ⟨25, [], [], false, [], []⟩ :: ⟨26, [], [], false, [], []⟩ :: ⟨27, [], [], false, [], []⟩ :: ⟨28, [], [], false, [], []⟩ :: ⟨29, [], [], false, [], []⟩ :: ⟨30, [], [], false, [], []⟩ :: ⟨31, [], [], false, [], []⟩ :: ⟨32, [], [], false, [], []⟩ :: ⟨33, [9, 18], [], false, [], []⟩ :: ⟨34, [19], [], false, [], []⟩ :: ⟨35, [], [], false, [], []⟩ :: ⟨36, [], [], false, [], []⟩ :: ⟨37, [], [], false, [], []⟩ :: ⟨38, [], [], false, [], []⟩ :: ⟨39, [], [], false, [], []⟩ :: ⟨40, [], [], false, [], []⟩ :: ⟨41, [], [], false, [], []⟩ :: ⟨42, [], [], false, [], []⟩ :: ⟨43, [], [], false, [], []⟩ :: ⟨44, [20, 29], [], false, [], []⟩ :: ⟨45, [30], [], false, [], []⟩ :: ⟨46, [], [], false, [], []⟩ :: ⟨47, [], [], false, [], []⟩ :: ⟨48, [], [], false, [], []⟩ :: ⟨49, [], [], false, [], []⟩ :: ⟨50, [], [], false, [], []⟩ :: ⟨51, [], [], false, [], []⟩ :: ⟨52, [], [], false, [], []⟩ :: ⟨53, [], [], false, [], []⟩ :: ⟨54, [], [], false, [], []⟩ :: ⟨55, [31, 40], [], false, [], []⟩ :: ⟨56, [41], [], false, [], []⟩ :: ⟨57, [], [], false, [], []⟩ :: ⟨58, [], [], false, [], []⟩ :: ⟨59, [], [], false, [], []⟩ :: ⟨60, [], [], false, [], []⟩ :: ⟨61, [], [], false, [], []⟩ :: ⟨62, [], [], false, [], []⟩ :: ⟨63, [], [], false, [], []⟩ :: ⟨64, [], [], false, [], []⟩ :: ⟨65, [], [], false, [], []⟩ :: ⟨66, [42, 51], [], false, [], []⟩ :: []) ([] :: [] :: [] :: [] :: [] :: [] :: [] :: [] :: [] :: [] :: [] :: [] :: [] :: [] :: [] :: [] :: [] :: [] :: [] :: [] :: [] :: [] :: [] :: [] :: [] :: [] :: [] :: [] :: [] :: [] :: [] :: [] :: [] :: [] :: [] :: [] :: [] :: [] :: [] :: [] :: [] :: [] :: [] :: [] :: [] :: [] :: [] :: [] :: [] :: [] :: [] :: [] :: [] :: []) ([] :: [] :: [] :: [] :: [] :: [] :: [] :: [] :: [] :: [] :: [] :: [] :: [] :: [] :: [] :: [] :: [] :: [] :: [] :: [] :: [] :: [] :: [] :: [] :: [] :: [] :: [] :: [] :: [] :: [] :: [] :: [] :: [] :: [] :: [] :: [] :: [] :: [] :: [] :: [] :: [] :: [] :: [] :: [] :: [] :: [] :: [] :: [] :: [] :: [] :: [] :: [] :: [] :: []) tMixj (fun _ => by rfl) (fun _ => by rfl) (by kernel_rfl) (by kernel_rfl) (by rfl) (by rfl)
        (fun β => ⟨.p rfl (by intro X; exact op_move rfl),
        ⟨.p rfl (by intro X; rintro _ _ ⟨rfl, rfl⟩; exact op_nilCheck rfl),
        ⟨.p rfl (by intro X; rintro _ _ ⟨rfl, rfl⟩; exact op_fieldAddr (off := 0) rfl tF65_0j),
        ⟨.p rfl (by intro X; rintro _ _ ⟨rfl, rfl⟩; exact op_load1 rfl tO3j (Ent.app (Ent.app (Ent.fld hd1 0) X) _)),
        ⟨.p rfl (by intro X; exact op_move rfl),
        ⟨.p rfl (by intro X; rintro _ _ ⟨rfl, rfl⟩; exact op_nilCheck rfl),
        ⟨.p rfl (by intro X; rintro _ _ ⟨rfl, rfl⟩; exact op_fieldAddr (off := 0) rfl tF65_0j),
        ⟨.p rfl (by intro X; rintro _ _ ⟨rfl, rfl⟩; exact op_load1 rfl tO3j (Ent.app (Ent.app (Ent.fld hd2 0) X) _)),
        ⟨.p rfl (by intro X; rintro _ _ ⟨rfl, rfl⟩ _ _ ⟨rfl, rfl⟩; exact op_val (v' := .bool false) (by simp [h1]) (op_eql rfl rfl)),
        ⟨.p rfl (by intro X; rintro _ _ ⟨rfl, rfl⟩; exact op_move rfl),
        ⟨.u rfl rfl rfl (by rintro _ _ ⟨rfl, rfl⟩; exact congrArg (offB true) (by rfl : _ = Value.bool false)) ⟨rfl, rfl⟩ rfl rfl,
        ⟨.u rfl rfl rfl (by rintro _ _ ⟨rfl, rfl⟩; exact congrArg (offB true) (by rfl : _ = Value.bool false)) ⟨rfl, rfl⟩ rfl rfl,
        ⟨.u rfl rfl rfl (by rintro _ _ ⟨rfl, rfl⟩; exact congrArg (offB true) (by rfl : _ = Value.bool false)) ⟨rfl, rfl⟩ rfl rfl,
        ⟨.u rfl rfl rfl (by rintro _ _ ⟨rfl, rfl⟩; exact congrArg (offB true) (by rfl : _ = Value.bool false)) ⟨rfl, rfl⟩ rfl rfl,
        ⟨.u rfl rfl rfl (by rintro _ _ ⟨rfl, rfl⟩; exact congrArg (offB true) (by rfl : _ = Value.bool false)) ⟨rfl, rfl⟩ rfl rfl,
        ⟨.u rfl rfl rfl (by rintro _ _ ⟨rfl, rfl⟩; exact congrArg (offB true) (by rfl : _ = Value.bool false)) ⟨rfl, rfl⟩ rfl rfl,
        ⟨.u rfl rfl rfl (by rintro _ _ ⟨rfl, rfl⟩; exact congrArg (offB true) (by rfl : _ = Value.bool false)) ⟨rfl, rfl⟩ rfl rfl,
        ⟨.u rfl rfl rfl (by rintro _ _ ⟨rfl, rfl⟩; exact congrArg (offB true) (by rfl : _ = Value.bool false)) ⟨rfl, rfl⟩ rfl rfl,
        ⟨.u rfl rfl rfl (by rintro _ _ ⟨rfl, rfl⟩; exact congrArg (offB true) (by rfl : _ = Value.bool false)) ⟨rfl, rfl⟩ rfl rfl,
        ⟨.p rfl (by intro X; rintro _ _ ⟨rfl, rfl⟩ _ _ ⟨rfl, rfl⟩; exact op_pick_f rfl rfl),
        ⟨.p rfl (by intro X; rintro _ _ ⟨rfl, rfl⟩; exact op_move rfl),
        ⟨.u rfl rfl rfl (by rintro _ _ ⟨rfl, rfl⟩; exact congrArg (offB true) (by rfl : _ = Value.bool false)) ⟨rfl, rfl⟩ rfl rfl,
        ⟨.u rfl rfl rfl (by rintro _ _ ⟨rfl, rfl⟩; exact congrArg (offB true) (by rfl : _ = Value.bool false)) ⟨rfl, rfl⟩ rfl rfl,
        ⟨.u rfl rfl rfl (by rintro _ _ ⟨rfl, rfl⟩; exact congrArg (offB true) (by rfl : _ = Value.bool false)) ⟨rfl, rfl⟩ rfl rfl,
        ⟨.u rfl rfl rfl (by rintro _ _ ⟨rfl, rfl⟩; exact congrArg (offB true) (by rfl : _ = Value.bool false)) ⟨rfl, rfl⟩ rfl rfl,
        ⟨.u rfl rfl rfl (by rintro _ _ ⟨rfl, rfl⟩; exact congrArg (offB true) (by rfl : _ = Value.bool false)) ⟨rfl, rfl⟩ rfl rfl,
        ⟨.u rfl rfl rfl (by rintro _ _ ⟨rfl, rfl⟩; exact congrArg (offB true) (by rfl : _ = Value.bool false)) ⟨rfl, rfl⟩ rfl rfl,
        ⟨.u rfl rfl rfl (by rintro _ _ ⟨rfl, rfl⟩; exact congrArg (offB true) (by rfl : _ = Value.bool false)) ⟨rfl, rfl⟩ rfl rfl,
        ⟨.u rfl rfl rfl (by rintro _ _ ⟨rfl, rfl⟩; exact congrArg (offB true) (by rfl : _ = Value.bool false)) ⟨rfl, rfl⟩ rfl rfl,
        ⟨.u rfl rfl rfl (by rintro _ _ ⟨rfl, rfl⟩; exact congrArg (offB true) (by rfl : _ = Value.bool false)) ⟨rfl, rfl⟩ rfl rfl,
        ⟨.p rfl (by intro X; rintro _ _ ⟨rfl, rfl⟩ _ _ ⟨rfl, rfl⟩; exact op_pick_f rfl rfl),
        ⟨.p rfl (by intro X; rintro _ _ ⟨rfl, rfl⟩; exact op_move rfl),
        ⟨.u rfl rfl rfl (by rintro _ _ ⟨rfl, rfl⟩; exact congrArg (offB true) (by rfl : _ = Value.bool false)) ⟨rfl, rfl⟩ rfl rfl,
        ⟨.u rfl rfl rfl (by rintro _ _ ⟨rfl, rfl⟩; exact congrArg (offB true) (by rfl : _ = Value.bool false)) ⟨rfl, rfl⟩ rfl rfl,
        ⟨.u rfl rfl rfl (by rintro _ _ ⟨rfl, rfl⟩; exact congrArg (offB true) (by rfl : _ = Value.bool false)) ⟨rfl, rfl⟩ rfl rfl,
        ⟨.u rfl rfl rfl (by rintro _ _ ⟨rfl, rfl⟩; exact congrArg (offB true) (by rfl : _ = Value.bool false)) ⟨rfl, rfl⟩ rfl rfl,
        ⟨.u rfl rfl rfl (by rintro _ _ ⟨rfl, rfl⟩; exact congrArg (offB true) (by rfl : _ = Value.bool false)) ⟨rfl, rfl⟩ rfl rfl,
        ⟨.u rfl rfl rfl (by rintro _ _ ⟨rfl, rfl⟩; exact congrArg (offB true) (by rfl : _ = Value.bool false)) ⟨rfl, rfl⟩ rfl rfl,
        ⟨.u rfl rfl rfl (by rintro _ _ ⟨rfl, rfl⟩; exact congrArg (offB true) (by rfl : _ = Value.bool false)) ⟨rfl, rfl⟩ rfl rfl,
        ⟨.u rfl rfl rfl (by rintro _ _ ⟨rfl, rfl⟩; exact congrArg (offB true) (by rfl : _ = Value.bool false)) ⟨rfl, rfl⟩ rfl rfl,
        ⟨.u rfl rfl rfl (by rintro _ _ ⟨rfl, rfl⟩; exact congrArg (offB true) (by rfl : _ = Value.bool false)) ⟨rfl, rfl⟩ rfl rfl,
        ⟨.p rfl (by intro X; rintro _ _ ⟨rfl, rfl⟩ _ _ ⟨rfl, rfl⟩; exact op_pick_f rfl rfl),
        ⟨.p rfl (by intro X; rintro _ _ ⟨rfl, rfl⟩; exact op_move rfl),
        ⟨.u rfl rfl rfl (by rintro _ _ ⟨rfl, rfl⟩; exact congrArg (offB true) (by rfl : _ = Value.bool false)) ⟨rfl, rfl⟩ rfl rfl,
        ⟨.u rfl rfl rfl (by rintro _ _ ⟨rfl, rfl⟩; exact congrArg (offB true) (by rfl : _ = Value.bool false)) ⟨rfl, rfl⟩ rfl rfl,
        ⟨.u rfl rfl rfl (by rintro _ _ ⟨rfl, rfl⟩; exact congrArg (offB true) (by rfl : _ = Value.bool false)) ⟨rfl, rfl⟩ rfl rfl,
        ⟨.u rfl rfl rfl (by rintro _ _ ⟨rfl, rfl⟩; exact congrArg (offB true) (by rfl : _ = Value.bool false)) ⟨rfl, rfl⟩ rfl rfl,
        ⟨.u rfl rfl rfl (by rintro _ _ ⟨rfl, rfl⟩; exact congrArg (offB true) (by rfl : _ = Value.bool false)) ⟨rfl, rfl⟩ rfl rfl,
        ⟨.u rfl rfl rfl (by rintro _ _ ⟨rfl, rfl⟩; exact congrArg (offB true) (by rfl : _ = Value.bool false)) ⟨rfl, rfl⟩ rfl rfl,
        ⟨.u rfl rfl rfl (by rintro _ _ ⟨rfl, rfl⟩; exact congrArg (offB true) (by rfl : _ = Value.bool false)) ⟨rfl, rfl⟩ rfl rfl,
        ⟨.u rfl rfl rfl (by rintro _ _ ⟨rfl, rfl⟩; exact congrArg (offB true) (by rfl : _ = Value.bool false)) ⟨rfl, rfl⟩ rfl rfl,
        ⟨.u rfl rfl rfl (by rintro _ _ ⟨rfl, rfl⟩; exact congrArg (offB true) (by rfl : _ = Value.bool false)) ⟨rfl, rfl⟩ rfl rfl,
        ⟨.p rfl (by intro X; rintro _ _ ⟨rfl, rfl⟩ _ _ ⟨rfl, rfl⟩; exact op_pick_f rfl rfl),
        trivial⟩⟩⟩⟩⟩⟩⟩⟩⟩⟩⟩⟩⟩⟩⟩⟩⟩⟩⟩⟩⟩⟩⟩⟩⟩⟩⟩⟩⟩⟩⟩⟩⟩⟩⟩⟩⟩⟩⟩⟩⟩⟩⟩⟩⟩⟩⟩⟩⟩⟩⟩⟩⟩)
        (fun β β' => ⟨fun _ => by rfl, ⟨fun _ => by rfl, ⟨fun _ => by rfl, ⟨fun _ => by rfl, ⟨fun _ => by rfl, ⟨fun _ => by rfl, ⟨fun _ => by rfl, ⟨fun _ => by rfl, ⟨fun _ => by rfl, ⟨fun _ => by rfl, ⟨fun _ => by rfl, ⟨fun _ => by rfl, ⟨fun _ => by rfl, ⟨fun _ => by rfl, ⟨fun _ => by rfl, ⟨fun _ => by rfl, ⟨fun _ => by rfl, ⟨fun _ => by rfl, ⟨fun _ => by rfl, ⟨fun _ => by rfl, ⟨fun _ => by rfl, ⟨fun _ => by rfl, ⟨fun _ => by rfl, ⟨fun _ => by rfl, ⟨fun _ => by rfl, ⟨fun _ => by rfl, ⟨fun _ => by rfl, ⟨fun _ => by rfl, ⟨fun _ => by rfl, ⟨fun _ => by rfl, ⟨fun _ => by rfl, ⟨fun _ => by rfl, ⟨fun _ => by rfl, ⟨fun _ => by rfl, ⟨fun _ => by rfl, ⟨fun _ => by rfl, ⟨fun _ => by rfl, ⟨fun _ => by rfl, ⟨fun _ => by rfl, ⟨fun _ => by rfl, ⟨fun _ => by rfl, ⟨fun _ => by rfl, ⟨fun _ => by rfl, ⟨fun _ => by rfl, ⟨fun _ => by rfl, ⟨fun _ => by rfl, ⟨fun _ => by rfl, ⟨fun _ => by rfl, ⟨fun _ => by rfl, ⟨fun _ => by rfl, ⟨fun _ => by rfl, ⟨fun _ => by rfl, ⟨fun _ => by rfl, trivial⟩⟩⟩⟩⟩⟩⟩⟩⟩⟩⟩⟩⟩⟩⟩⟩⟩⟩⟩⟩⟩⟩⟩⟩⟩⟩⟩⟩⟩⟩⟩⟩⟩⟩⟩⟩⟩⟩⟩⟩⟩⟩⟩⟩⟩⟩⟩⟩⟩⟩⟩⟩⟩) ?_
    intro β
    rintro _ _ ⟨rfl, rfl⟩ _ _ ⟨rfl, rfl⟩ _ _ ⟨rfl, rfl⟩ _ _ ⟨rfl, rfl⟩ _ _ ⟨rfl, rfl⟩ _ _ ⟨rfl, rfl⟩ _ _ ⟨rfl, rfl⟩ _ _ ⟨rfl, rfl⟩ _ _ ⟨rfl, rfl⟩ _ _ ⟨rfl, rfl⟩ _ _ ⟨rfl, rfl⟩ _ _ ⟨rfl, rfl⟩ _ _ ⟨rfl, rfl⟩ _ _ ⟨rfl, rfl⟩ _ _ ⟨rfl, rfl⟩ _ _ ⟨rfl, rfl⟩ _ _ ⟨rfl, rfl⟩ _ _ ⟨rfl, rfl⟩ _ _ ⟨rfl, rfl⟩ _ _ ⟨rfl, rfl⟩ _ _ ⟨rfl, rfl⟩ _ _ ⟨rfl, rfl⟩ _ _ ⟨rfl, rfl⟩ _ _ ⟨rfl, rfl⟩ _ _ ⟨rfl, rfl⟩ _ _ ⟨rfl, rfl⟩ _ _ ⟨rfl, rfl⟩ _ _ ⟨rfl, rfl⟩ _ _ ⟨rfl, rfl⟩ _ _ ⟨rfl, rfl⟩ _ _ ⟨rfl, rfl⟩ _ _ ⟨rfl, rfl⟩ _ _ ⟨rfl, rfl⟩ _ _ ⟨rfl, rfl⟩ _ _ ⟨rfl, rfl⟩ _ _ ⟨rfl, rfl⟩ _ _ ⟨rfl, rfl⟩ _ _ ⟨rfl, rfl⟩ _ _ ⟨rfl, rfl⟩ _ _ ⟨rfl, rfl⟩ _ _ ⟨rfl, rfl⟩ _ _ ⟨rfl, rfl⟩ _ _ ⟨rfl, rfl⟩ _ _ ⟨rfl, rfl⟩ _ _ ⟨rfl, rfl⟩ _ _ ⟨rfl, rfl⟩ _ _ ⟨rfl, rfl⟩ _ _ ⟨rfl, rfl⟩ _ _ ⟨rfl, rfl⟩ _ _ ⟨rfl, rfl⟩ _ _ ⟨rfl, rfl⟩ _ _ ⟨rfl, rfl⟩ _ _ ⟨rfl, rfl⟩
    refine wl_norm (e' := [(66, _)]) (.cons rfl (.nil _)) (by dsimp only [cond_false, cond_true, List.nil_append, List.cons_append]) ?_
    refine wl_det rfl rfl rfl (op_assign rfl) ?_
    refine wl_nil ?_
    refine st_tn ?_
    refine w_ret ?_
    refine st_ret (vs := [_]) [] Try.results30 ⟨rfl, trivial⟩ rfl ?_
    refine ⟨_, rfl, ?_⟩
    refine ⟨?_, rfl⟩
    simp only [retv]
    rw [dec_st]
    simp [h1]

set_option maxHeartbeats 400000 in
set_option maxRecDepth 100000 in
theorem clone_any {σ : World} {F : List Res} {b m : Nat} {s : St} {l : Files} (lab1 lab2 : Nat) (hd : Ent σ F (At ⟨b, 0, none⟩ (cellD s m))) (hm' : Mr σ F KL encF (.map (some m)) l) :
    FnT Try.prog σ F 29 [.pointer (some ⟨b, 0, none⟩)] [] (fun u ρ => ∃ bb mm, u = .pointer (some ⟨bb, 0, none⟩) ∧ ρ = [(lab1, cel bb (cellD s mm) 65), (lab2, mp KL encF mm l)]) := by
  refine fn_of 15 Try.func29 rfl Try.ntmps29 rfl ?_
  refine w_seq ?_
  refine w_region ?_
  refine wl_det rfl rfl rfl (op_assign rfl) ?_
  refine wl_nil ?_
  refine st_tn ?_
  refine w_seq ?_
  refine w_seq ?_
  refine w_region ?_
  refine wl_det rfl rfl rfl (op_move rfl) ?_
  refine wl_det rfl rfl rfl (op_val (v' := .bool false) (by simp) (op_eqPtr rfl Try.underlying22)) ?_
  refine wl_nil ?_
  refine st_tn ?_
  refine w_cond_f (rfl) ?_
  refine w_skip ?_
  refine st_tn ?_
  refine w_seq ?_
  refine w_region ?_
  refine wl_det rfl rfl rfl (op_move rfl) ?_
  refine wl_det rfl rfl rfl (op_nilCheck rfl) ?_
  refine wl_det rfl rfl rfl (op_loadA rfl tA65j (Ent.app hd _) (Nat.le_of_ble_eq_true rfl)) ?_
  refine wl_op [] rfl rfl rfl rfl (op_alloc (l := 3) tN65j) ?_
  rintro _ _ ⟨b3, rfl, rfl⟩
  refine wl_op0 [3] rfl rfl rfl (op_store rfl rfl tZ65j (by rfl) (by rfl) (by exact Nat.le_of_ble_eq_true rfl)) ?_
  rintro _ _ ⟨rfl, rfl⟩
  refine wl_nil ?_
  refine st_tn ?_
  refine w_seq ?_
  refine w_region ?_
  refine wl_det rfl rfl rfl (op_move rfl) ?_
  refine wl_det rfl rfl rfl (op_nilCheck rfl) ?_
  refine wl_det rfl rfl rfl (op_fieldAddr (off := 1) rfl tF65_1j) ?_
  refine wl_det rfl rfl rfl (op_load1 rfl tO63j (Ent.app (Ent.fld hd 1) _)) ?_
  refine wl_op [] rfl rfl rfl rfl (op_fn Try.func45 rfl rfl rfl (mclone_any 13 (Ent.app hm' _))) ?_
  rintro _ _ ⟨mm13, rfl, rfl⟩
  refine wl_det rfl rfl rfl (op_fieldAddr (off := 1) rfl tF65_1j) ?_
  refine wl_op0 [3] rfl rfl rfl (op_store rfl rfl tZ63j (by rfl) (by rfl) (by exact Nat.le_of_ble_eq_true rfl)) ?_
  rintro _ _ ⟨rfl, rfl⟩
  refine wl_nil ?_
  refine st_tn ?_
  refine w_seq ?_
  refine w_region ?_
  refine wl_det rfl rfl rfl (op_assign rfl) ?_
  refine wl_nil ?_
  refine st_tn ?_
  refine w_ret ?_
  refine st_ret (vs := [_]) [3, 13] Try.results29 ⟨rfl, trivial⟩ rfl ?_
  refine ⟨[(lab1, _), (lab2, _)], rfl, ?_⟩
  exact ⟨_, _, rfl, rfl⟩

end Go.Proofs.Ytjlbeakdgadpmaa
