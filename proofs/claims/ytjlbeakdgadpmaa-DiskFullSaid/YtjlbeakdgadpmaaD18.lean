/- Law Limits (layer 26). Conditions: none. -/
import Derived.Test.YtjlbeakdgadpmaaD15
namespace Go.Proofs.Ytjlbeakdgadpmaa
open Go Go.SL Go.RowKit Go.DskM
set_option linter.unusedVariables false
set_option linter.unusedSimpArgs false
theorem tA43r : aggB Try.prog 43 6 = true := by kernel_rfl
theorem tF43_0r : fieldB Try.prog 43 0 0 = true := by kernel_rfl
theorem tF43_1r : fieldB Try.prog 43 1 1 = true := by kernel_rfl
theorem tF43_2r : fieldB Try.prog 43 2 2 = true := by kernel_rfl
theorem tF43_3r : fieldB Try.prog 43 3 3 = true := by kernel_rfl
theorem tMixr : Try.prog.follows .mixedOrders = true := by kernel_rfl
theorem tN43r : (Try.prog.info? 43).bind (·.zero) = some (Value.agg #[Value.int .u8 0, Value.int .u8 0, Value.int .u8 0, Value.string .empty, Value.int .i64 0, Value.slice none 0 0]) := by kernel_rfl
theorem tO5r : oneB Try.prog 5 = true := by kernel_rfl
theorem tO9r : oneB Try.prog 9 = true := by kernel_rfl
theorem tS39r : sliceB Try.prog 39 43 6 = true := by kernel_rfl
theorem tZ43r : (Try.prog.info? 43).map (·.size) = some 6 := by kernel_rfl

theorem FnT.relab {P : Program} {σ : World} {F : List Res} {f : Nat} {args : List Value} {R R' : RL} {S S' : Value → RL → Prop} (h : FnT P σ F f args R S) (hr : rs R = rs R') (hS : ∀ u ρ, S u ρ → ∃ ρ', S' u ρ' ∧ rs ρ = rs ρ') : FnT P σ F f args R' S' :=
  fun w ho => (h w (by rw [hr]; exact ho)).mono fun _ _ ⟨v, ρ, h1, h2, h3⟩ => by
    obtain ⟨ρ', h4, h5⟩ := hS _ _ h2
    exact ⟨v, ρ', h1, h4, by rw [← h5]; exact h3⟩
section
variable {σ : World} {F : List Res} {b m : Nat} {s s' : St} {l : Files}
theorem app_to2 {n d : Bs} {e : Int} (h : appO s n d = (e, s')) (hg : DskM.Good s) (hp : l.Perm s.fs) (hn : n.length ≤ maxLen) (hdl : d.length ≤ 1099511627776) :
    FnT Try.prog σ F 15 [.pointer (some ⟨b, 0, none⟩), .string (str n), .string (str d)] [(701, cel b (cellD s m) 65), (702, mp KL encF m l)] (fun u ρ => ∃ l', l'.Perm s'.fs ∧ u = .int .i64 e ∧ ρ = [(701, cel b (cellD s' m) 65), (702, mp KL encF m l')]) :=
  FnT.relab (app_to h hg hp hn hdl) rfl (by rintro u ρ ⟨l', h1, h2, rfl⟩; exact ⟨_, ⟨l', h1, h2, rfl⟩, rfl⟩)
theorem syn_to2 {n : Bs} {e : Int} (h : synO s n = (e, s')) (hg : DskM.Good s) (hp : l.Perm s.fs) (hn : n.length ≤ maxLen) :
    FnT Try.prog σ F 21 [.pointer (some ⟨b, 0, none⟩), .string (str n)] [(701, cel b (cellD s m) 65), (702, mp KL encF m l)] (fun u ρ => ∃ l', l'.Perm s'.fs ∧ u = .int .i64 e ∧ ρ = [(701, cel b (cellD s' m) 65), (702, mp KL encF m l')]) :=
  FnT.relab (syn_to h hg hp hn) rfl (by rintro u ρ ⟨l', h1, h2, rfl⟩; exact ⟨_, ⟨l', h1, h2, rfl⟩, rfl⟩)
theorem ren_to2 {n o : Bs} {e : Int} (h : renO s n o = (e, s')) (hg : DskM.Good s) (hp : l.Perm s.fs) (hn : n.length ≤ maxLen) (ho : o.length ≤ maxLen) :
    FnT Try.prog σ F 22 [.pointer (some ⟨b, 0, none⟩), .string (str n), .string (str o)] [(701, cel b (cellD s m) 65), (702, mp KL encF m l)] (fun u ρ => ∃ l', l'.Perm s'.fs ∧ u = .int .i64 e ∧ ρ = [(701, cel b (cellD s' m) 65), (702, mp KL encF m l')]) :=
  FnT.relab (ren_to h hg hp hn ho) rfl (by rintro u ρ ⟨l', h1, h2, rfl⟩; exact ⟨_, ⟨l', h1, h2, rfl⟩, rfl⟩)
theorem rem_to2 {n : Bs} {e : Int} (h : remO s n = (e, s')) (hg : DskM.Good s) (hp : l.Perm s.fs) (hn : n.length ≤ maxLen) :
    FnT Try.prog σ F 17 [.pointer (some ⟨b, 0, none⟩), .string (str n)] [(701, cel b (cellD s m) 65), (702, mp KL encF m l)] (fun u ρ => ∃ l', l'.Perm s'.fs ∧ u = .int .i64 e ∧ ρ = [(701, cel b (cellD s' m) 65), (702, mp KL encF m l')]) :=
  FnT.relab (rem_to h hg hp hn) rfl (by rintro u ρ ⟨l', h1, h2, rfl⟩; exact ⟨_, ⟨l', h1, h2, rfl⟩, rfl⟩)
end
theorem syn_down {z : St} {n : Bs} (h : z.down = true) : synO z n = (27, z) := by
  have h27 : readyE z [n] = 27 := by unfold readyE; rw [if_pos h]
  have := syn_ready (s := z) (n := n) (by rw [h27]; decide)
  rwa [h27] at this
/-- A disk with a limit. -/
def Lm (t : St) (k : Int) : St := { t with lim := true, left := k }
structure LimR (t : St) (k : Int) (x y : Int × St) : Prop where
  fail : x.1 ≠ 0 → x.2 = t ∧ y = (x.1, Lm t k)
  ok : x.1 = 0 → 0 < k → y = (0, Lm x.2 (k - 1))
  crash : x.1 = 0 → k = 0 → y.1 = 27 ∧ y.2.down = true
  lim : x.2.lim = false
  down : x.2.down = false
theorem oper_no {t : St} (h : t.lim = false) : oper t = (true, t) := by unfold oper; rw [if_neg (by simp [h])]
theorem oper_lm {t : St} {k : Int} (h : 0 < k) : oper (Lm t k) = (true, Lm t (k - 1)) := by
  unfold oper Lm; rw [if_pos rfl, if_neg (by simp only; omega)]
theorem oper_lm0 {t : St} : oper (Lm t 0) = (false, { Lm t 0 with down := true }) := by
  unfold oper; rw [if_pos (show (Lm t 0).lim = true from rfl), if_pos (show (Lm t 0).left ≤ 0 from Int.le_refl 0)]
theorem lim_err {t : St} {k e : Int} {x y : Int × St} (he : e ≠ 0) (hx : x = (e, t)) (hy : y = (e, Lm t k)) (hl : t.lim = false) (hd : t.down = false) : LimR t k x y := by
  subst hx; subst hy; exact ⟨fun _ => ⟨rfl, rfl⟩, fun h => absurd h he, fun h => absurd h he, hl, hd⟩
theorem lim_ok {t u : St} {k : Int} {x y : Int × St} (hx : x = (0, u)) (hy : 0 < k → y = (0, Lm u (k - 1))) (hz : k = 0 → y.1 = 27 ∧ y.2.down = true) (hl : u.lim = false) (hd : u.down = false) : LimR t k x y := by
  subst hx; exact ⟨fun h => absurd rfl h, fun _ h => hy h, fun _ h => hz h, hl, hd⟩
theorem app_lim (t : St) (k : Int) (n d : Bs) (hl : t.lim = false) (hd : t.down = false) : LimR t k (appO t n d) (appO (Lm t k) n d) := by
  by_cases h1 : readyE t [n] ≠ 0
  · exact lim_err h1 (app_ready h1) (app_ready (s := Lm t k) h1) hl hd
  by_cases h2 : find t.fs n = none ∧ 256 ≤ t.fs.length
  · exact lim_err (by decide) (app_limit h1 h2.1 h2.2) (app_limit (s := Lm t k) h1 h2.1 h2.2) hl hd
  by_cases h3 : t.cap < used t.fs + d.length
  · exact lim_err (by decide) (app_full h1 h2 h3) (app_full (s := Lm t k) h1 h2 h3) hl hd
  have e1 := app_done (s := t) h1 h2 h3
  have e2 := app_done (s := Lm t k) (n := n) (d := d) h1 h2 h3
  have hg : grown (Lm t k) n d = Lm (grown t n d) k := rfl
  rw [oper_no (t := grown t n d) hl, if_pos rfl] at e1
  rw [hg] at e2
  refine lim_ok e1 (fun h => ?_) (fun h => ?_) hl hd
  · rw [e2, oper_lm h]; rfl
  · subst h; rw [e2, oper_lm0]; exact ⟨rfl, rfl⟩
theorem syn_lim (t : St) (k : Int) (n : Bs) (hl : t.lim = false) (hd : t.down = false) : LimR t k (synO t n) (synO (Lm t k) n) := by
  by_cases h1 : readyE t [n] ≠ 0
  · exact lim_err h1 (syn_ready h1) (syn_ready (s := Lm t k) h1) hl hd
  cases hf : find t.fs n with
  | none => exact lim_err (by decide) (syn_none h1 hf) (syn_none (s := Lm t k) h1 hf) hl hd
  | some f =>
    have e1 := syn_done (s := t) h1 hf (by rw [oper_no hl])
    rw [oper_no hl] at e1
    refine lim_ok e1 (fun h => ?_) (fun h => ?_) hl hd
    · rw [syn_done (s := Lm t k) h1 hf (by rw [oper_lm h]), oper_lm h]; rfl
    · subst h; rw [syn_fail (s := Lm t 0) h1 hf (by rw [oper_lm0]; simp), oper_lm0]; exact ⟨rfl, rfl⟩
theorem ren_lim (t : St) (k : Int) (n o : Bs) (hl : t.lim = false) (hd : t.down = false) : LimR t k (renO t n o) (renO (Lm t k) n o) := by
  by_cases h1 : readyE t [n, o] ≠ 0
  · exact lim_err h1 (ren_ready h1) (ren_ready (s := Lm t k) h1) hl hd
  cases hf : find t.fs n with
  | none => exact lim_err (by decide) (ren_none h1 hf) (ren_none (s := Lm t k) h1 hf) hl hd
  | some f =>
    have e1 := ren_done (s := t) h1 hf (by rw [oper_no hl])
    rw [oper_no hl] at e1
    refine lim_ok e1 (fun h => ?_) (fun h => ?_) hl hd
    · rw [ren_done (s := Lm t k) h1 hf (by rw [oper_lm h]), oper_lm h]; rfl
    · subst h; rw [ren_fail (s := Lm t 0) h1 hf (by rw [oper_lm0]; simp), oper_lm0]; exact ⟨rfl, rfl⟩
theorem rem_lim (t : St) (k : Int) (n : Bs) (hl : t.lim = false) (hd : t.down = false) : LimR t k (remO t n) (remO (Lm t k) n) := by
  by_cases h1 : readyE t [n] ≠ 0
  · exact lim_err h1 (rem_ready h1) (rem_ready (s := Lm t k) h1) hl hd
  cases hf : find t.fs n with
  | none =>
    have e0 : ∀ s : St, ¬ readyE s [n] ≠ 0 → find s.fs n = none → remO s n = (10, s) := fun s h1 hf => by
      unfold remO; rw [if_neg h1, hf]
    exact lim_err (by decide) (e0 t h1 hf) (e0 (Lm t k) h1 hf) hl hd
  | some f =>
    have e1 := rem_done (s := t) h1 hf (by rw [oper_no hl])
    rw [oper_no hl] at e1
    refine lim_ok e1 (fun h => ?_) (fun h => ?_) hl hd
    · rw [rem_done (s := Lm t k) h1 hf (by rw [oper_lm h]), oper_lm h]; rfl
    · subst h; rw [rem_fail (s := Lm t 0) h1 hf (by rw [oper_lm0]; simp), oper_lm0]; exact ⟨rfl, rfl⟩
-- CALL sleuth/sleuthlaw26.capacity capac_any n (by assumption)
set_option maxHeartbeats 8000000 in
set_option maxRecDepth 100000 in
theorem lawLimits_any {σ : World} {F : List Res} {a : Option Addr} {c : Nat} {L : List OprA} (n k : Int) (hn : 0 ≤ n ∧ n ≤ 255) (hk : 0 ≤ k ∧ k ≤ 255) (hL : OkL σ F a c L) : FnT Try.prog σ F 5 [.int .u8 n, .int .u8 k, .slice a L.length c] [] (fun u ρ => u = .bool true ∧ ρ = []) := by
  refine fn_of 143 Try.func5 rfl Try.ntmps5 rfl ?_
  have hsl := hL.sl
  have hle := hsl.i64
  have hgn : DskM.Good (newS (20 + n)) := good_new (by omega)
  refine w_seq ?_
  refine w_region ?_
  refine wl_det rfl rfl rfl (op_assign rfl) ?_
  refine wl_nil ?_
  refine st_tn ?_
  refine w_seq ?_
  refine w_region ?_
  refine wl_det rfl rfl rfl (op_move rfl) ?_
  refine wl_det rfl rfl rfl (op_fn Try.func13 rfl rfl rfl (capac_any n (by assumption))) ?_
  refine wl_op [] rfl rfl rfl rfl (op_fn Try.func12 rfl rfl rfl (new_ok (20 + n) 601 602 (by omega))) ?_
  rintro _ _ ⟨b9, m9, rfl, rfl⟩
  refine wl_det rfl rfl rfl (op_move rfl) ?_
  refine wl_det rfl rfl rfl (op_extract rfl rfl) ?_
  refine wl_det rfl rfl rfl (op_extract rfl rfl) ?_
  refine wl_det rfl rfl rfl (op_assign rfl) ?_
  refine wl_det rfl rfl rfl (op_assign rfl) ?_
  refine wl_nil ?_
  refine st_tn ?_
  refine w_seq ?_
  refine w_region ?_
  refine wl_det rfl rfl rfl (op_move rfl) ?_
  refine wl_det rfl rfl rfl (op_fn Try.func13 rfl rfl rfl (capac_any n (by assumption))) ?_
  refine wl_op [] rfl rfl rfl rfl (op_fn Try.func12 rfl rfl rfl (new_ok (20 + n) 701 702 (by omega))) ?_
  rintro _ _ ⟨b10, m10, rfl, rfl⟩
  refine wl_det rfl rfl rfl (op_move rfl) ?_
  refine wl_det rfl rfl rfl (op_extract rfl rfl) ?_
  refine wl_det rfl rfl rfl (op_extract rfl rfl) ?_
  refine wl_det rfl rfl rfl (op_assign rfl) ?_
  refine wl_det rfl rfl rfl (op_assign rfl) ?_
  refine wl_nil ?_
  refine st_tn ?_
  refine w_seq ?_
  refine w_seq ?_
  refine w_region ?_
  refine wl_det rfl rfl rfl (op_fn Try.func14 rfl rfl rfl (known_any)) ?_
  refine wl_det rfl rfl rfl (op_not_t rfl) ?_
  refine wl_det rfl rfl rfl (op_move rfl) ?_
  refine wl_wanted_det rfl rfl rfl rfl rfl rfl rfl (op_move rfl) ?_
  refine wl_wanted_det rfl rfl rfl rfl rfl rfl rfl (op_val (v' := .bool false) (by rfl) (op_neq rfl rfl)) ?_
  refine wl_det rfl rfl rfl (op_pick_f rfl rfl) ?_
  refine wl_det rfl rfl rfl (op_move rfl) ?_
  refine wl_wanted_det rfl rfl rfl rfl rfl rfl rfl (op_move rfl) ?_
  refine wl_wanted_det rfl rfl rfl rfl rfl rfl rfl (op_val (v' := .bool false) (by rfl) (op_neq rfl rfl)) ?_
  refine wl_det rfl rfl rfl (op_pick_f rfl rfl) ?_
  refine wl_nil ?_
  refine st_tn ?_
  refine w_cond_f (rfl) ?_
  refine w_skip ?_
  refine st_tn ?_
  refine w_seq ?_
  refine w_region ?_
  refine wl_det rfl rfl rfl (op_move rfl) ?_
  refine wl_det rfl rfl rfl (op_remN rfl rfl (by omega) (by omega)) ?_
  refine wl_det rfl rfl rfl (op_convI64 rfl (by rw [Try.underlying5]; rfl) Try.underlying3 (by omega)) ?_
  refine wl_det rfl rfl rfl (op_assign rfl) ?_
  refine wl_nil ?_
  refine st_tn ?_
  refine w_seq ?_
  refine w_region ?_
  refine wl_det rfl rfl rfl (op_move rfl) ?_
  refine wl_det rfl rfl rfl (op_move rfl) ?_
  refine wl_op [601] rfl rfl rfl rfl (op_fn Try.func19 rfl rfl rfl (limit_any (newS (20 + n)) (k % 61))) ?_
  rintro _ _ ⟨rfl, rfl⟩
  refine wl_nil ?_
  refine st_tn ?_
  refine w_seq ?_
  refine w_seq ?_
  refine w_region ?_
  refine wl_det rfl rfl rfl (op_assign rfl) ?_
  refine wl_nil ?_
  refine st_tn ?_
  refine w_block ?_
  refine w_loopQ (X := Int × Nat × DskM.St × DskM.Files × DskM.St × DskM.Files) (fun z => z.2.1 ≤ L.length ∧ 0 ≤ z.1 ∧ z.1 ≤ 60 ∧ DskM.Good z.2.2.1 ∧ z.2.2.2.1.Perm z.2.2.1.fs ∧ DskM.Good z.2.2.2.2.1 ∧ z.2.2.2.2.2.Perm z.2.2.2.2.1.fs ∧ z.2.2.1 = Lm z.2.2.2.2.1 z.1 ∧ z.2.2.2.2.1.lim = false ∧ z.2.2.2.2.1.down = false) (fun z => [(11, .int .i64 (z.1)), (12, .int .i64 (z.2.1))]) (fun z => [(601, cel b9 (cellD (z.2.2.1) m9) 65), (602, mp KL encF m9 (z.2.2.2.1)), (701, cel b10 (cellD (z.2.2.2.2.1) m10) 65), (702, mp KL encF m10 (z.2.2.2.2.2))]) (fun z => L.length - z.2.1) ((k % 61, 0, limO (newS (20 + n)) (k % 61), [], newS (20 + n), [])) [(2, _), (7, _), (9, _)] [] [601, 602, 701, 702] rfl (rfl) (.cons rfl (.cons rfl (.nil _))) (.cons rfl (.cons rfl (.cons rfl (.nil _)))) (by
      try dsimp only
      refine ⟨Nat.zero_le _, by omega, by omega, hgn.lim_ (by omega), List.Perm.refl _, hgn, List.Perm.refl _, ?_, rfl, rfl⟩
      unfold limO Lm; rw [Int.max_eq_left (by omega)]) ?_
  rintro ⟨K, i, S, l_S, T, l_T⟩ ⟨hi, hK0, hK1, hgS, hpS, hgT, hpT, hS, hTl, hTd⟩
  refine w_norm2 (by dsimp only [List.cons_append, List.nil_append]) (by dsimp only [List.cons_append, List.nil_append]) ?_
  try dsimp only at hi hK0 hK1 hgS hpS hgT hpT hS hTl hTd ⊢
  refine w_seq ?_
  refine w_seq ?_
  refine w_region ?_
  refine wl_det rfl rfl rfl (op_move rfl) ?_
  refine wl_det rfl rfl rfl (op_move rfl) ?_
  refine wl_det rfl rfl rfl (op_lenT rfl tS39r (Sl.ent (by first | exact Sl.app (by assumption) _ | exact Sl.app (Sl.app (by assumption) _) _))) ?_
  refine wl_det rfl rfl rfl (op_lss rfl rfl) ?_
  refine wl_det rfl rfl rfl (op_move rfl) ?_
  refine wl_gsplit (t := 51) rfl (fun hg51 => ?_) (fun hg51 => ?_)
  · -- 51 is True
    obtain ⟨y, hy⟩ := getE (l := L) (i := i) (by omega)
    have hym := List.mem_of_getElem? hy
    have hok := hL.ok y hym
    have hyd := hok.d
    have hyk := hok.k
    unfold maxLen at hyd
    have htd : (y.x.d.take 40).length ≤ 1099511627776 := by rw [List.length_take]; omega
    refine wl_wanted_det rfl rfl rfl rfl rfl rfl rfl (op_move rfl) ?_
    refine wl_wanted_det rfl rfl rfl rfl rfl rfl rfl (op_lss rfl rfl) ?_
    refine wl_det rfl rfl rfl (op_pick_t rfl rfl) ?_
    refine wl_nil ?_
    refine st_tn ?_
    refine w_cond_d rfl (fun hc54 => ?_) (fun hc54 => ?_)
    · -- c54.t
      refine w_skip ?_
      refine st_tn ?_
      refine w_seq ?_
      refine w_block ?_
      refine w_seq ?_
      refine w_region ?_
      refine wl_det rfl rfl rfl (op_move rfl) ?_
      refine wl_det rfl rfl rfl (op_move rfl) ?_
      refine wl_det rfl rfl rfl (op_idx rfl rfl tS39r (Sl.ent (by first | exact Sl.app (by assumption) _ | exact Sl.app (Sl.app (by assumption) _) _)) (by omega)) ?_
      refine wl_det rfl rfl rfl (op_ldxA rfl tA43r (by first | exact Sl.app (by assumption) _ | exact Sl.app (Sl.app (by assumption) _) _) (by assumption) (by rfl) (by rfl)) ?_
      refine wl_op [] rfl rfl rfl rfl (op_alloc (l := 13) tN43r) ?_
      rintro _ _ ⟨b13, rfl, rfl⟩
      refine wl_op0 [13] rfl rfl rfl (op_store rfl rfl tZ43r (by rfl) (by rfl) (by exact Nat.le_of_ble_eq_true rfl)) ?_
      rintro _ _ ⟨rfl, rfl⟩
      refine wl_nil ?_
      refine st_tn ?_
      refine w_seq ?_
      refine w_drawW (fun β => [⟨61, [], [], [], noW (_), false, [], []⟩, ⟨62, [0], [], [], noW (_), false, [], []⟩, ⟨63, [1], [], [], noW (_), false, [], []⟩, ⟨64, [], [], [], noW (_), false, [], []⟩, ⟨65, [3], [], [], noW (_), false, [], []⟩]) [] [13] [⟨61, [], [], false, [], []⟩, ⟨62, [0], [], false, [], []⟩, ⟨63, [1], [], false, [], []⟩, ⟨64, [], [], false, [], []⟩, ⟨65, [3], [], false, [], []⟩] [[], [], [], [], []] [[], [], [], [], []] tMixr (fun _ => by rfl) (fun _ => by rfl) (by kernel_rfl) (by kernel_rfl) (by rfl) (by rfl)
          (fun β => ⟨.p rfl (by intro X; exact op_fieldAddr (off := 1) rfl tF43_1r),
          ⟨.p rfl (by intro X; rintro _ _ ⟨rfl, rfl⟩; exact op_load1 rfl tO5r (Ent.lab (l := 13) rfl (says_cel 1))),
          ⟨.p rfl (by intro X; rintro _ _ ⟨rfl, rfl⟩; exact op_fn Try.func20 rfl rfl rfl (name_any _ hok.n)),
          ⟨.p rfl (by intro X; exact op_fieldAddr (off := 2) rfl tF43_2r),
          ⟨.p rfl (by intro X; rintro _ _ ⟨rfl, rfl⟩; exact op_load1 rfl tO5r (Ent.lab (l := 13) rfl (says_cel 2))),
          trivial⟩⟩⟩⟩⟩)
          (fun β β' => ⟨fun _ => by rfl, ⟨fun _ => by rfl, ⟨fun _ => by rfl, ⟨fun _ => by rfl, ⟨fun _ => by rfl, trivial⟩⟩⟩⟩⟩) ?_
      intro β
      rintro _ _ ⟨rfl, rfl⟩ _ _ ⟨rfl, rfl⟩ _ _ ⟨rfl, rfl⟩ _ _ ⟨rfl, rfl⟩ _ _ ⟨rfl, rfl⟩
      refine wl_norm (e' := [(2, _), (7, _), (9, _), (11, _), (12, _), (13, _), (63, _), (65, _)]) (.cons rfl (.cons rfl (.cons rfl (.cons rfl (.cons rfl (.cons rfl (.cons rfl (.cons rfl (.nil _))))))))) (by dsimp only [cond_false, cond_true, List.nil_append, List.cons_append]) ?_
      refine wl_det rfl rfl rfl (op_fn Try.func20 rfl rfl rfl (name_any _ hok.o)) ?_
      refine wl_det rfl rfl rfl (op_assign rfl) ?_
      refine wl_det rfl rfl rfl (op_assign rfl) ?_
      refine wl_nil ?_
      refine st_tn ?_
      refine w_seq ?_
      refine w_region ?_
      refine wl_det rfl rfl rfl (op_fieldAddr (off := 3) rfl tF43_3r) ?_
      refine wl_det rfl rfl rfl (op_load1 rfl tO9r (Ent.lab (l := 13) rfl (says_cel 3))) ?_
      refine wl_det rfl rfl rfl (op_fieldAddr (off := 3) rfl tF43_3r) ?_
      refine wl_det rfl rfl rfl (op_load1 rfl tO9r (Ent.lab (l := 13) rfl (says_cel 3))) ?_
      refine wl_det rfl rfl rfl (op_lenBs rfl Try.underlying9) ?_
      refine wl_det rfl rfl rfl (op_val (v' := .int .i64 ((min y.x.d.length 40 : Nat) : Int)) (by congr 1; omega) (op_min rfl rfl)) ?_
      refine wl_det rfl rfl rfl (op_val (v' := .string (str (y.x.d.take 40))) (by rw [take_min]) (op_sliceRBs rfl rfl Try.underlying9 (by omega))) ?_
      refine wl_det rfl rfl rfl (op_assign rfl) ?_
      refine wl_nil ?_
      refine st_tn ?_
      refine w_seq ?_
      refine w_region ?_
      refine wl_det rfl rfl rfl (op_assign rfl) ?_
      refine wl_det rfl rfl rfl (op_assign rfl) ?_
      refine wl_nil ?_
      refine st_tn ?_
      refine w_seq ?_
      refine w_seq ?_
      refine w_region ?_
      refine wl_det rfl rfl rfl (op_fieldAddr (off := 0) rfl tF43_0r) ?_
      refine wl_det rfl rfl rfl (op_load1 rfl tO5r (Ent.lab (l := 13) rfl (says_cel 0))) ?_
      refine wl_det rfl rfl rfl (op_remN rfl rfl (by omega) (by omega)) ?_
      refine wl_nil ?_
      refine st_tn ?_
      refine w_block ?_
      refine w_seq ?_
      refine w_region ?_
      refine wl_det rfl rfl rfl (op_eql rfl rfl) ?_
      refine wl_det rfl rfl rfl (op_assign rfl) ?_
      refine wl_nil ?_
      refine st_tn ?_
      refine w_cond_d rfl (fun hc83 => ?_) (fun hc83 => ?_)
      · -- c83.t
        by_cases hq0 : (appO T (nmN y.x.n) (y.x.d.take 40)).1 ≠ 0
        · -- hq0+
          have hR := app_lim T K (nmN y.x.n) (y.x.d.take 40) hTl hTd
          obtain ⟨hT2, hS2⟩ := hR.fail hq0
          have e1 : appO S (nmN y.x.n) (y.x.d.take 40) = ((appO T (nmN y.x.n) (y.x.d.take 40)).1, S) := by rw [hS]; exact hS2
          have e2 : appO T (nmN y.x.n) (y.x.d.take 40) = ((appO T (nmN y.x.n) (y.x.d.take 40)).1, T) := Prod.ext rfl hT2
          refine w_region ?_
          refine wl_det rfl rfl rfl (op_move rfl) ?_
          refine wl_det rfl rfl rfl (op_move rfl) ?_
          refine wl_det rfl rfl rfl (op_move rfl) ?_
          refine wl_op [601, 602] rfl rfl rfl rfl (op_fn Try.func15 rfl rfl rfl (app_to e1 hgS hpS (nm_max _) htd)) ?_
          rintro _ _ ⟨l1, hp1, rfl, rfl⟩
          refine wl_det rfl rfl rfl (op_move rfl) ?_
          refine wl_det rfl rfl rfl (op_move rfl) ?_
          refine wl_det rfl rfl rfl (op_move rfl) ?_
          refine wl_op [701, 702] rfl rfl rfl rfl (op_fn Try.func15 rfl rfl rfl (app_to2 e2 hgT hpT (nm_max _) htd)) ?_
          rintro _ _ ⟨l2, hp2, rfl, rfl⟩
          refine wl_det rfl rfl rfl (op_assign rfl) ?_
          refine wl_det rfl rfl rfl (op_assign rfl) ?_
          refine wl_nil ?_
          refine st_bn ?_
          refine st_tn ?_
          refine w_seq ?_
          refine w_seq ?_
          refine w_region ?_
          refine wl_det rfl rfl rfl (op_move rfl) ?_
          refine wl_det rfl rfl rfl (op_val (v' := .bool false) (by simp [hq0]) (op_eql rfl rfl)) ?_
          refine wl_det rfl rfl rfl (op_move rfl) ?_
          refine wl_unwanted rfl rfl rfl rfl rfl rfl rfl rfl ?_
          refine wl_unwanted rfl rfl rfl rfl rfl rfl rfl rfl ?_
          refine wl_det rfl rfl rfl (op_pick_f rfl rfl) ?_
          refine wl_nil ?_
          refine st_tn ?_
          refine w_cond_f (rfl) ?_
          refine w_skip ?_
          refine st_tn ?_
          refine w_seq ?_
          refine w_seq ?_
          refine w_region ?_
          refine wl_det rfl rfl rfl (op_move rfl) ?_
          refine wl_det rfl rfl rfl (op_move rfl) ?_
          refine wl_det rfl rfl rfl (op_val (v' := .bool false) (by simp) (op_neq rfl rfl)) ?_
          refine wl_det rfl rfl rfl (op_move rfl) ?_
          refine wl_wanted_det rfl rfl rfl rfl rfl rfl rfl (op_move rfl) ?_
          refine wl_wanted_det rfl rfl rfl rfl rfl rfl rfl (op_val (v' := .bool false) (by rw [hS]; unfold Lm; rw [hTd]) (op_fn Try.func23 rfl rfl rfl (down_any S (celD 601 rfl)))) ?_
          refine wl_det rfl rfl rfl (op_pick_f rfl rfl) ?_
          refine wl_nil ?_
          refine st_tn ?_
          refine w_cond_f (rfl) ?_
          refine w_skip ?_
          refine st_tn ?_
          refine w_seq ?_
          refine w_region ?_
          refine wl_det rfl rfl rfl (op_move rfl) ?_
          refine wl_det rfl rfl rfl (op_val (v' := .bool false) (by simp [hq0]) (op_eql rfl rfl)) ?_
          refine wl_nil ?_
          refine st_tn ?_
          refine w_cond_f (rfl) ?_
          refine w_skip ?_
          refine st_bn ?_
          refine st_tn ?_
          refine w_region ?_
          refine wl_det rfl rfl rfl (op_move rfl) ?_
          refine wl_det rfl rfl rfl (op_add' rfl rfl (by omega)) ?_
          refine wl_det rfl rfl rfl (op_assign rfl) ?_
          refine wl_nil ?_
          refine st_roundQ (x := (K, i, S, l_S, T, l_T)) ((K, i + 1, S, l1, T, l2)) [601, 602, 701, 702] rfl (rfl) (.cons rfl (.cons rfl (.nil _))) (.cons rfl (.cons rfl (.cons rfl (.nil _)))) (by
              try dsimp only
              exact ⟨by omega, hK0, hK1, hgS, hp1, hgT, hp2, hS, hTl, hTd⟩) (by
              try dsimp only
              omega) 
        · -- hq0-
          by_cases hz0 : K = 0
          · -- hz0+
            have hR := app_lim T K (nmN y.x.n) (y.x.d.take 40) hTl hTd
            have hq0 : (appO T (nmN y.x.n) (y.x.d.take 40)).1 = 0 := by omega
            have hcr := hR.crash hq0 hz0
            rcases hZ : appO (Lm T K) (nmN y.x.n) (y.x.d.take 40) with ⟨e3, Z⟩
            have e1 : appO S (nmN y.x.n) (y.x.d.take 40) = (27, Z) := by rw [hZ] at hcr; rw [hS, hZ]; exact Prod.ext hcr.1 rfl
            have hZd : Z.down = true := by have := hcr.2; rw [hZ] at this; exact this
            have hgZ : DskM.Good Z := by have := hgS.app (nmN y.x.n) (y.x.d.take 40); rw [e1] at this; exact this
            have e2 : appO T (nmN y.x.n) (y.x.d.take 40) = (0, (appO T (nmN y.x.n) (y.x.d.take 40)).2) := Prod.ext hq0 rfl
            have hgT2 : DskM.Good (appO T (nmN y.x.n) (y.x.d.take 40)).2 := hgT.app (nmN y.x.n) (y.x.d.take 40)
            have hsy : synO Z (nmN y.x.n) = (27, Z) := syn_down hZd
            refine w_region ?_
            refine wl_det rfl rfl rfl (op_move rfl) ?_
            refine wl_det rfl rfl rfl (op_move rfl) ?_
            refine wl_det rfl rfl rfl (op_move rfl) ?_
            refine wl_op [601, 602] rfl rfl rfl rfl (op_fn Try.func15 rfl rfl rfl (app_to e1 hgS hpS (nm_max _) htd)) ?_
            rintro _ _ ⟨l1, hp1, rfl, rfl⟩
            refine wl_det rfl rfl rfl (op_move rfl) ?_
            refine wl_det rfl rfl rfl (op_move rfl) ?_
            refine wl_det rfl rfl rfl (op_move rfl) ?_
            refine wl_op [701, 702] rfl rfl rfl rfl (op_fn Try.func15 rfl rfl rfl (app_to2 e2 hgT hpT (nm_max _) htd)) ?_
            rintro _ _ ⟨l2, hp2, rfl, rfl⟩
            refine wl_det rfl rfl rfl (op_assign rfl) ?_
            refine wl_det rfl rfl rfl (op_assign rfl) ?_
            refine wl_nil ?_
            refine st_bn ?_
            refine st_tn ?_
            refine w_seq ?_
            refine w_seq ?_
            refine w_region ?_
            refine wl_det rfl rfl rfl (op_move rfl) ?_
            refine wl_det rfl rfl rfl (op_val (v' := .bool true) (by simp) (op_eql rfl rfl)) ?_
            refine wl_det rfl rfl rfl (op_move rfl) ?_
            refine wl_wanted_det rfl rfl rfl rfl rfl rfl rfl (op_move rfl) ?_
            refine wl_wanted_det rfl rfl rfl rfl rfl rfl rfl (op_val (v' := .bool true) (by simp [hz0]) (op_eql rfl rfl)) ?_
            refine wl_det rfl rfl rfl (op_pick_t rfl rfl) ?_
            refine wl_nil ?_
            refine st_tn ?_
            refine w_cond_t (rfl) ?_
            refine w_seq ?_
            refine w_region ?_
            refine wl_det rfl rfl rfl (op_move rfl) ?_
            refine wl_det rfl rfl rfl (op_val (v' := .bool true) (by simp) (op_eql rfl rfl)) ?_
            refine wl_det rfl rfl rfl (op_move rfl) ?_
            refine wl_wanted_det rfl rfl rfl rfl rfl rfl rfl (op_move rfl) ?_
            refine wl_wanted_det rfl rfl rfl rfl rfl rfl rfl (op_val (v' := .bool true) (by rw [hZd]) (op_fn Try.func23 rfl rfl rfl (down_any Z (celD 601 rfl)))) ?_
            refine wl_det rfl rfl rfl (op_pick_t rfl rfl) ?_
            refine wl_det rfl rfl rfl (op_move rfl) ?_
            refine wl_wanted_det rfl rfl rfl rfl rfl rfl rfl (op_move rfl) ?_
            refine wl_wanted_det rfl rfl rfl rfl rfl rfl rfl (op_move rfl) ?_
            refine wl_wanted [601, 602] rfl rfl rfl rfl rfl rfl rfl rfl (op_fn Try.func21 rfl rfl rfl (syn_to hsy hgZ hp1 (nm_max _))) ?_
            rintro _ _ ⟨l3, hp3, rfl, rfl⟩
            refine wl_wanted_det rfl rfl rfl rfl rfl rfl rfl (op_val (v' := .bool true) (by simp) (op_eql rfl rfl)) ?_
            refine wl_det rfl rfl rfl (op_pick_t rfl rfl) ?_
            refine wl_det rfl rfl rfl (op_assign rfl) ?_
            refine wl_nil ?_
            refine st_tn ?_
            refine w_ret ?_
            refine st_tr ?_
            refine st_br ?_
            refine st_tr ?_
            refine st_tr ?_
            refine st_br ?_
            refine st_tr ?_
            refine st_ret (vs := [_]) [] Try.results5 ⟨rfl, trivial⟩ rfl ?_
            refine ⟨_, rfl, ?_⟩
            exact ⟨rfl, rfl⟩
          · -- hz0-
            have hR := app_lim T K (nmN y.x.n) (y.x.d.take 40) hTl hTd
            have hq0 : (appO T (nmN y.x.n) (y.x.d.take 40)).1 = 0 := by omega
            have e1 : appO S (nmN y.x.n) (y.x.d.take 40) = (0, Lm (appO T (nmN y.x.n) (y.x.d.take 40)).2 (K - 1)) := by rw [hS]; exact hR.ok hq0 (by omega)
            have e2 : appO T (nmN y.x.n) (y.x.d.take 40) = (0, (appO T (nmN y.x.n) (y.x.d.take 40)).2) := Prod.ext hq0 rfl
            have hgT2 : DskM.Good (appO T (nmN y.x.n) (y.x.d.take 40)).2 := hgT.app (nmN y.x.n) (y.x.d.take 40)
            have hgS2 : DskM.Good (Lm (appO T (nmN y.x.n) (y.x.d.take 40)).2 (K - 1)) := by have := hgS.app (nmN y.x.n) (y.x.d.take 40); rw [e1] at this; exact this
            refine w_region ?_
            refine wl_det rfl rfl rfl (op_move rfl) ?_
            refine wl_det rfl rfl rfl (op_move rfl) ?_
            refine wl_det rfl rfl rfl (op_move rfl) ?_
            refine wl_op [601, 602] rfl rfl rfl rfl (op_fn Try.func15 rfl rfl rfl (app_to e1 hgS hpS (nm_max _) htd)) ?_
            rintro _ _ ⟨l1, hp1, rfl, rfl⟩
            refine wl_det rfl rfl rfl (op_move rfl) ?_
            refine wl_det rfl rfl rfl (op_move rfl) ?_
            refine wl_det rfl rfl rfl (op_move rfl) ?_
            refine wl_op [701, 702] rfl rfl rfl rfl (op_fn Try.func15 rfl rfl rfl (app_to2 e2 hgT hpT (nm_max _) htd)) ?_
            rintro _ _ ⟨l2, hp2, rfl, rfl⟩
            refine wl_det rfl rfl rfl (op_assign rfl) ?_
            refine wl_det rfl rfl rfl (op_assign rfl) ?_
            refine wl_nil ?_
            refine st_bn ?_
            refine st_tn ?_
            refine w_seq ?_
            refine w_seq ?_
            refine w_region ?_
            refine wl_det rfl rfl rfl (op_move rfl) ?_
            refine wl_det rfl rfl rfl (op_val (v' := .bool true) (by simp) (op_eql rfl rfl)) ?_
            refine wl_det rfl rfl rfl (op_move rfl) ?_
            refine wl_wanted_det rfl rfl rfl rfl rfl rfl rfl (op_move rfl) ?_
            refine wl_wanted_det rfl rfl rfl rfl rfl rfl rfl (op_val (v' := .bool false) (by simp [hz0]) (op_eql rfl rfl)) ?_
            refine wl_det rfl rfl rfl (op_pick_t rfl rfl) ?_
            refine wl_nil ?_
            refine st_tn ?_
            refine w_cond_f (rfl) ?_
            refine w_skip ?_
            refine st_tn ?_
            refine w_seq ?_
            refine w_seq ?_
            refine w_region ?_
            refine wl_det rfl rfl rfl (op_move rfl) ?_
            refine wl_det rfl rfl rfl (op_move rfl) ?_
            refine wl_det rfl rfl rfl (op_val (v' := .bool false) (by simp) (op_neq rfl rfl)) ?_
            refine wl_det rfl rfl rfl (op_move rfl) ?_
            refine wl_wanted_det rfl rfl rfl rfl rfl rfl rfl (op_move rfl) ?_
            refine wl_wanted_det rfl rfl rfl rfl rfl rfl rfl (op_val (v' := .bool false) (by unfold Lm; rw [hR.down]) (op_fn Try.func23 rfl rfl rfl (down_any (Lm (appO T (nmN y.x.n) (y.x.d.take 40)).2 (K - 1)) (celD 601 rfl)))) ?_
            refine wl_det rfl rfl rfl (op_pick_f rfl rfl) ?_
            refine wl_nil ?_
            refine st_tn ?_
            refine w_cond_f (rfl) ?_
            refine w_skip ?_
            refine st_tn ?_
            refine w_seq ?_
            refine w_region ?_
            refine wl_det rfl rfl rfl (op_move rfl) ?_
            refine wl_det rfl rfl rfl (op_val (v' := .bool true) (by simp) (op_eql rfl rfl)) ?_
            refine wl_nil ?_
            refine st_tn ?_
            refine w_cond_t (rfl) ?_
            refine w_region ?_
            refine wl_det rfl rfl rfl (op_move rfl) ?_
            refine wl_det rfl rfl rfl (op_sub' rfl rfl (by omega)) ?_
            refine wl_det rfl rfl rfl (op_assign rfl) ?_
            refine wl_nil ?_
            refine st_bn ?_
            refine st_tn ?_
            refine w_region ?_
            refine wl_det rfl rfl rfl (op_move rfl) ?_
            refine wl_det rfl rfl rfl (op_add' rfl rfl (by omega)) ?_
            refine wl_det rfl rfl rfl (op_assign rfl) ?_
            refine wl_nil ?_
            refine st_roundQ (x := (K, i, S, l_S, T, l_T)) ((K - 1, i + 1, Lm (appO T (nmN y.x.n) (y.x.d.take 40)).2 (K - 1), l1, (appO T (nmN y.x.n) (y.x.d.take 40)).2, l2)) [601, 602, 701, 702] rfl (rfl) (.cons rfl (.cons rfl (.nil _))) (.cons rfl (.cons rfl (.cons rfl (.nil _)))) (by
                try dsimp only
                exact ⟨by omega, by omega, by omega, hgS2, hp1, hgT2, hp2, rfl, hR.lim, hR.down⟩) (by
                try dsimp only
                omega) 
      · -- c83.f
        refine w_seq ?_
        refine w_region ?_
        refine wl_det rfl rfl rfl (op_eql rfl rfl) ?_
        refine wl_det rfl rfl rfl (op_assign rfl) ?_
        refine wl_nil ?_
        refine st_tn ?_
        refine w_cond_d rfl (fun hc93 => ?_) (fun hc93 => ?_)
        · -- c93.t
          by_cases hq1 : (synO T (nmN y.x.n)).1 ≠ 0
          · -- hq1+
            have hR := syn_lim T K (nmN y.x.n) hTl hTd
            obtain ⟨hT2, hS2⟩ := hR.fail hq1
            have e1 : synO S (nmN y.x.n) = ((synO T (nmN y.x.n)).1, S) := by rw [hS]; exact hS2
            have e2 : synO T (nmN y.x.n) = ((synO T (nmN y.x.n)).1, T) := Prod.ext rfl hT2
            refine w_region ?_
            refine wl_det rfl rfl rfl (op_move rfl) ?_
            refine wl_det rfl rfl rfl (op_move rfl) ?_
            refine wl_op [601, 602] rfl rfl rfl rfl (op_fn Try.func21 rfl rfl rfl (syn_to e1 hgS hpS (nm_max _))) ?_
            rintro _ _ ⟨l1, hp1, rfl, rfl⟩
            refine wl_det rfl rfl rfl (op_move rfl) ?_
            refine wl_det rfl rfl rfl (op_move rfl) ?_
            refine wl_op [701, 702] rfl rfl rfl rfl (op_fn Try.func21 rfl rfl rfl (syn_to2 e2 hgT hpT (nm_max _))) ?_
            rintro _ _ ⟨l2, hp2, rfl, rfl⟩
            refine wl_det rfl rfl rfl (op_assign rfl) ?_
            refine wl_det rfl rfl rfl (op_assign rfl) ?_
            refine wl_nil ?_
            refine st_bn ?_
            refine st_tn ?_
            refine w_seq ?_
            refine w_seq ?_
            refine w_region ?_
            refine wl_det rfl rfl rfl (op_move rfl) ?_
            refine wl_det rfl rfl rfl (op_val (v' := .bool false) (by simp [hq1]) (op_eql rfl rfl)) ?_
            refine wl_det rfl rfl rfl (op_move rfl) ?_
            refine wl_unwanted rfl rfl rfl rfl rfl rfl rfl rfl ?_
            refine wl_unwanted rfl rfl rfl rfl rfl rfl rfl rfl ?_
            refine wl_det rfl rfl rfl (op_pick_f rfl rfl) ?_
            refine wl_nil ?_
            refine st_tn ?_
            refine w_cond_f (rfl) ?_
            refine w_skip ?_
            refine st_tn ?_
            refine w_seq ?_
            refine w_seq ?_
            refine w_region ?_
            refine wl_det rfl rfl rfl (op_move rfl) ?_
            refine wl_det rfl rfl rfl (op_move rfl) ?_
            refine wl_det rfl rfl rfl (op_val (v' := .bool false) (by simp) (op_neq rfl rfl)) ?_
            refine wl_det rfl rfl rfl (op_move rfl) ?_
            refine wl_wanted_det rfl rfl rfl rfl rfl rfl rfl (op_move rfl) ?_
            refine wl_wanted_det rfl rfl rfl rfl rfl rfl rfl (op_val (v' := .bool false) (by rw [hS]; unfold Lm; rw [hTd]) (op_fn Try.func23 rfl rfl rfl (down_any S (celD 601 rfl)))) ?_
            refine wl_det rfl rfl rfl (op_pick_f rfl rfl) ?_
            refine wl_nil ?_
            refine st_tn ?_
            refine w_cond_f (rfl) ?_
            refine w_skip ?_
            refine st_tn ?_
            refine w_seq ?_
            refine w_region ?_
            refine wl_det rfl rfl rfl (op_move rfl) ?_
            refine wl_det rfl rfl rfl (op_val (v' := .bool false) (by simp [hq1]) (op_eql rfl rfl)) ?_
            refine wl_nil ?_
            refine st_tn ?_
            refine w_cond_f (rfl) ?_
            refine w_skip ?_
            refine st_bn ?_
            refine st_tn ?_
            refine w_region ?_
            refine wl_det rfl rfl rfl (op_move rfl) ?_
            refine wl_det rfl rfl rfl (op_add' rfl rfl (by omega)) ?_
            refine wl_det rfl rfl rfl (op_assign rfl) ?_
            refine wl_nil ?_
            refine st_roundQ (x := (K, i, S, l_S, T, l_T)) ((K, i + 1, S, l1, T, l2)) [601, 602, 701, 702] rfl (rfl) (.cons rfl (.cons rfl (.nil _))) (.cons rfl (.cons rfl (.cons rfl (.nil _)))) (by
                try dsimp only
                exact ⟨by omega, hK0, hK1, hgS, hp1, hgT, hp2, hS, hTl, hTd⟩) (by
                try dsimp only
                omega) 
          · -- hq1-
            by_cases hz1 : K = 0
            · -- hz1+
              have hR := syn_lim T K (nmN y.x.n) hTl hTd
              have hq0 : (synO T (nmN y.x.n)).1 = 0 := by omega
              have hcr := hR.crash hq0 hz1
              rcases hZ : synO (Lm T K) (nmN y.x.n) with ⟨e3, Z⟩
              have e1 : synO S (nmN y.x.n) = (27, Z) := by rw [hZ] at hcr; rw [hS, hZ]; exact Prod.ext hcr.1 rfl
              have hZd : Z.down = true := by have := hcr.2; rw [hZ] at this; exact this
              have hgZ : DskM.Good Z := by have := hgS.syn_ (nmN y.x.n); rw [e1] at this; exact this
              have e2 : synO T (nmN y.x.n) = (0, (synO T (nmN y.x.n)).2) := Prod.ext hq0 rfl
              have hgT2 : DskM.Good (synO T (nmN y.x.n)).2 := hgT.syn_ (nmN y.x.n)
              have hsy : synO Z (nmN y.x.n) = (27, Z) := syn_down hZd
              refine w_region ?_
              refine wl_det rfl rfl rfl (op_move rfl) ?_
              refine wl_det rfl rfl rfl (op_move rfl) ?_
              refine wl_op [601, 602] rfl rfl rfl rfl (op_fn Try.func21 rfl rfl rfl (syn_to e1 hgS hpS (nm_max _))) ?_
              rintro _ _ ⟨l1, hp1, rfl, rfl⟩
              refine wl_det rfl rfl rfl (op_move rfl) ?_
              refine wl_det rfl rfl rfl (op_move rfl) ?_
              refine wl_op [701, 702] rfl rfl rfl rfl (op_fn Try.func21 rfl rfl rfl (syn_to2 e2 hgT hpT (nm_max _))) ?_
              rintro _ _ ⟨l2, hp2, rfl, rfl⟩
              refine wl_det rfl rfl rfl (op_assign rfl) ?_
              refine wl_det rfl rfl rfl (op_assign rfl) ?_
              refine wl_nil ?_
              refine st_bn ?_
              refine st_tn ?_
              refine w_seq ?_
              refine w_seq ?_
              refine w_region ?_
              refine wl_det rfl rfl rfl (op_move rfl) ?_
              refine wl_det rfl rfl rfl (op_val (v' := .bool true) (by simp) (op_eql rfl rfl)) ?_
              refine wl_det rfl rfl rfl (op_move rfl) ?_
              refine wl_wanted_det rfl rfl rfl rfl rfl rfl rfl (op_move rfl) ?_
              refine wl_wanted_det rfl rfl rfl rfl rfl rfl rfl (op_val (v' := .bool true) (by simp [hz1]) (op_eql rfl rfl)) ?_
              refine wl_det rfl rfl rfl (op_pick_t rfl rfl) ?_
              refine wl_nil ?_
              refine st_tn ?_
              refine w_cond_t (rfl) ?_
              refine w_seq ?_
              refine w_region ?_
              refine wl_det rfl rfl rfl (op_move rfl) ?_
              refine wl_det rfl rfl rfl (op_val (v' := .bool true) (by simp) (op_eql rfl rfl)) ?_
              refine wl_det rfl rfl rfl (op_move rfl) ?_
              refine wl_wanted_det rfl rfl rfl rfl rfl rfl rfl (op_move rfl) ?_
              refine wl_wanted_det rfl rfl rfl rfl rfl rfl rfl (op_val (v' := .bool true) (by rw [hZd]) (op_fn Try.func23 rfl rfl rfl (down_any Z (celD 601 rfl)))) ?_
              refine wl_det rfl rfl rfl (op_pick_t rfl rfl) ?_
              refine wl_det rfl rfl rfl (op_move rfl) ?_
              refine wl_wanted_det rfl rfl rfl rfl rfl rfl rfl (op_move rfl) ?_
              refine wl_wanted_det rfl rfl rfl rfl rfl rfl rfl (op_move rfl) ?_
              refine wl_wanted [601, 602] rfl rfl rfl rfl rfl rfl rfl rfl (op_fn Try.func21 rfl rfl rfl (syn_to hsy hgZ hp1 (nm_max _))) ?_
              rintro _ _ ⟨l3, hp3, rfl, rfl⟩
              refine wl_wanted_det rfl rfl rfl rfl rfl rfl rfl (op_val (v' := .bool true) (by simp) (op_eql rfl rfl)) ?_
              refine wl_det rfl rfl rfl (op_pick_t rfl rfl) ?_
              refine wl_det rfl rfl rfl (op_assign rfl) ?_
              refine wl_nil ?_
              refine st_tn ?_
              refine w_ret ?_
              refine st_tr ?_
              refine st_br ?_
              refine st_tr ?_
              refine st_tr ?_
              refine st_br ?_
              refine st_tr ?_
              refine st_ret (vs := [_]) [] Try.results5 ⟨rfl, trivial⟩ rfl ?_
              refine ⟨_, rfl, ?_⟩
              exact ⟨rfl, rfl⟩
            · -- hz1-
              have hR := syn_lim T K (nmN y.x.n) hTl hTd
              have hq0 : (synO T (nmN y.x.n)).1 = 0 := by omega
              have e1 : synO S (nmN y.x.n) = (0, Lm (synO T (nmN y.x.n)).2 (K - 1)) := by rw [hS]; exact hR.ok hq0 (by omega)
              have e2 : synO T (nmN y.x.n) = (0, (synO T (nmN y.x.n)).2) := Prod.ext hq0 rfl
              have hgT2 : DskM.Good (synO T (nmN y.x.n)).2 := hgT.syn_ (nmN y.x.n)
              have hgS2 : DskM.Good (Lm (synO T (nmN y.x.n)).2 (K - 1)) := by have := hgS.syn_ (nmN y.x.n); rw [e1] at this; exact this
              refine w_region ?_
              refine wl_det rfl rfl rfl (op_move rfl) ?_
              refine wl_det rfl rfl rfl (op_move rfl) ?_
              refine wl_op [601, 602] rfl rfl rfl rfl (op_fn Try.func21 rfl rfl rfl (syn_to e1 hgS hpS (nm_max _))) ?_
              rintro _ _ ⟨l1, hp1, rfl, rfl⟩
              refine wl_det rfl rfl rfl (op_move rfl) ?_
              refine wl_det rfl rfl rfl (op_move rfl) ?_
              refine wl_op [701, 702] rfl rfl rfl rfl (op_fn Try.func21 rfl rfl rfl (syn_to2 e2 hgT hpT (nm_max _))) ?_
              rintro _ _ ⟨l2, hp2, rfl, rfl⟩
              refine wl_det rfl rfl rfl (op_assign rfl) ?_
              refine wl_det rfl rfl rfl (op_assign rfl) ?_
              refine wl_nil ?_
              refine st_bn ?_
              refine st_tn ?_
              refine w_seq ?_
              refine w_seq ?_
              refine w_region ?_
              refine wl_det rfl rfl rfl (op_move rfl) ?_
              refine wl_det rfl rfl rfl (op_val (v' := .bool true) (by simp) (op_eql rfl rfl)) ?_
              refine wl_det rfl rfl rfl (op_move rfl) ?_
              refine wl_wanted_det rfl rfl rfl rfl rfl rfl rfl (op_move rfl) ?_
              refine wl_wanted_det rfl rfl rfl rfl rfl rfl rfl (op_val (v' := .bool false) (by simp [hz1]) (op_eql rfl rfl)) ?_
              refine wl_det rfl rfl rfl (op_pick_t rfl rfl) ?_
              refine wl_nil ?_
              refine st_tn ?_
              refine w_cond_f (rfl) ?_
              refine w_skip ?_
              refine st_tn ?_
              refine w_seq ?_
              refine w_seq ?_
              refine w_region ?_
              refine wl_det rfl rfl rfl (op_move rfl) ?_
              refine wl_det rfl rfl rfl (op_move rfl) ?_
              refine wl_det rfl rfl rfl (op_val (v' := .bool false) (by simp) (op_neq rfl rfl)) ?_
              refine wl_det rfl rfl rfl (op_move rfl) ?_
              refine wl_wanted_det rfl rfl rfl rfl rfl rfl rfl (op_move rfl) ?_
              refine wl_wanted_det rfl rfl rfl rfl rfl rfl rfl (op_val (v' := .bool false) (by unfold Lm; rw [hR.down]) (op_fn Try.func23 rfl rfl rfl (down_any (Lm (synO T (nmN y.x.n)).2 (K - 1)) (celD 601 rfl)))) ?_
              refine wl_det rfl rfl rfl (op_pick_f rfl rfl) ?_
              refine wl_nil ?_
              refine st_tn ?_
              refine w_cond_f (rfl) ?_
              refine w_skip ?_
              refine st_tn ?_
              refine w_seq ?_
              refine w_region ?_
              refine wl_det rfl rfl rfl (op_move rfl) ?_
              refine wl_det rfl rfl rfl (op_val (v' := .bool true) (by simp) (op_eql rfl rfl)) ?_
              refine wl_nil ?_
              refine st_tn ?_
              refine w_cond_t (rfl) ?_
              refine w_region ?_
              refine wl_det rfl rfl rfl (op_move rfl) ?_
              refine wl_det rfl rfl rfl (op_sub' rfl rfl (by omega)) ?_
              refine wl_det rfl rfl rfl (op_assign rfl) ?_
              refine wl_nil ?_
              refine st_bn ?_
              refine st_tn ?_
              refine w_region ?_
              refine wl_det rfl rfl rfl (op_move rfl) ?_
              refine wl_det rfl rfl rfl (op_add' rfl rfl (by omega)) ?_
              refine wl_det rfl rfl rfl (op_assign rfl) ?_
              refine wl_nil ?_
              refine st_roundQ (x := (K, i, S, l_S, T, l_T)) ((K - 1, i + 1, Lm (synO T (nmN y.x.n)).2 (K - 1), l1, (synO T (nmN y.x.n)).2, l2)) [601, 602, 701, 702] rfl (rfl) (.cons rfl (.cons rfl (.nil _))) (.cons rfl (.cons rfl (.cons rfl (.nil _)))) (by
                  try dsimp only
                  exact ⟨by omega, by omega, by omega, hgS2, hp1, hgT2, hp2, rfl, hR.lim, hR.down⟩) (by
                  try dsimp only
                  omega) 
        · -- c93.f
          refine w_seq ?_
          refine w_region ?_
          refine wl_det rfl rfl rfl (op_eql rfl rfl) ?_
          refine wl_det rfl rfl rfl (op_assign rfl) ?_
          refine wl_nil ?_
          refine st_tn ?_
          refine w_cond_d rfl (fun hc101 => ?_) (fun hc101 => ?_)
          · -- c101.t
            by_cases hq2 : (renO T (nmN y.x.n) (nmN y.x.o)).1 ≠ 0
            · -- hq2+
              have hR := ren_lim T K (nmN y.x.n) (nmN y.x.o) hTl hTd
              obtain ⟨hT2, hS2⟩ := hR.fail hq2
              have e1 : renO S (nmN y.x.n) (nmN y.x.o) = ((renO T (nmN y.x.n) (nmN y.x.o)).1, S) := by rw [hS]; exact hS2
              have e2 : renO T (nmN y.x.n) (nmN y.x.o) = ((renO T (nmN y.x.n) (nmN y.x.o)).1, T) := Prod.ext rfl hT2
              refine w_region ?_
              refine wl_det rfl rfl rfl (op_move rfl) ?_
              refine wl_det rfl rfl rfl (op_move rfl) ?_
              refine wl_det rfl rfl rfl (op_move rfl) ?_
              refine wl_op [601, 602] rfl rfl rfl rfl (op_fn Try.func22 rfl rfl rfl (ren_to e1 hgS hpS (nm_max _) (nm_max _))) ?_
              rintro _ _ ⟨l1, hp1, rfl, rfl⟩
              refine wl_det rfl rfl rfl (op_move rfl) ?_
              refine wl_det rfl rfl rfl (op_move rfl) ?_
              refine wl_det rfl rfl rfl (op_move rfl) ?_
              refine wl_op [701, 702] rfl rfl rfl rfl (op_fn Try.func22 rfl rfl rfl (ren_to2 e2 hgT hpT (nm_max _) (nm_max _))) ?_
              rintro _ _ ⟨l2, hp2, rfl, rfl⟩
              refine wl_det rfl rfl rfl (op_assign rfl) ?_
              refine wl_det rfl rfl rfl (op_assign rfl) ?_
              refine wl_nil ?_
              refine st_bn ?_
              refine st_tn ?_
              refine w_seq ?_
              refine w_seq ?_
              refine w_region ?_
              refine wl_det rfl rfl rfl (op_move rfl) ?_
              refine wl_det rfl rfl rfl (op_val (v' := .bool false) (by simp [hq2]) (op_eql rfl rfl)) ?_
              refine wl_det rfl rfl rfl (op_move rfl) ?_
              refine wl_unwanted rfl rfl rfl rfl rfl rfl rfl rfl ?_
              refine wl_unwanted rfl rfl rfl rfl rfl rfl rfl rfl ?_
              refine wl_det rfl rfl rfl (op_pick_f rfl rfl) ?_
              refine wl_nil ?_
              refine st_tn ?_
              refine w_cond_f (rfl) ?_
              refine w_skip ?_
              refine st_tn ?_
              refine w_seq ?_
              refine w_seq ?_
              refine w_region ?_
              refine wl_det rfl rfl rfl (op_move rfl) ?_
              refine wl_det rfl rfl rfl (op_move rfl) ?_
              refine wl_det rfl rfl rfl (op_val (v' := .bool false) (by simp) (op_neq rfl rfl)) ?_
              refine wl_det rfl rfl rfl (op_move rfl) ?_
              refine wl_wanted_det rfl rfl rfl rfl rfl rfl rfl (op_move rfl) ?_
              refine wl_wanted_det rfl rfl rfl rfl rfl rfl rfl (op_val (v' := .bool false) (by rw [hS]; unfold Lm; rw [hTd]) (op_fn Try.func23 rfl rfl rfl (down_any S (celD 601 rfl)))) ?_
              refine wl_det rfl rfl rfl (op_pick_f rfl rfl) ?_
              refine wl_nil ?_
              refine st_tn ?_
              refine w_cond_f (rfl) ?_
              refine w_skip ?_
              refine st_tn ?_
              refine w_seq ?_
              refine w_region ?_
              refine wl_det rfl rfl rfl (op_move rfl) ?_
              refine wl_det rfl rfl rfl (op_val (v' := .bool false) (by simp [hq2]) (op_eql rfl rfl)) ?_
              refine wl_nil ?_
              refine st_tn ?_
              refine w_cond_f (rfl) ?_
              refine w_skip ?_
              refine st_bn ?_
              refine st_tn ?_
              refine w_region ?_
              refine wl_det rfl rfl rfl (op_move rfl) ?_
              refine wl_det rfl rfl rfl (op_add' rfl rfl (by omega)) ?_
              refine wl_det rfl rfl rfl (op_assign rfl) ?_
              refine wl_nil ?_
              refine st_roundQ (x := (K, i, S, l_S, T, l_T)) ((K, i + 1, S, l1, T, l2)) [601, 602, 701, 702] rfl (rfl) (.cons rfl (.cons rfl (.nil _))) (.cons rfl (.cons rfl (.cons rfl (.nil _)))) (by
                  try dsimp only
                  exact ⟨by omega, hK0, hK1, hgS, hp1, hgT, hp2, hS, hTl, hTd⟩) (by
                  try dsimp only
                  omega) 
            · -- hq2-
              by_cases hz2 : K = 0
              · -- hz2+
                have hR := ren_lim T K (nmN y.x.n) (nmN y.x.o) hTl hTd
                have hq0 : (renO T (nmN y.x.n) (nmN y.x.o)).1 = 0 := by omega
                have hcr := hR.crash hq0 hz2
                rcases hZ : renO (Lm T K) (nmN y.x.n) (nmN y.x.o) with ⟨e3, Z⟩
                have e1 : renO S (nmN y.x.n) (nmN y.x.o) = (27, Z) := by rw [hZ] at hcr; rw [hS, hZ]; exact Prod.ext hcr.1 rfl
                have hZd : Z.down = true := by have := hcr.2; rw [hZ] at this; exact this
                have hgZ : DskM.Good Z := by have := hgS.ren (nmN y.x.n) (nmN y.x.o); rw [e1] at this; exact this
                have e2 : renO T (nmN y.x.n) (nmN y.x.o) = (0, (renO T (nmN y.x.n) (nmN y.x.o)).2) := Prod.ext hq0 rfl
                have hgT2 : DskM.Good (renO T (nmN y.x.n) (nmN y.x.o)).2 := hgT.ren (nmN y.x.n) (nmN y.x.o)
                have hsy : synO Z (nmN y.x.n) = (27, Z) := syn_down hZd
                refine w_region ?_
                refine wl_det rfl rfl rfl (op_move rfl) ?_
                refine wl_det rfl rfl rfl (op_move rfl) ?_
                refine wl_det rfl rfl rfl (op_move rfl) ?_
                refine wl_op [601, 602] rfl rfl rfl rfl (op_fn Try.func22 rfl rfl rfl (ren_to e1 hgS hpS (nm_max _) (nm_max _))) ?_
                rintro _ _ ⟨l1, hp1, rfl, rfl⟩
                refine wl_det rfl rfl rfl (op_move rfl) ?_
                refine wl_det rfl rfl rfl (op_move rfl) ?_
                refine wl_det rfl rfl rfl (op_move rfl) ?_
                refine wl_op [701, 702] rfl rfl rfl rfl (op_fn Try.func22 rfl rfl rfl (ren_to2 e2 hgT hpT (nm_max _) (nm_max _))) ?_
                rintro _ _ ⟨l2, hp2, rfl, rfl⟩
                refine wl_det rfl rfl rfl (op_assign rfl) ?_
                refine wl_det rfl rfl rfl (op_assign rfl) ?_
                refine wl_nil ?_
                refine st_bn ?_
                refine st_tn ?_
                refine w_seq ?_
                refine w_seq ?_
                refine w_region ?_
                refine wl_det rfl rfl rfl (op_move rfl) ?_
                refine wl_det rfl rfl rfl (op_val (v' := .bool true) (by simp) (op_eql rfl rfl)) ?_
                refine wl_det rfl rfl rfl (op_move rfl) ?_
                refine wl_wanted_det rfl rfl rfl rfl rfl rfl rfl (op_move rfl) ?_
                refine wl_wanted_det rfl rfl rfl rfl rfl rfl rfl (op_val (v' := .bool true) (by simp [hz2]) (op_eql rfl rfl)) ?_
                refine wl_det rfl rfl rfl (op_pick_t rfl rfl) ?_
                refine wl_nil ?_
                refine st_tn ?_
                refine w_cond_t (rfl) ?_
                refine w_seq ?_
                refine w_region ?_
                refine wl_det rfl rfl rfl (op_move rfl) ?_
                refine wl_det rfl rfl rfl (op_val (v' := .bool true) (by simp) (op_eql rfl rfl)) ?_
                refine wl_det rfl rfl rfl (op_move rfl) ?_
                refine wl_wanted_det rfl rfl rfl rfl rfl rfl rfl (op_move rfl) ?_
                refine wl_wanted_det rfl rfl rfl rfl rfl rfl rfl (op_val (v' := .bool true) (by rw [hZd]) (op_fn Try.func23 rfl rfl rfl (down_any Z (celD 601 rfl)))) ?_
                refine wl_det rfl rfl rfl (op_pick_t rfl rfl) ?_
                refine wl_det rfl rfl rfl (op_move rfl) ?_
                refine wl_wanted_det rfl rfl rfl rfl rfl rfl rfl (op_move rfl) ?_
                refine wl_wanted_det rfl rfl rfl rfl rfl rfl rfl (op_move rfl) ?_
                refine wl_wanted [601, 602] rfl rfl rfl rfl rfl rfl rfl rfl (op_fn Try.func21 rfl rfl rfl (syn_to hsy hgZ hp1 (nm_max _))) ?_
                rintro _ _ ⟨l3, hp3, rfl, rfl⟩
                refine wl_wanted_det rfl rfl rfl rfl rfl rfl rfl (op_val (v' := .bool true) (by simp) (op_eql rfl rfl)) ?_
                refine wl_det rfl rfl rfl (op_pick_t rfl rfl) ?_
                refine wl_det rfl rfl rfl (op_assign rfl) ?_
                refine wl_nil ?_
                refine st_tn ?_
                refine w_ret ?_
                refine st_tr ?_
                refine st_br ?_
                refine st_tr ?_
                refine st_tr ?_
                refine st_br ?_
                refine st_tr ?_
                refine st_ret (vs := [_]) [] Try.results5 ⟨rfl, trivial⟩ rfl ?_
                refine ⟨_, rfl, ?_⟩
                exact ⟨rfl, rfl⟩
              · -- hz2-
                have hR := ren_lim T K (nmN y.x.n) (nmN y.x.o) hTl hTd
                have hq0 : (renO T (nmN y.x.n) (nmN y.x.o)).1 = 0 := by omega
                have e1 : renO S (nmN y.x.n) (nmN y.x.o) = (0, Lm (renO T (nmN y.x.n) (nmN y.x.o)).2 (K - 1)) := by rw [hS]; exact hR.ok hq0 (by omega)
                have e2 : renO T (nmN y.x.n) (nmN y.x.o) = (0, (renO T (nmN y.x.n) (nmN y.x.o)).2) := Prod.ext hq0 rfl
                have hgT2 : DskM.Good (renO T (nmN y.x.n) (nmN y.x.o)).2 := hgT.ren (nmN y.x.n) (nmN y.x.o)
                have hgS2 : DskM.Good (Lm (renO T (nmN y.x.n) (nmN y.x.o)).2 (K - 1)) := by have := hgS.ren (nmN y.x.n) (nmN y.x.o); rw [e1] at this; exact this
                refine w_region ?_
                refine wl_det rfl rfl rfl (op_move rfl) ?_
                refine wl_det rfl rfl rfl (op_move rfl) ?_
                refine wl_det rfl rfl rfl (op_move rfl) ?_
                refine wl_op [601, 602] rfl rfl rfl rfl (op_fn Try.func22 rfl rfl rfl (ren_to e1 hgS hpS (nm_max _) (nm_max _))) ?_
                rintro _ _ ⟨l1, hp1, rfl, rfl⟩
                refine wl_det rfl rfl rfl (op_move rfl) ?_
                refine wl_det rfl rfl rfl (op_move rfl) ?_
                refine wl_det rfl rfl rfl (op_move rfl) ?_
                refine wl_op [701, 702] rfl rfl rfl rfl (op_fn Try.func22 rfl rfl rfl (ren_to2 e2 hgT hpT (nm_max _) (nm_max _))) ?_
                rintro _ _ ⟨l2, hp2, rfl, rfl⟩
                refine wl_det rfl rfl rfl (op_assign rfl) ?_
                refine wl_det rfl rfl rfl (op_assign rfl) ?_
                refine wl_nil ?_
                refine st_bn ?_
                refine st_tn ?_
                refine w_seq ?_
                refine w_seq ?_
                refine w_region ?_
                refine wl_det rfl rfl rfl (op_move rfl) ?_
                refine wl_det rfl rfl rfl (op_val (v' := .bool true) (by simp) (op_eql rfl rfl)) ?_
                refine wl_det rfl rfl rfl (op_move rfl) ?_
                refine wl_wanted_det rfl rfl rfl rfl rfl rfl rfl (op_move rfl) ?_
                refine wl_wanted_det rfl rfl rfl rfl rfl rfl rfl (op_val (v' := .bool false) (by simp [hz2]) (op_eql rfl rfl)) ?_
                refine wl_det rfl rfl rfl (op_pick_t rfl rfl) ?_
                refine wl_nil ?_
                refine st_tn ?_
                refine w_cond_f (rfl) ?_
                refine w_skip ?_
                refine st_tn ?_
                refine w_seq ?_
                refine w_seq ?_
                refine w_region ?_
                refine wl_det rfl rfl rfl (op_move rfl) ?_
                refine wl_det rfl rfl rfl (op_move rfl) ?_
                refine wl_det rfl rfl rfl (op_val (v' := .bool false) (by simp) (op_neq rfl rfl)) ?_
                refine wl_det rfl rfl rfl (op_move rfl) ?_
                refine wl_wanted_det rfl rfl rfl rfl rfl rfl rfl (op_move rfl) ?_
                refine wl_wanted_det rfl rfl rfl rfl rfl rfl rfl (op_val (v' := .bool false) (by unfold Lm; rw [hR.down]) (op_fn Try.func23 rfl rfl rfl (down_any (Lm (renO T (nmN y.x.n) (nmN y.x.o)).2 (K - 1)) (celD 601 rfl)))) ?_
                refine wl_det rfl rfl rfl (op_pick_f rfl rfl) ?_
                refine wl_nil ?_
                refine st_tn ?_
                refine w_cond_f (rfl) ?_
                refine w_skip ?_
                refine st_tn ?_
                refine w_seq ?_
                refine w_region ?_
                refine wl_det rfl rfl rfl (op_move rfl) ?_
                refine wl_det rfl rfl rfl (op_val (v' := .bool true) (by simp) (op_eql rfl rfl)) ?_
                refine wl_nil ?_
                refine st_tn ?_
                refine w_cond_t (rfl) ?_
                refine w_region ?_
                refine wl_det rfl rfl rfl (op_move rfl) ?_
                refine wl_det rfl rfl rfl (op_sub' rfl rfl (by omega)) ?_
                refine wl_det rfl rfl rfl (op_assign rfl) ?_
                refine wl_nil ?_
                refine st_bn ?_
                refine st_tn ?_
                refine w_region ?_
                refine wl_det rfl rfl rfl (op_move rfl) ?_
                refine wl_det rfl rfl rfl (op_add' rfl rfl (by omega)) ?_
                refine wl_det rfl rfl rfl (op_assign rfl) ?_
                refine wl_nil ?_
                refine st_roundQ (x := (K, i, S, l_S, T, l_T)) ((K - 1, i + 1, Lm (renO T (nmN y.x.n) (nmN y.x.o)).2 (K - 1), l1, (renO T (nmN y.x.n) (nmN y.x.o)).2, l2)) [601, 602, 701, 702] rfl (rfl) (.cons rfl (.cons rfl (.nil _))) (.cons rfl (.cons rfl (.cons rfl (.nil _)))) (by
                    try dsimp only
                    exact ⟨by omega, by omega, by omega, hgS2, hp1, hgT2, hp2, rfl, hR.lim, hR.down⟩) (by
                    try dsimp only
                    omega) 
          · -- c101.f
            by_cases hq3 : (remO T (nmN y.x.n)).1 ≠ 0
            · -- hq3+
              have hR := rem_lim T K (nmN y.x.n) hTl hTd
              obtain ⟨hT2, hS2⟩ := hR.fail hq3
              have e1 : remO S (nmN y.x.n) = ((remO T (nmN y.x.n)).1, S) := by rw [hS]; exact hS2
              have e2 : remO T (nmN y.x.n) = ((remO T (nmN y.x.n)).1, T) := Prod.ext rfl hT2
              refine w_region ?_
              refine wl_det rfl rfl rfl (op_move rfl) ?_
              refine wl_det rfl rfl rfl (op_move rfl) ?_
              refine wl_op [601, 602] rfl rfl rfl rfl (op_fn Try.func17 rfl rfl rfl (rem_to e1 hgS hpS (nm_max _))) ?_
              rintro _ _ ⟨l1, hp1, rfl, rfl⟩
              refine wl_det rfl rfl rfl (op_move rfl) ?_
              refine wl_det rfl rfl rfl (op_move rfl) ?_
              refine wl_op [701, 702] rfl rfl rfl rfl (op_fn Try.func17 rfl rfl rfl (rem_to2 e2 hgT hpT (nm_max _))) ?_
              rintro _ _ ⟨l2, hp2, rfl, rfl⟩
              refine wl_det rfl rfl rfl (op_assign rfl) ?_
              refine wl_det rfl rfl rfl (op_assign rfl) ?_
              refine wl_nil ?_
              refine st_bn ?_
              refine st_tn ?_
              refine w_seq ?_
              refine w_seq ?_
              refine w_region ?_
              refine wl_det rfl rfl rfl (op_move rfl) ?_
              refine wl_det rfl rfl rfl (op_val (v' := .bool false) (by simp [hq3]) (op_eql rfl rfl)) ?_
              refine wl_det rfl rfl rfl (op_move rfl) ?_
              refine wl_unwanted rfl rfl rfl rfl rfl rfl rfl rfl ?_
              refine wl_unwanted rfl rfl rfl rfl rfl rfl rfl rfl ?_
              refine wl_det rfl rfl rfl (op_pick_f rfl rfl) ?_
              refine wl_nil ?_
              refine st_tn ?_
              refine w_cond_f (rfl) ?_
              refine w_skip ?_
              refine st_tn ?_
              refine w_seq ?_
              refine w_seq ?_
              refine w_region ?_
              refine wl_det rfl rfl rfl (op_move rfl) ?_
              refine wl_det rfl rfl rfl (op_move rfl) ?_
              refine wl_det rfl rfl rfl (op_val (v' := .bool false) (by simp) (op_neq rfl rfl)) ?_
              refine wl_det rfl rfl rfl (op_move rfl) ?_
              refine wl_wanted_det rfl rfl rfl rfl rfl rfl rfl (op_move rfl) ?_
              refine wl_wanted_det rfl rfl rfl rfl rfl rfl rfl (op_val (v' := .bool false) (by rw [hS]; unfold Lm; rw [hTd]) (op_fn Try.func23 rfl rfl rfl (down_any S (celD 601 rfl)))) ?_
              refine wl_det rfl rfl rfl (op_pick_f rfl rfl) ?_
              refine wl_nil ?_
              refine st_tn ?_
              refine w_cond_f (rfl) ?_
              refine w_skip ?_
              refine st_tn ?_
              refine w_seq ?_
              refine w_region ?_
              refine wl_det rfl rfl rfl (op_move rfl) ?_
              refine wl_det rfl rfl rfl (op_val (v' := .bool false) (by simp [hq3]) (op_eql rfl rfl)) ?_
              refine wl_nil ?_
              refine st_tn ?_
              refine w_cond_f (rfl) ?_
              refine w_skip ?_
              refine st_bn ?_
              refine st_tn ?_
              refine w_region ?_
              refine wl_det rfl rfl rfl (op_move rfl) ?_
              refine wl_det rfl rfl rfl (op_add' rfl rfl (by omega)) ?_
              refine wl_det rfl rfl rfl (op_assign rfl) ?_
              refine wl_nil ?_
              refine st_roundQ (x := (K, i, S, l_S, T, l_T)) ((K, i + 1, S, l1, T, l2)) [601, 602, 701, 702] rfl (rfl) (.cons rfl (.cons rfl (.nil _))) (.cons rfl (.cons rfl (.cons rfl (.nil _)))) (by
                  try dsimp only
                  exact ⟨by omega, hK0, hK1, hgS, hp1, hgT, hp2, hS, hTl, hTd⟩) (by
                  try dsimp only
                  omega) 
            · -- hq3-
              by_cases hz3 : K = 0
              · -- hz3+
                have hR := rem_lim T K (nmN y.x.n) hTl hTd
                have hq0 : (remO T (nmN y.x.n)).1 = 0 := by omega
                have hcr := hR.crash hq0 hz3
                rcases hZ : remO (Lm T K) (nmN y.x.n) with ⟨e3, Z⟩
                have e1 : remO S (nmN y.x.n) = (27, Z) := by rw [hZ] at hcr; rw [hS, hZ]; exact Prod.ext hcr.1 rfl
                have hZd : Z.down = true := by have := hcr.2; rw [hZ] at this; exact this
                have hgZ : DskM.Good Z := by have := hgS.rem (nmN y.x.n); rw [e1] at this; exact this
                have e2 : remO T (nmN y.x.n) = (0, (remO T (nmN y.x.n)).2) := Prod.ext hq0 rfl
                have hgT2 : DskM.Good (remO T (nmN y.x.n)).2 := hgT.rem (nmN y.x.n)
                have hsy : synO Z (nmN y.x.n) = (27, Z) := syn_down hZd
                refine w_region ?_
                refine wl_det rfl rfl rfl (op_move rfl) ?_
                refine wl_det rfl rfl rfl (op_move rfl) ?_
                refine wl_op [601, 602] rfl rfl rfl rfl (op_fn Try.func17 rfl rfl rfl (rem_to e1 hgS hpS (nm_max _))) ?_
                rintro _ _ ⟨l1, hp1, rfl, rfl⟩
                refine wl_det rfl rfl rfl (op_move rfl) ?_
                refine wl_det rfl rfl rfl (op_move rfl) ?_
                refine wl_op [701, 702] rfl rfl rfl rfl (op_fn Try.func17 rfl rfl rfl (rem_to2 e2 hgT hpT (nm_max _))) ?_
                rintro _ _ ⟨l2, hp2, rfl, rfl⟩
                refine wl_det rfl rfl rfl (op_assign rfl) ?_
                refine wl_det rfl rfl rfl (op_assign rfl) ?_
                refine wl_nil ?_
                refine st_bn ?_
                refine st_tn ?_
                refine w_seq ?_
                refine w_seq ?_
                refine w_region ?_
                refine wl_det rfl rfl rfl (op_move rfl) ?_
                refine wl_det rfl rfl rfl (op_val (v' := .bool true) (by simp) (op_eql rfl rfl)) ?_
                refine wl_det rfl rfl rfl (op_move rfl) ?_
                refine wl_wanted_det rfl rfl rfl rfl rfl rfl rfl (op_move rfl) ?_
                refine wl_wanted_det rfl rfl rfl rfl rfl rfl rfl (op_val (v' := .bool true) (by simp [hz3]) (op_eql rfl rfl)) ?_
                refine wl_det rfl rfl rfl (op_pick_t rfl rfl) ?_
                refine wl_nil ?_
                refine st_tn ?_
                refine w_cond_t (rfl) ?_
                refine w_seq ?_
                refine w_region ?_
                refine wl_det rfl rfl rfl (op_move rfl) ?_
                refine wl_det rfl rfl rfl (op_val (v' := .bool true) (by simp) (op_eql rfl rfl)) ?_
                refine wl_det rfl rfl rfl (op_move rfl) ?_
                refine wl_wanted_det rfl rfl rfl rfl rfl rfl rfl (op_move rfl) ?_
                refine wl_wanted_det rfl rfl rfl rfl rfl rfl rfl (op_val (v' := .bool true) (by rw [hZd]) (op_fn Try.func23 rfl rfl rfl (down_any Z (celD 601 rfl)))) ?_
                refine wl_det rfl rfl rfl (op_pick_t rfl rfl) ?_
                refine wl_det rfl rfl rfl (op_move rfl) ?_
                refine wl_wanted_det rfl rfl rfl rfl rfl rfl rfl (op_move rfl) ?_
                refine wl_wanted_det rfl rfl rfl rfl rfl rfl rfl (op_move rfl) ?_
                refine wl_wanted [601, 602] rfl rfl rfl rfl rfl rfl rfl rfl (op_fn Try.func21 rfl rfl rfl (syn_to hsy hgZ hp1 (nm_max _))) ?_
                rintro _ _ ⟨l3, hp3, rfl, rfl⟩
                refine wl_wanted_det rfl rfl rfl rfl rfl rfl rfl (op_val (v' := .bool true) (by simp) (op_eql rfl rfl)) ?_
                refine wl_det rfl rfl rfl (op_pick_t rfl rfl) ?_
                refine wl_det rfl rfl rfl (op_assign rfl) ?_
                refine wl_nil ?_
                refine st_tn ?_
                refine w_ret ?_
                refine st_tr ?_
                refine st_br ?_
                refine st_tr ?_
                refine st_tr ?_
                refine st_br ?_
                refine st_tr ?_
                refine st_ret (vs := [_]) [] Try.results5 ⟨rfl, trivial⟩ rfl ?_
                refine ⟨_, rfl, ?_⟩
                exact ⟨rfl, rfl⟩
              · -- hz3-
                have hR := rem_lim T K (nmN y.x.n) hTl hTd
                have hq0 : (remO T (nmN y.x.n)).1 = 0 := by omega
                have e1 : remO S (nmN y.x.n) = (0, Lm (remO T (nmN y.x.n)).2 (K - 1)) := by rw [hS]; exact hR.ok hq0 (by omega)
                have e2 : remO T (nmN y.x.n) = (0, (remO T (nmN y.x.n)).2) := Prod.ext hq0 rfl
                have hgT2 : DskM.Good (remO T (nmN y.x.n)).2 := hgT.rem (nmN y.x.n)
                have hgS2 : DskM.Good (Lm (remO T (nmN y.x.n)).2 (K - 1)) := by have := hgS.rem (nmN y.x.n); rw [e1] at this; exact this
                refine w_region ?_
                refine wl_det rfl rfl rfl (op_move rfl) ?_
                refine wl_det rfl rfl rfl (op_move rfl) ?_
                refine wl_op [601, 602] rfl rfl rfl rfl (op_fn Try.func17 rfl rfl rfl (rem_to e1 hgS hpS (nm_max _))) ?_
                rintro _ _ ⟨l1, hp1, rfl, rfl⟩
                refine wl_det rfl rfl rfl (op_move rfl) ?_
                refine wl_det rfl rfl rfl (op_move rfl) ?_
                refine wl_op [701, 702] rfl rfl rfl rfl (op_fn Try.func17 rfl rfl rfl (rem_to2 e2 hgT hpT (nm_max _))) ?_
                rintro _ _ ⟨l2, hp2, rfl, rfl⟩
                refine wl_det rfl rfl rfl (op_assign rfl) ?_
                refine wl_det rfl rfl rfl (op_assign rfl) ?_
                refine wl_nil ?_
                refine st_bn ?_
                refine st_tn ?_
                refine w_seq ?_
                refine w_seq ?_
                refine w_region ?_
                refine wl_det rfl rfl rfl (op_move rfl) ?_
                refine wl_det rfl rfl rfl (op_val (v' := .bool true) (by simp) (op_eql rfl rfl)) ?_
                refine wl_det rfl rfl rfl (op_move rfl) ?_
                refine wl_wanted_det rfl rfl rfl rfl rfl rfl rfl (op_move rfl) ?_
                refine wl_wanted_det rfl rfl rfl rfl rfl rfl rfl (op_val (v' := .bool false) (by simp [hz3]) (op_eql rfl rfl)) ?_
                refine wl_det rfl rfl rfl (op_pick_t rfl rfl) ?_
                refine wl_nil ?_
                refine st_tn ?_
                refine w_cond_f (rfl) ?_
                refine w_skip ?_
                refine st_tn ?_
                refine w_seq ?_
                refine w_seq ?_
                refine w_region ?_
                refine wl_det rfl rfl rfl (op_move rfl) ?_
                refine wl_det rfl rfl rfl (op_move rfl) ?_
                refine wl_det rfl rfl rfl (op_val (v' := .bool false) (by simp) (op_neq rfl rfl)) ?_
                refine wl_det rfl rfl rfl (op_move rfl) ?_
                refine wl_wanted_det rfl rfl rfl rfl rfl rfl rfl (op_move rfl) ?_
                refine wl_wanted_det rfl rfl rfl rfl rfl rfl rfl (op_val (v' := .bool false) (by unfold Lm; rw [hR.down]) (op_fn Try.func23 rfl rfl rfl (down_any (Lm (remO T (nmN y.x.n)).2 (K - 1)) (celD 601 rfl)))) ?_
                refine wl_det rfl rfl rfl (op_pick_f rfl rfl) ?_
                refine wl_nil ?_
                refine st_tn ?_
                refine w_cond_f (rfl) ?_
                refine w_skip ?_
                refine st_tn ?_
                refine w_seq ?_
                refine w_region ?_
                refine wl_det rfl rfl rfl (op_move rfl) ?_
                refine wl_det rfl rfl rfl (op_val (v' := .bool true) (by simp) (op_eql rfl rfl)) ?_
                refine wl_nil ?_
                refine st_tn ?_
                refine w_cond_t (rfl) ?_
                refine w_region ?_
                refine wl_det rfl rfl rfl (op_move rfl) ?_
                refine wl_det rfl rfl rfl (op_sub' rfl rfl (by omega)) ?_
                refine wl_det rfl rfl rfl (op_assign rfl) ?_
                refine wl_nil ?_
                refine st_bn ?_
                refine st_tn ?_
                refine w_region ?_
                refine wl_det rfl rfl rfl (op_move rfl) ?_
                refine wl_det rfl rfl rfl (op_add' rfl rfl (by omega)) ?_
                refine wl_det rfl rfl rfl (op_assign rfl) ?_
                refine wl_nil ?_
                refine st_roundQ (x := (K, i, S, l_S, T, l_T)) ((K - 1, i + 1, Lm (remO T (nmN y.x.n)).2 (K - 1), l1, (remO T (nmN y.x.n)).2, l2)) [601, 602, 701, 702] rfl (rfl) (.cons rfl (.cons rfl (.nil _))) (.cons rfl (.cons rfl (.cons rfl (.nil _)))) (by
                    try dsimp only
                    exact ⟨by omega, by omega, by omega, hgS2, hp1, hgT2, hp2, rfl, hR.lim, hR.down⟩) (by
                    try dsimp only
                    omega) 
    · -- c54.f
      refine w_exit ?_
      refine st_te ?_
      refine st_te ?_
      refine st_be ?_
      refine st_tn ?_
      refine w_seq ?_
      refine w_region ?_
      refine wl_det rfl rfl rfl (op_move rfl) ?_
      refine wl_det rfl rfl rfl (op_val (v' := .bool false) (by rw [hS]; unfold Lm; rw [hTd]) (op_fn Try.func23 rfl rfl rfl (down_any S (celD 601 rfl)))) ?_
      refine wl_det rfl rfl rfl (op_not_f rfl) ?_
      refine wl_det rfl rfl rfl (op_assign rfl) ?_
      refine wl_nil ?_
      refine st_tn ?_
      refine w_ret ?_
      refine st_ret (vs := [_]) [] Try.results5 ⟨rfl, trivial⟩ rfl ?_
      refine ⟨_, rfl, ?_⟩
      exact ⟨rfl, rfl⟩
  · -- 51 is False
    refine wl_unwanted rfl rfl rfl rfl rfl rfl rfl rfl ?_
    refine wl_unwanted rfl rfl rfl rfl rfl rfl rfl rfl ?_
    refine wl_det rfl rfl rfl (op_pick_f rfl rfl) ?_
    refine wl_nil ?_
    refine st_tn ?_
    refine w_cond_f (rfl) ?_
    refine w_exit ?_
    refine st_te ?_
    refine st_te ?_
    refine st_be ?_
    refine st_tn ?_
    refine w_seq ?_
    refine w_region ?_
    refine wl_det rfl rfl rfl (op_move rfl) ?_
    refine wl_det rfl rfl rfl (op_val (v' := .bool false) (by rw [hS]; unfold Lm; rw [hTd]) (op_fn Try.func23 rfl rfl rfl (down_any S (celD 601 rfl)))) ?_
    refine wl_det rfl rfl rfl (op_not_f rfl) ?_
    refine wl_det rfl rfl rfl (op_assign rfl) ?_
    refine wl_nil ?_
    refine st_tn ?_
    refine w_ret ?_
    refine st_ret (vs := [_]) [] Try.results5 ⟨rfl, trivial⟩ rfl ?_
    refine ⟨_, rfl, ?_⟩
    exact ⟨rfl, rfl⟩

end Go.Proofs.Ytjlbeakdgadpmaa
