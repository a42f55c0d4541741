/- The law Opens (layer 27). Conditions: none. -/
import Derived.Test.YtcbigmgakdanjaaSlZ
import Derived.Test.YtcbigmgakdanjaaQEc
namespace Go.Proofs.Ytcbigmgakdanjaa
open Go Go.SL Go.RowKit Go.RdM Go.WalM
set_option linter.unusedVariables false
set_option linter.unusedSimpArgs false
theorem tA41xm : aggB Try.prog 41 3 = true := by kernel_rfl
theorem tA52xm : aggB Try.prog 52 4 = true := by kernel_rfl
theorem tMixxm : Try.prog.follows .mixedOrders = true := by kernel_rfl
theorem tN52xm : (Try.prog.info? 52).bind (·.zero) = some (Value.agg #[Value.slice none 0 0, Value.int .i64 0, Value.slice none 0 0, Value.bool false]) := by kernel_rfl
theorem tS49xm : sliceB Try.prog 49 41 3 = true := by kernel_rfl
theorem tZ52xm : (Try.prog.info? 52).map (·.size) = some 4 := by kernel_rfl
def DoN (nm : RdM.Bs) (d i n : Nat) (u : Value) (ρ : RL) : Prop := ∃ b v P1 P2 L s, Rn nm i L s ∧ MS P1 P2 (st4 v) L ∧ n ≤ lastN L ∧ u = .tuple #[.pointer (some ⟨b, 0, none⟩), st4 v, .bool true, .bool false] ∧ ρ = [(601, dkR d s), (611, lgR b d nm L), (605, poolS P1), (606, poolX P2)]
theorem do_runN {σ : World} {F : List Res} {b d i : Nat} {nm : RdM.Bs} {L : Lg} {s : DskM.St} {P1 : PS} {P2 : PX} {v : Value} (x : OpL) (hx : (0 ≤ x.k ∧ x.k ≤ 255) ∧ (0 ≤ x.z ∧ x.z ≤ 255) ∧ (0 ≤ x.n ∧ x.n ≤ 255)) (h : Rn nm i L s) (hi : i ≤ 90) (hM : MS P1 P2 v L) (hok : DskM.nameB nm = true ∧ nm.length ≤ 48) :
    FnT Try.prog σ F 27 [.pointer (some ⟨d, 0, none⟩), .pointer (some ⟨b, 0, none⟩), v, .agg (encOpL x).toArray, .string (str nm)] [(601, dkR d s), (611, lgR b d nm L), (605, poolS P1), (606, poolX P2)] (DoN nm d (i + 1) (lastN L)) := by
  have hS := h.sm (by omega)
  have hmod : x.k % 8 ≤ 2 ∨ (x.k % 8 = 3 ∨ x.k % 8 = 4) ∨ x.k % 8 = 5 ∨ x.k % 8 = 6 ∨ x.k % 8 = 7 := by omega
  rcases hmod with hk | hk | hk | hk | hk
  · refine fn_imp (do_app x hx hk hS hM) ?_
    rintro u ρ ⟨v', P1', hM', h1, h2⟩
    rw [hM'.eq4] at h1
    exact ⟨_, _, _, _, _, _, h.app (by omega) (recB_len' _ _), hM'.st4, Nat.le_refl _, h1, h2⟩
  · obtain ⟨s', hc, hR⟩ := h.com (by omega) hok
    refine fn_imp (do_com x hx.1 hk hS hM hc (.inr ⟨rfl, rfl⟩) h.good hok.2 (by have := nextN_lt' (fr := L.fresh) h.num; omega)) ?_
    rintro u ρ ⟨v', P1', P2', _, _, hM', h1, h2⟩
    rw [hM'.eq4] at h1
    exact ⟨_, _, _, _, _, _, hR, hM'.st4, by unfold lastN; rw [allR_commit, first_commit, List.length_append]; omega, h1, h2⟩
  · refine fn_imp (do_dis x hx.1 hk hS hM) ?_
    rintro u ρ ⟨v', hM', h1, h2⟩
    rw [hM'.eq4] at h1
    exact ⟨_, _, _, _, _, _, h.dis, hM'.st4, Nat.le_refl _, h1, h2⟩
  · obtain ⟨s', hc, hR⟩ := h.tru hok (L.first + x.n % 12 - 2)
    refine fn_imp (do_tru x ⟨hx.1, hx.2.2⟩ hk hS hM hc (.inr rfl) h.good hok.2) ?_
    rintro u ρ ⟨v', hM', h1, h2⟩
    rw [hM'.eq4] at h1
    refine ⟨_, _, _, _, _, _, hR, hM'.st4, ?_, h1, h2⟩
    obtain ⟨j, hj⟩ : ∃ j, j = trS L.first L.segs (L.first + x.n % 12 - 2) L.segs.length := ⟨_, rfl⟩
    rw [← hj]
    have hall : (allR (L.segs.take j)).length + (allR (L.segs.drop j)).length = (allR L.segs).length := by
      rw [← List.length_append, ← allR_app, List.take_append_drop]
    show lastN L ≤ L.first + (allR (L.segs.take j)).length + (allR (L.segs.drop j)).length - 1
    unfold lastN; omega
  · refine fn_imp (do_open x hx.1 hk hS hM hok h.dn h.good h.on) ?_
    rintro u ρ ⟨b', v', hM', h1, h2⟩
    rw [hM'.eq4] at h1
    exact ⟨_, _, _, _, _, _, h.opn, hM'.st4, Nat.le_refl _, h1, h2⟩
def runN (nm : RdM.Bs) (d b i n : Nat) (v : Value) : Res := fun mem => ∃ x : RnT, (Rn nm i x.2.2.1 x.2.2.2 ∧ MS x.1 x.2.1 (st4 v) x.2.2.1 ∧ lastN x.2.2.1 = n) ∧ star (dkR d x.2.2.2) (star (lgR b d nm x.2.2.1) (star (poolS x.1) (poolX x.2.1))) mem
abbrev RnN (nm : RdM.Bs) (i n : Nat) (v : Value) := {x : RnT // Rn nm i x.2.2.1 x.2.2.2 ∧ MS x.1 x.2.1 (st4 v) x.2.2.1 ∧ lastN x.2.2.1 = n}
theorem runN_opens {σ : World} (nm : RdM.Bs) (d b i n : Nat) (v : Value) : Opens σ [runN nm d b i n v] (RnN nm i n v) (fun x => rs (cR nm d b x.1)) := fun F w h => by
  obtain ⟨x, h1⟩ := own_ex h
  obtain ⟨h2, h3⟩ := own_and h1
  exact ⟨⟨x, h2⟩, own_un4 h3⟩
theorem runN_closes {σ : World} {nm : RdM.Bs} {d b i n : Nat} {v : Value} (x : RnT) (h : Rn nm i x.2.2.1 x.2.2.2 ∧ MS x.1 x.2.1 (st4 v) x.2.2.1 ∧ lastN x.2.2.1 = n) : Closes σ (rs (cR nm d b x)) [runN nm d b i n v] := fun F w hw => (own_st4 hw).imp fun mem hm => ⟨x, h, hm⟩
theorem doN_c {σ : World} {F : List Res} {b d i n : Nat} {nm : RdM.Bs} {v : Value} (lab : Nat) (x : OpL) (hx : (0 ≤ x.k ∧ x.k ≤ 255) ∧ (0 ≤ x.z ∧ x.z ≤ 255) ∧ (0 ≤ x.n ∧ x.n ≤ 255)) (hi : i ≤ 90) (hok : DskM.nameB nm = true ∧ nm.length ≤ 48) :
    FnT Try.prog σ F 27 [.pointer (some ⟨d, 0, none⟩), .pointer (some ⟨b, 0, none⟩), st4 v, .agg (encOpL x).toArray, .string (str nm)] [(lab, runN nm d b i n v)] (fun u ρ => ∃ b' v' n', n ≤ n' ∧ u = .tuple #[.pointer (some ⟨b', 0, none⟩), st4 v', .bool true, .bool false] ∧ ρ = [(lab, runN nm d b' (i + 1) n' v')]) :=
  fn_oc (runN_opens nm d b i n v) rfl (R := fun y => cR nm d b y.1) (fun y => rfl) (fun y => do_runN x hx y.2.1 hi y.2.2.1 hok)
    fun y u ρ ⟨b', v', P1, P2, L, s, hR, hM, hn, h1, h2⟩ => ⟨_, ⟨b', v', lastN L, y.2.2.2 ▸ hn, h1, rfl⟩, by rw [h2]; exact runN_closes (P1, P2, L, s) ⟨hR, hM, rfl⟩⟩
theorem lastN_c {σ : World} {F : List Res} {b d i n : Nat} {nm : RdM.Bs} {v : Value} (lab : Nat) (hi : i ≤ 90) :
    FnT Try.prog σ F 17 [.pointer (some ⟨b, 0, none⟩)] [(lab, runN nm d b i n v)] (fun u ρ => u = .int .i64 (n : Int) ∧ ρ = [(lab, runN nm d b i n v)]) :=
  fn_oc (ι := RnN nm i n v) (runN_opens nm d b i n v) rfl (R := fun y => cR nm d b y.1) (fun y => rfl) (fun y => fn_pm (fn_fr [(611, lgR b d nm y.1.2.2.1)] [(601, dkR d y.1.2.2.2), (605, poolS y.1.1), (606, poolX y.1.2.1)] (llast_c 611 (y.2.1.sm (by omega)).ok)) (List.Perm.swap _ _ _))
    fun y u ρ ⟨ρ0, h1, h2⟩ => ⟨_, ⟨by rw [h1.1, if_neg (by have := (y.2.1.sm (by omega)).br; simp [this]), y.2.2.2], rfl⟩, by
      rw [h2, h1.2]
      exact Closes.pm (List.Perm.swap _ _ _) (runN_closes y.1 y.2)⟩
theorem runN_new {σ : World} {nm : RdM.Bs} {d b : Nat} : Closes σ (rs (cR nm d b ([], [], newL, newS 262144))) [runN nm d b 0 0 (.agg #[.slice none 0 0, .int .i64 1, .slice none 0 0, .bool true])] := runN_closes _ ⟨rn_new _, ms_begin, rfl⟩
set_option maxHeartbeats 2000000 in
set_option maxRecDepth 100000 in
theorem lawOpens_any {σ : World} {F : List Res} {a : Option Addr} {c : Nat} {l : List OpL} (h : Sl σ F encOpL 3 (.slice a l.length c) l) (hb : ∀ p ∈ l, (0 ≤ p.k ∧ p.k ≤ 255) ∧ (0 ≤ p.z ∧ p.z ≤ 255) ∧ (0 ≤ p.n ∧ p.n ≤ 255)) : FnT Try.prog σ F 9 [.slice a l.length c] [] (fun u ρ => u = .bool true ∧ ρ = []) := by
  refine fn_of 165 Try.func9 rfl Try.ntmps9 rfl ?_
  have hle := h.i64
  refine w_seq (w_region (za rfl (wl_nil (st_tn (w_seq (w_region (wl_op [] rfl rfl rfl rfl (op_fn Try.func12 rfl rfl rfl (made_c 601 611 262144 [108, 111, 103] (by decide) name_log)) ?_)))))))
  rintro _ _ ⟨d12, b12, rfl, rfl⟩
  refine zm rfl (zd rfl (op_extract rfl rfl) (zd rfl (op_extract rfl rfl) (za rfl (za rfl (wl_nil (st_tn (w_seq (w_seq (w_region (zd rfl (op_fn Try.func13 rfl rfl rfl (known_any)) (zd rfl (op_not_t rfl) (zm rfl (wl_wanted_det rfl rfl rfl rfl rfl rfl rfl (op_move rfl) ?_)))))))))))))
  refine wl_wanted_det rfl rfl rfl rfl rfl rfl rfl (op_val (v' := .bool false) (by rfl) (op_eqPtr rfl Try.underlying23)) ?_
  refine zd rfl (op_pick_f rfl rfl) (zm rfl (wl_wanted_det rfl rfl rfl rfl rfl rfl rfl (op_move rfl) (wl_wanted_det rfl rfl rfl rfl rfl rfl rfl (op_lenT rfl tS49xm (Sl.ent (by first | exact Sl.app (by assumption) _ | exact Sl.app (Sl.app (by assumption) _) _))) ?_)))
  refine wl_wanted_det rfl rfl rfl rfl rfl rfl rfl (op_gtr rfl rfl) (zd rfl (op_pick_f rfl rfl) (wl_nil (st_tn (w_cond_d rfl (fun hc37 => ?_) (fun hc37 => ?_)))))
  · -- c37.t
    refine w_seq (w_region (zd rfl (op_fn Try.func13 rfl rfl rfl (known_any)) (zm rfl (wl_wanted_det rfl rfl rfl rfl rfl rfl rfl (op_move rfl) (wl_wanted_det rfl rfl rfl rfl rfl rfl rfl (op_val (v' := .bool true) (by rfl) (op_nePtr rfl Try.underlying23)) ?_)))))
    refine zd rfl (op_pick_t rfl rfl) (za rfl (wl_nil (st_tn (w_ret (st_tr (st_ret (vs := [_]) [] Try.results9 ⟨rfl, trivial⟩ rfl ?_))))))
    refine ⟨_, rfl, ?_⟩
    exact ⟨rfl, rfl⟩
  · -- c37.f
    refine w_skip (st_tn (w_seq (w_region (zd rfl (op_fn Try.func26 rfl rfl rfl mbegin_any) (wl_op [] rfl rfl rfl rfl (op_alloc (l := 5) tN52xm) ?_)))))
    rintro _ _ ⟨b5, rfl, rfl⟩
    refine wl_op0 [5] rfl rfl rfl (op_store rfl rfl tZ52xm (by rfl) (by rfl) (by exact Nat.le_of_ble_eq_true rfl)) ?_
    rintro _ _ ⟨rfl, rfl⟩
    refine wl_nil (st_tn (w_seq (w_seq (w_emp 605 poolS_nil ?_))))
    refine w_emp 606 poolX_nil ?_
    refine w_cls [601, 611, 605, 606] (C := [(601, runN [108, 111, 103] d12 b12 0 0 (.agg #[.slice none 0 0, .int .i64 1, .slice none 0 0, .bool true]))]) (runN_new) rfl ?_
    refine w_region (za rfl (wl_nil (st_tn (w_block ?_))))
    refine w_loopQ (X := Nat × Nat × ValX × Nat) (fun z => z.1 ≤ l.length) (fun z => [(6, .int .i64 (z.1)), (4, .pointer (some ⟨(z.2.1), 0, none⟩))]) (fun z => [(601, runN [108, 111, 103] d12 (z.2.1) (z.1) (z.2.2.2) (z.2.2.1)), (5, cel b5 (st4 (z.2.2.1)).cells.toList 52)]) (fun z => l.length - z.1) ((0, b12, .agg #[.slice none 0 0, .int .i64 1, .slice none 0 0, .bool true], 0)) [(0, _), (3, _), (5, _)] [] [601, 5] rfl (rfl) (.cons rfl (.cons rfl (.nil _))) (.cons rfl (.cons rfl (.cons rfl (.nil _)))) (by
        try dsimp only
        exact Nat.zero_le _) ?_
    rintro ⟨i, b4, v, n⟩ hi
    refine w_norm2 (by dsimp only [List.cons_append, List.nil_append]) (by dsimp only [List.cons_append, List.nil_append]) ?_
    try dsimp only at hi ⊢
    refine w_seq (w_seq (w_region (zm rfl (zm rfl (zd rfl (op_lenT rfl tS49xm (Sl.ent (by first | exact Sl.app (by assumption) _ | exact Sl.app (Sl.app (by assumption) _) _))) ?_)))))
    refine zd rfl (op_lss rfl rfl) (wl_nil (st_tn (w_cond_d rfl (fun hc47 => ?_) (fun hc47 => ?_))))
    · -- c47.t
      obtain ⟨x, hx⟩ := getE (l := l) (i := i) (by omega)
      have hxb := hb x (List.mem_of_getElem? hx)
      refine w_skip (st_tn (w_seq (w_block (w_seq (w_region (zm rfl (wl_op [601] rfl rfl rfl rfl (op_fn Try.func17 rfl rfl rfl (lastN_c 601 (by omega))) ?_)))))))
      rintro _ _ ⟨rfl, rfl⟩
      refine za rfl (wl_nil (st_tn (w_seq ?_)))
      refine w_drawW (fun β => [⟨53, [], [], [], noW (_), false, [], []⟩, ⟨54, [], [], [], noW (_), false, [], []⟩, ⟨55, [], [], [], noW (_), false, [], []⟩, ⟨56, [], [], [], noW (_), false, [], []⟩, ⟨57, [], [], [], noW (_), false, [], []⟩, ⟨58, [3, 4], [], [], noW (_), false, [], []⟩, ⟨59, [5], [], [], noW (_), false, [], []⟩, ⟨60, [0, 1, 2, 6], [], [(601, _)], fun w => AndW _ (DetW _ _), false, [], []⟩, ⟨52, [7], [], [], noW (_), false, [], []⟩, ⟨61, [8], [], [], noW (_), false, [], []⟩, ⟨62, [8], [], [], noW (_), false, [], []⟩, ⟨63, [8], [], [], noW (_), false, [], []⟩, ⟨64, [8], [], [], noW (_), false, [], []⟩, ⟨9, [], [], [], fun w => DetW _ _, true, [], []⟩, ⟨8, [9], [], [], noW (_), false, [], []⟩, ⟨180, [10], [13], [], noW (_), false, [], []⟩, ⟨10, [11], [], [], noW (_), false, [], []⟩]) [601] [3, 4, 5, 0, 6] [⟨53, [], [], false, [], []⟩, ⟨54, [], [], false, [], []⟩, ⟨55, [], [], false, [], []⟩, ⟨56, [], [], false, [], []⟩, ⟨57, [], [], false, [], []⟩, ⟨58, [3, 4], [], false, [], []⟩, ⟨59, [5], [], false, [], []⟩, ⟨60, [0, 1, 2, 6], [], false, [], []⟩, ⟨52, [7], [], false, [], []⟩, ⟨61, [8], [], false, [], []⟩, ⟨62, [8], [], false, [], []⟩, ⟨63, [8], [], false, [], []⟩, ⟨64, [8], [], false, [], []⟩, ⟨9, [], [], true, [], []⟩, ⟨8, [9], [], false, [], []⟩, ⟨180, [10], [13], false, [], []⟩, ⟨10, [11], [], false, [], []⟩] [[], [], [], [], [], [], [], [], [7], [7], [7], [7], [7], [], [7], [7, 13], [7]] [[], [], [], [], [], [], [], [(601, _)], [], [], [], [], [], [], [], [], []] tMixxm (fun _ => by rfl) (fun _ => by rfl) (by kernel_rfl) (by kernel_rfl) (by rfl) (by rfl)
          (fun β => ⟨.p rfl (by intro X; exact op_move rfl),
          ⟨.p rfl (by intro X; exact op_move rfl),
          ⟨.p rfl (by intro X; exact op_loadA rfl tA52xm (Ent.lab (l := 5) rfl (says_cel 0)) (Nat.le_of_ble_eq_true rfl)),
          ⟨.p rfl (by intro X; exact op_move rfl),
          ⟨.p rfl (by intro X; exact op_move rfl),
          ⟨.p rfl (by intro X; rintro _ _ ⟨rfl, rfl⟩ _ _ ⟨rfl, rfl⟩; exact op_idx rfl rfl tS49xm (Sl.ent (by first | exact Sl.app (by assumption) _ | exact Sl.app (Sl.app (by assumption) _) _)) (by omega)),
          ⟨.p rfl (by intro X; rintro _ _ ⟨rfl, rfl⟩; exact op_ldxA rfl tA41xm (by first | exact Sl.app (by assumption) _ | exact Sl.app (Sl.app (by assumption) _) _) (by assumption) (by rfl) (by rfl)),
          ⟨.px rfl (by intro X; rintro _ _ ⟨rfl, rfl⟩ _ _ ⟨rfl, rfl⟩ _ _ ⟨rfl, rfl⟩ _ _ ⟨rfl, rfl⟩; refine OpT.mono (op_fn Try.func27 rfl rfl rfl (doN_c 601 x hxb (by omega) name_log)) ?_; rintro _ _ ⟨b60, v60, c60, hle60, rfl, rfl⟩; obtain ⟨w, rfl, rfl, rfl⟩ : ∃ w : Wt, w.b = b60 ∧ w.v = v60 ∧ w.c = c60 := ⟨{ b := b60, v := v60, c := c60 }, rfl, rfl, rfl⟩; exact ⟨w, hle60, rfl, rfl⟩),
          ⟨.p rfl (by intro X; rintro _ _ ⟨hle60, rfl, rfl⟩; exact op_move rfl),
          ⟨.p rfl (by intro X; rintro _ _ ⟨rfl, rfl⟩; exact op_extract rfl rfl),
          ⟨.p rfl (by intro X; rintro _ _ ⟨rfl, rfl⟩; exact op_extract rfl rfl),
          ⟨.p rfl (by intro X; rintro _ _ ⟨rfl, rfl⟩; exact op_extract rfl rfl),
          ⟨.p rfl (by intro X; rintro _ _ ⟨rfl, rfl⟩; exact op_extract rfl rfl),
          ⟨.px rfl (by intro X; refine OpT.mono (op_alloc (l := 9) tN52xm) ?_; rintro _ _ ⟨b9, rfl, rfl⟩; obtain ⟨w, rfl⟩ : ∃ w : Wt, w.b = b9 := ⟨{ b := b9 }, rfl⟩; exact ⟨w, rfl, rfl⟩),
          ⟨.p rfl (by intro X; rintro _ _ ⟨rfl, rfl⟩; exact op_assign rfl),
          ⟨.p rfl (by intro X; rintro _ _ ⟨rfl, rfl⟩ _ _ ⟨rfl, rfl⟩; show OpT _ _ _ _ _ _ [(_, _)] _; exact op_store rfl rfl tZ52xm (by rfl) (by rfl) (by exact Nat.le_of_ble_eq_true rfl)) (hu := by exact .inr fun _ _ h => h.1),
          ⟨.p rfl (by intro X; rintro _ _ ⟨rfl, rfl⟩; exact op_assign rfl),
          trivial⟩⟩⟩⟩⟩⟩⟩⟩⟩⟩⟩⟩⟩⟩⟩⟩⟩)
          (fun β β' => ⟨fun _ => by rfl, ⟨fun _ => by rfl, ⟨fun _ => by rfl, ⟨fun _ => by rfl, ⟨fun _ => by rfl, ⟨fun _ => by rfl, ⟨fun _ => by rfl, ⟨fun _ => by rfl, ⟨fun h => by first | rfl | (simp only [h 7 (by decide)]), ⟨fun h => by first | rfl | (simp only [h 7 (by decide)]), ⟨fun h => by first | rfl | (simp only [h 7 (by decide)]), ⟨fun h => by first | rfl | (simp only [h 7 (by decide)]), ⟨fun h => by first | rfl | (simp only [h 7 (by decide)]), ⟨fun _ => by rfl, ⟨fun h => by first | rfl | (simp only [h 7 (by decide)]), ⟨fun h => by first | rfl | (simp only [h 7 (by decide), h 13 (by decide)]), ⟨fun h => by first | rfl | (simp only [h 7 (by decide)]), trivial⟩⟩⟩⟩⟩⟩⟩⟩⟩⟩⟩⟩⟩⟩⟩⟩⟩) ?_
      intro β
      rintro _ _ ⟨rfl, rfl⟩ _ _ ⟨rfl, rfl⟩ _ _ ⟨rfl, rfl⟩ _ _ ⟨rfl, rfl⟩ _ _ ⟨rfl, rfl⟩ _ _ ⟨rfl, rfl⟩ _ _ ⟨rfl, rfl⟩ _ _ ⟨hle60, rfl, rfl⟩ _ _ ⟨rfl, rfl⟩ _ _ ⟨rfl, rfl⟩ _ _ ⟨rfl, rfl⟩ _ _ ⟨rfl, rfl⟩ _ _ ⟨rfl, rfl⟩ _ _ ⟨rfl, rfl⟩ _ _ ⟨rfl, rfl⟩ _ _ ⟨rfl, rfl⟩ _ _ ⟨rfl, rfl⟩
      generalize (β 7).b = b60 at hle60 ⊢
      generalize (β 7).v = v60 at hle60 ⊢
      generalize (β 7).c = c60 at hle60 ⊢
      generalize (β 13).b = b9 at hle60 ⊢
      refine wl_norm (e' := [(0, _), (3, _), (5, _), (6, _), (7, _), (8, _), (9, _), (10, _), (64, _)]) (.cons rfl (.cons rfl (.cons rfl (.cons rfl (.cons rfl (.cons rfl (.cons rfl (.cons rfl (.cons rfl (.nil _)))))))))) (by dsimp only [cond_false, cond_true, List.nil_append, List.cons_append]) ?_
      refine za rfl (wl_nil (st_tn (w_seq (w_seq (w_region (zm rfl (zd rfl (op_not_t rfl) (zm rfl (wl_wanted_det rfl rfl rfl rfl rfl rfl rfl (op_val (v' := .bool false) (by rfl) (op_move rfl)) ?_)))))))))
      refine zd rfl (op_pick_f rfl rfl) (zm rfl (wl_wanted_det rfl rfl rfl rfl rfl rfl rfl (op_move rfl) (wl_wanted_det rfl rfl rfl rfl rfl rfl rfl (op_val (v' := .bool false) (by rfl) (op_eqPtr rfl Try.underlying23)) ?_)))
      refine zd rfl (op_pick_f rfl rfl) (wl_nil (st_tn (w_cond_f (rfl) ?_)))
      refine w_skip (st_tn (w_seq (w_opn 601 (runN_opens [108, 111, 103] d12 b60 (i + 1) c60 v60) (B := fun (y : RnN [108, 111, 103] (i + 1) c60 v60) => cR [108, 111, 103] d12 b60 y.1) rfl (fun y => ?_))))
      obtain ⟨⟨P1, P2, L, s⟩, hR, hM, hL⟩ := y
      dsimp only at hR hM hL
      have hS := hR.sm (by omega)
      have hpos := hS.ok.seg.pos
      have hal := hS.all
      have hfs := hS.fst
      have hsg := hS.segl
      have hop := opened_ok hS.ok
      obtain ⟨R, hRd⟩ : ∃ R, R = allR L.segs := ⟨_, rfl⟩
      have hRl : R.length ≤ 100000 := by rw [hRd]; omega
      obtain ⟨hra, hre⟩ := rep_all hS.ok.seg hS.br
      obtain ⟨hra2, hre2⟩ := rep_all (L := ⟨L.first, L.segs, [], true, false⟩) hS.ok.seg rfl
      refine w_region (zm rfl (wl_op [611] rfl rfl rfl rfl (op_fn Try.func35 rfl rfl rfl (fn_imp (lfirst_c 611 hS.ok) (fun u ρ hu => (by rw [if_neg (by simp [hS.br])] at hu; exact hu : u = .int .i64 (L.first : Int) ∧ ρ = [(611, lgR b60 d12 [108, 111, 103] L)])))) ?_))
      rintro _ _ ⟨rfl, rfl⟩
      refine zm rfl (wl_op [611] rfl rfl rfl rfl (op_fn Try.func17 rfl rfl rfl (fn_imp (llast_c 611 hS.ok) (fun u ρ hu => (by rw [if_neg (by simp [hS.br]), hL] at hu; exact hu : u = .int .i64 (c60 : Int) ∧ ρ = [(611, lgR b60 d12 [108, 111, 103] L)])))) ?_)
      rintro _ _ ⟨rfl, rfl⟩
      refine za rfl (za rfl (wl_nil (st_tn (w_seq (w_region (zm rfl (zm rfl (wl_op [611] rfl rfl rfl rfl (op_fn Try.func24 rfl rfl rfl (fn_imp (lreplay_c 611 hS.ok 81 (L.first : Int) (by omega)) (fun u ρ hu => (by rw [hra, hre, ← hRd] at hu; exact hu : ∃ a' c', u = .tuple #[.slice a' R.length c', .int .i64 0] ∧ ρ = [(611, lgR b60 d12 [108, 111, 103] L), (81, slW 9 encT 1 (.slice a' R.length c') R)])))) ?_))))))))
      rintro _ _ ⟨a81, c81, rfl, rfl⟩
      refine zm rfl (zd rfl (op_extract rfl rfl) (zd rfl (op_extract rfl rfl) (za rfl (za rfl (wl_nil (st_tn (w_seq (w_region (zm rfl (wl_op [601] rfl rfl rfl rfl (op_fn Try.func20 rfl rfl rfl (dclone_c 601 701)) ?_))))))))))
      rintro _ _ ⟨b85, rfl, rfl⟩
      refine za rfl (wl_nil (st_tn (w_seq (w_region (zm rfl (wl_op [701] rfl rfl rfl rfl (op_fn Try.func16 rfl rfl rfl (lopen_c (first := L.first) (segs := L.segs) 701 711 name_log hR.dn hR.good hR.ok.seg hR.on.holds (by omega))) ?_))))))
      rintro _ _ ⟨b88, rfl, rfl⟩
      refine zm rfl (zd rfl (op_extract rfl rfl) (zd rfl (op_extract rfl rfl) (za rfl (za rfl (wl_nil (st_tn (w_seq (w_region (zm rfl (zm rfl (wl_op [711] rfl rfl rfl rfl (op_fn Try.func24 rfl rfl rfl (fn_imp (lreplay_c 711 hop 94 (L.first : Int) (by omega)) (fun u ρ hu => (by rw [hra2, hre2, ← hRd] at hu; exact hu : ∃ a' c', u = .tuple #[.slice a' R.length c', .int .i64 0] ∧ ρ = [(711, lgR b88 b85 [108, 111, 103] ⟨L.first, L.segs, [], true, false⟩), (94, slW 9 encT 1 (.slice a' R.length c') R)])))) ?_)))))))))))
      rintro _ _ ⟨a94, c94, rfl, rfl⟩
      refine zm rfl (zd rfl (op_extract rfl rfl) (zd rfl (op_extract rfl rfl) (za rfl (za rfl (wl_nil (st_tn (w_seq (w_region (zm rfl (wl_op [701] rfl rfl rfl rfl (op_fn Try.func16 rfl rfl rfl (lopen_c (first := L.first) (segs := L.segs) 701 712 name_log hR.dn hR.good hR.ok.seg hR.on.holds (by omega))) ?_))))))))))
      rintro _ _ ⟨b98, rfl, rfl⟩
      refine zm rfl (zd rfl (op_extract rfl rfl) (zd rfl (op_extract rfl rfl) (za rfl (za rfl (wl_nil (st_tn (w_seq (w_seq (w_region (zm rfl (zd rfl (op_val (v' := .bool false) (by rfl) (op_neq rfl rfl)) ?_)))))))))))
      refine zm rfl (wl_wanted_det rfl rfl rfl rfl rfl rfl rfl (op_move rfl) (wl_wanted_det rfl rfl rfl rfl rfl rfl rfl (op_val (v' := .bool false) (by rfl) (op_neq rfl rfl)) ?_))
      refine zd rfl (op_pick_f rfl rfl) (zm rfl (wl_wanted_det rfl rfl rfl rfl rfl rfl rfl (op_move rfl) (wl_wanted_det rfl rfl rfl rfl rfl rfl rfl (op_val (v' := .bool false) (by rfl) (op_neq rfl rfl)) ?_)))
      refine zd rfl (op_pick_f rfl rfl) (zm rfl (wl_wanted_det rfl rfl rfl rfl rfl rfl rfl (op_move rfl) (wl_wanted_det rfl rfl rfl rfl rfl rfl rfl (op_val (v' := .bool false) (by rfl) (op_neq rfl rfl)) ?_)))
      refine zd rfl (op_pick_f rfl rfl) (zm rfl (wl_wanted_det rfl rfl rfl rfl rfl rfl rfl (op_move rfl) (wl_wanted_det rfl rfl rfl rfl rfl rfl rfl (op_move rfl) (wl_wanted_det rfl rfl rfl rfl rfl rfl rfl (op_fn Try.func25 rfl rfl rfl (fn_imp (same_any (a := R) (b := R) (Sl.lab (E := 9) (l := R) 81 rfl (by unfold maxLen; omega)) (Sl.lab (E := 9) (l := R) 94 rfl (by unfold maxLen; omega))) (fun u ρ hu => (⟨by rw [hu.1, decide_eq_true rfl], hu.2⟩ : u = .bool true ∧ ρ = [])))) ?_))))
      refine wl_wanted_det rfl rfl rfl rfl rfl rfl rfl (op_not_t rfl) (zd rfl (op_pick_f rfl rfl) (zm rfl (wl_wanted_det rfl rfl rfl rfl rfl rfl rfl (op_move rfl) (wl_wanted [711] rfl rfl rfl rfl rfl rfl rfl rfl (op_fn Try.func35 rfl rfl rfl (fn_imp (lfirst_c 711 hop) (fun u ρ hu => (by rw [if_neg (by simp)] at hu; exact hu : u = .int .i64 (L.first : Int) ∧ ρ = [(711, lgR b88 b85 [108, 111, 103] ⟨L.first, L.segs, [], true, false⟩)])))) ?_))))
      rintro _ _ ⟨rfl, rfl⟩
      refine wl_wanted_det rfl rfl rfl rfl rfl rfl rfl (op_move rfl) (wl_wanted_det rfl rfl rfl rfl rfl rfl rfl (op_val (v' := .bool false) (by simp) (op_neq rfl rfl)) ?_)
      refine zd rfl (op_pick_f rfl rfl) (zm rfl (wl_wanted_det rfl rfl rfl rfl rfl rfl rfl (op_move rfl) (wl_wanted [711] rfl rfl rfl rfl rfl rfl rfl rfl (op_fn Try.func17 rfl rfl rfl (fn_imp (llast_c 711 hop) (fun u ρ hu => (by rw [if_neg (by simp), show lastN ⟨L.first, L.segs, [], true, false⟩ = c60 from hL] at hu; exact hu : u = .int .i64 (c60 : Int) ∧ ρ = [(711, lgR b88 b85 [108, 111, 103] ⟨L.first, L.segs, [], true, false⟩)])))) ?_)))
      rintro _ _ ⟨rfl, rfl⟩
      refine wl_wanted_det rfl rfl rfl rfl rfl rfl rfl (op_move rfl) (wl_wanted_det rfl rfl rfl rfl rfl rfl rfl (op_val (v' := .bool false) (by simp) (op_neq rfl rfl)) ?_)
      refine zd rfl (op_pick_f rfl rfl) (zm rfl (wl_wanted_det rfl rfl rfl rfl rfl rfl rfl (op_move rfl) (wl_wanted [711] rfl rfl rfl rfl rfl rfl rfl rfl (op_fn Try.func21 rfl rfl rfl (fn_imp (lpending_c 711 hop) (fun u ρ hu => (by rw [if_neg (by simp)] at hu; exact hu : u = .int .i64 0 ∧ ρ = [(711, lgR b88 b85 [108, 111, 103] ⟨L.first, L.segs, [], true, false⟩)])))) ?_)))
      rintro _ _ ⟨rfl, rfl⟩
      refine wl_wanted_det rfl rfl rfl rfl rfl rfl rfl (op_val (v' := .bool false) (by rfl) (op_neq rfl rfl)) ?_
      refine zd rfl (op_pick_f rfl rfl) (zm rfl (wl_wanted_det rfl rfl rfl rfl rfl rfl rfl (op_move rfl) (wl_wanted [712] rfl rfl rfl rfl rfl rfl rfl rfl (op_fn Try.func17 rfl rfl rfl (fn_imp (llast_c 712 hop) (fun u ρ hu => (by rw [if_neg (by simp), show lastN ⟨L.first, L.segs, [], true, false⟩ = c60 from hL] at hu; exact hu : u = .int .i64 (c60 : Int) ∧ ρ = [(712, lgR b98 b85 [108, 111, 103] ⟨L.first, L.segs, [], true, false⟩)])))) ?_)))
      rintro _ _ ⟨rfl, rfl⟩
      refine wl_wanted_det rfl rfl rfl rfl rfl rfl rfl (op_move rfl) (wl_wanted_det rfl rfl rfl rfl rfl rfl rfl (op_val (v' := .bool false) (by simp) (op_neq rfl rfl)) ?_)
      refine zd rfl (op_pick_f rfl rfl) (zm rfl (wl_wanted_det rfl rfl rfl rfl rfl rfl rfl (op_move rfl) (wl_wanted_det rfl rfl rfl rfl rfl rfl rfl (op_move rfl) (wl_wanted_det rfl rfl rfl rfl rfl rfl rfl (op_val (v' := .bool false) (by rw [decide_eq_false (by omega)]) (op_lss rfl rfl)) ?_))))
      refine wl_wanted_det rfl rfl rfl rfl rfl rfl rfl (op_move rfl) (wl_unwanted rfl rfl rfl rfl rfl rfl rfl rfl (wl_unwanted rfl rfl rfl rfl rfl rfl rfl rfl (wl_unwanted rfl rfl rfl rfl rfl rfl rfl rfl (wl_unwanted rfl rfl rfl rfl rfl rfl rfl rfl (wl_unwanted rfl rfl rfl rfl rfl rfl rfl rfl (wl_unwanted rfl rfl rfl rfl rfl rfl rfl rfl (wl_unwanted rfl rfl rfl rfl rfl rfl rfl rfl (wl_wanted_det rfl rfl rfl rfl rfl rfl rfl (op_pick_f rfl rfl) (zd rfl (op_pick_f rfl rfl) (wl_nil (st_tn (w_cond_f (rfl) ?_))))))))))))
      refine w_skip (st_tn (w_seq (w_seq (w_region (zm rfl (zm rfl (wl_op [701,601] rfl rfl rfl rfl (op_fn Try.func22 rfl rfl rfl (fn_imp (dequal_c 701 601 hR.good hR.good) (fun u ρ hu => (⟨by rw [hu.1, decide_eq_true rfl], hu.2⟩ : u = .bool true ∧ ρ = [(701, dkR b85 s), (601, dkR d12 s)])))) ?_)))))))
      rintro _ _ ⟨rfl, rfl⟩
      refine zd rfl (op_not_t rfl) (wl_nil (st_tn (w_cond_f (rfl) ?_)))
      refine w_skip (st_tn (w_cls [601, 611, 605, 606] (C := [(601, runN [108, 111, 103] d12 b60 (i + 1) c60 v60)]) (runN_closes (P1, P2, L, s) ⟨hR, hM, hL⟩) rfl ?_))
      refine w_drawW (fun β => [⟨163, [], [], [], noW (_), false, [], []⟩, ⟨164, [], [], [], noW (_), false, [], []⟩, ⟨4, [0], [], [], noW (_), false, [], []⟩]) [] [8, 9] [⟨163, [], [], false, [], []⟩, ⟨164, [], [], false, [], []⟩, ⟨4, [0], [], false, [], []⟩] [[], [], []] [[], [], []] tMixxm (fun _ => by rfl) (fun _ => by rfl) (by kernel_rfl) (by kernel_rfl) (by rfl) (by rfl)
          (fun β => ⟨.p rfl (by intro X; exact op_move rfl),
          ⟨.p rfl (by intro X; exact op_loadA rfl tA52xm (Ent.lab (l := 9) rfl (says_cel 0)) (Nat.le_of_ble_eq_true rfl)),
          ⟨.p rfl (by intro X; rintro _ _ ⟨rfl, rfl⟩; exact op_assign rfl),
          trivial⟩⟩⟩)
          (fun β β' => ⟨fun _ => by rfl, ⟨fun _ => by rfl, ⟨fun _ => by rfl, trivial⟩⟩⟩) ?_
      intro β
      rintro _ _ ⟨rfl, rfl⟩ _ _ ⟨rfl, rfl⟩ _ _ ⟨rfl, rfl⟩
      refine wl_norm (e' := [(0, _), (3, _), (4, _), (5, _), (6, _), (164, _)]) (.cons rfl (.cons rfl (.cons rfl (.cons rfl (.cons rfl (.cons rfl (.nil _))))))) (by dsimp only [cond_false, cond_true, List.nil_append, List.cons_append]) ?_
      refine wl_op0 [5] rfl rfl rfl (op_store rfl rfl tZ52xm (by rfl) (by rfl) (by exact Nat.le_of_ble_eq_true rfl)) ?_
      rintro _ _ ⟨rfl, rfl⟩
      refine wl_nil (st_bn (st_tn (w_region (zm rfl (zd rfl (op_add' rfl rfl (by omega)) ?_)))))
      refine za rfl (wl_nil ?_)
      refine st_roundQ (x := (i, b4, v, n)) ((i + 1, b60, v60, c60)) [601, 5] rfl (rfl) (.cons rfl (.cons rfl (.nil _))) (.cons rfl (.cons rfl (.cons rfl (.nil _)))) (by
          try dsimp only
          omega) (by
          try dsimp only
          omega)
    · -- c47.f
      refine w_exit (st_te ?_)
      refine st_te ?_
      refine st_be (st_tn (w_seq (w_region (za rfl (wl_nil (st_tn (w_ret (st_ret (vs := [_]) [] Try.results9 ⟨rfl, trivial⟩ rfl ?_))))))))
      refine ⟨_, rfl, ?_⟩
      exact ⟨rfl, rfl⟩
end Go.Proofs.Ytcbigmgakdanjaa
