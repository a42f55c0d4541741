/- The law Solves (layer 9). Conditions: none. -/
import Derived.Test.YtgdjnjbipemdcaaK16
namespace Go.Proofs.Ytgdjnjbipemdcaa
open Go Go.SL Go.RowKit Go.ConM
set_option linter.unusedVariables false
set_option linter.unusedSimpArgs false
theorem tA49q : aggB Try.prog 49 2 = true := by kernel_rfl
theorem tB49q : placesB Try.prog 49 = some ([(0, 1), (1, 1)], [Value.int .i64 0, Value.int .i64 0]) := by kernel_rfl
theorem tG49q : Try.prog.eqGuardType Try.prog.depth 49 = false := by kernel_rfl
theorem tMixq : Try.prog.follows .mixedOrders = true := by kernel_rfl
theorem tO3q : oneB Try.prog 3 = true := by kernel_rfl
theorem tS26q : sliceB Try.prog 26 3 1 = true := by kernel_rfl
theorem tS45q : sliceB Try.prog 45 49 2 = true := by kernel_rfl

theorem sol_keys {l : List Con} (h : Feas l) : srt ((search (fun _ => true) l (nodes l)).1.L.map Prod.fst) = nodes l := by
  refine SS.ext (srt_ss nod_search) (nodes_ss l) fun x => ?_
  rw [mem_srt]
  constructor
  · intro hx
    obtain ⟨p, hp, rfl⟩ := List.mem_map.1 hx
    rcases keys_search p hp with h1 | ⟨c, hc, h1⟩
    · exact h1
    · rw [h1]; exact mem_nodes.2 ⟨c, hc, .inr rfl⟩
  · intro hx
    rw [← look_mem (kt := KZ)]
    have := congrFun (sol_L h) x
    show (fnL (search (fun _ => true) l (nodes l)).1.L x).isSome = true
    rw [this]; exact potF_lab hx
theorem solL_feas {l : List Con} (h : Feas l) : solL l = (nodes l).map fun k => (k, (potF l k).getD 0) := by
  have h0 := (sol_feas l).2 h
  unfold solL
  rw [if_pos h0]
  unfold asg
  rw [sol_keys h]
  refine List.map_congr_left fun k _ => ?_
  have := congrFun (sol_L h) k
  have h2 : lookK KZ (search (fun _ => true) l (nodes l)).1.L k = potF l k := this
  rw [h2]
theorem solL_no {l : List Con} (h : ¬ Feas l) : solE l = 21 ∧ solL l = [] := by
  have h0 : ¬ solE l = 0 := fun e => h ((sol_feas l).1 e)
  refine ⟨?_, by unfold solL; rw [if_neg h0]⟩
  unfold solE at *
  split
  · rfl
  · rename_i h1; rw [if_neg h1] at h0; exact absurd rfl h0
theorem stF_holds {l : List Con} {f : Lbl} (h : StF l f) {c : Con} (hc : c ∈ l) {a b : Int} (ha : f c.f = some a) (hb : f c.t = some b) : b ≤ a + c.b := by
  have := h c hc
  unfold updC at this
  rw [ha, hb] at this
  simpa using this
theorem val_sol {l : List Con} (h : Feas l) {k : Int} (hk : k ∈ nodes l) : valO (solL l) k = (potF l k).getD 0 := by
  have hm : (k, (potF l k).getD 0) ∈ solL l := by rw [solL_feas h]; exact List.mem_map.2 ⟨k, hk, rfl⟩
  have := look_get (kt := KZ) (p := (k, (potF l k).getD 0)) (l := solL l) (by rw [solL_feas h, List.map_map]; show ((nodes l).map fun k => k).Nodup; rw [List.map_id']; exact (nodes_ss l).nodup) hm
  unfold valO; dsimp only at this; rw [this]; rfl
theorem sat_sol {l : List Con} (h : Feas l) : satE l (solL l) = 0 := by
  have h1 : (solL l).map Prod.fst = nodes l := by rw [solL_feas h, List.map_map]; show ((nodes l).map fun k => k) = _; rw [List.map_id']
  have h2 : ∀ c ∈ l, holdsC (solL l) c := fun c hc => by
    obtain ⟨hf, ht⟩ := nodes_in c hc
    unfold holdsC
    rw [val_sol h hf, val_sol h ht]
    obtain ⟨a, ha⟩ := Option.isSome_iff_exists.1 (potF_lab hf)
    obtain ⟨b, hb⟩ := Option.isSome_iff_exists.1 (potF_lab ht)
    rw [ha, hb]
    exact stF_holds h hc ha hb
  unfold satE; rw [if_pos h1, if_pos h2]
theorem oko_sol {l : List Con} (h : Feas l) (hl : Small l) : OkO (solL l) := by
  intro p hp
  rw [solL_feas h] at hp
  obtain ⟨k, hk, rfl⟩ := List.mem_map.1 hp
  have hb := bdF_RF (bd_zero (nodes l)) hl (nodes l).length
  have hn := len_nodes l
  have hl2 := hl.2
  dsimp only
  cases hp : potF l k with
  | none => simp [I64]
  | some x => have := hb k x hp; simp only [Option.getD_some]; unfold I64; omega
set_option maxHeartbeats 2000000 in
set_option maxRecDepth 100000 in
theorem lawSolves_any {σ : World} {F : List Res} {a : Option Addr} {c : Nat} {s : List Arc} (h : Sl σ F encA 3 (.slice a s.length c) s) (hs : OkA s) :
    FnT Try.prog σ F 10 [.slice a s.length c] [] (fun u ρ => u = .bool true ∧ ρ = []) := by
  refine fn_of 78 Try.func10 rfl Try.ntmps10 rfl ?_
  have hle := h.i64
  obtain ⟨hfew, hsm, hin, hno, hbn⟩ := sys_ok hs
  obtain ⟨l, hl⟩ : ∃ l, l = sysL s := ⟨_, rfl⟩
  rw [← hl] at hfew hsm hin hno hbn
  refine w_seq ?_
  refine w_region ?_
  refine wl_det rfl rfl rfl (op_assign rfl) ?_
  refine wl_nil ?_
  refine st_tn ?_
  refine w_seq ?_
  refine w_seq ?_
  refine w_region ?_
  refine wl_det rfl rfl rfl (op_fn Try.func15 rfl rfl rfl (known_any)) ?_
  refine wl_det rfl rfl rfl (op_not_t rfl) ?_
  refine wl_nil ?_
  refine st_tn ?_
  refine w_cond_f (rfl) ?_
  refine w_skip ?_
  refine st_tn ?_
  refine w_seq ?_
  refine w_region ?_
  refine wl_det rfl rfl rfl (op_move rfl) ?_
  refine wl_op [] rfl rfl rfl rfl (op_fn Try.func16 rfl rfl rfl (sys_any 15 (by first | exact Sl.app (by assumption) _ | exact Sl.app (Sl.app (by assumption) _) _) (by assumption))) ?_
  rintro _ _ ⟨a15, c15, rfl, rfl⟩
  refine wl_det rfl rfl rfl (op_assign rfl) ?_
  refine wl_nil ?_
  refine st_tn ?_
  refine w_seq ?_
  rw [← hl]
  clear hl
  have hnl := len_nodes l
  have hsf := sol_feas l
  refine w_region ?_
  refine wl_det rfl rfl rfl (op_move rfl) ?_
  refine wl_op [] rfl rfl rfl rfl (op_fn Try.func24 rfl rfl rfl (solve_any 18 (Sl.lab 15 rfl (by first | (unfold maxLen; omega) | (simp [maxLen]; done))) (by assumption) (by assumption))) ?_
  rintro _ _ ⟨a18, c18, rfl, rfl⟩
  refine wl_det rfl rfl rfl (op_move rfl) ?_
  refine wl_det rfl rfl rfl (op_extract rfl rfl) ?_
  refine wl_det rfl rfl rfl (op_extract rfl rfl) ?_
  refine wl_det rfl rfl rfl (op_assign rfl) ?_
  refine wl_det rfl rfl rfl (op_assign rfl) ?_
  refine wl_nil ?_
  refine st_tn ?_
  refine w_seq ?_
  refine w_region ?_
  refine wl_det rfl rfl rfl (op_move rfl) ?_
  refine wl_op [] rfl rfl rfl rfl (op_fn Try.func31 rfl rfl rfl (pot_any 23 (Sl.lab 15 rfl (by first | (unfold maxLen; omega) | (simp [maxLen]; done))) (by assumption) (by assumption))) ?_
  rintro _ _ ⟨a23, c23, rfl, rfl⟩
  refine wl_det rfl rfl rfl (op_move rfl) ?_
  refine wl_det rfl rfl rfl (op_extract rfl rfl) ?_
  refine wl_det rfl rfl rfl (op_extract rfl rfl) ?_
  refine wl_det rfl rfl rfl (op_assign rfl) ?_
  refine wl_det rfl rfl rfl (op_assign rfl) ?_
  refine wl_nil ?_
  refine st_tn ?_
  refine w_seq ?_
  refine w_region ?_
  refine wl_det rfl rfl rfl (op_move rfl) ?_
  refine wl_op [] rfl rfl rfl rfl (op_fn Try.func17 rfl rfl rfl (conf_any 28 (Sl.lab 15 rfl (by first | (unfold maxLen; omega) | (simp [maxLen]; done))) (by assumption) (by assumption))) ?_
  rintro _ _ ⟨a28, c28, rfl, rfl⟩
  refine wl_det rfl rfl rfl (op_move rfl) ?_
  refine wl_det rfl rfl rfl (op_extract rfl rfl) ?_
  refine wl_det rfl rfl rfl (op_extract rfl rfl) ?_
  refine wl_det rfl rfl rfl (op_assign rfl) ?_
  refine wl_det rfl rfl rfl (op_assign rfl) ?_
  refine wl_nil ?_
  refine st_tn ?_
  refine w_seq ?_
  refine w_seq ?_
  refine w_region ?_
  refine wl_det rfl rfl rfl (op_move rfl) ?_
  refine wl_det rfl rfl rfl (op_move rfl) ?_
  refine wl_det rfl rfl rfl (op_val (v' := .bool false) (by congr 1; by_cases hf : Feas l; (· have := hsf.2 hf; simp [this, hf]); (· have : ¬ solE l = 0 := fun e => hf (hsf.1 e); simp [this, hf])) (op_eqB rfl rfl Try.underlying4)) ?_
  refine wl_nil ?_
  refine st_tn ?_
  refine w_cond_f (rfl) ?_
  refine w_skip ?_
  refine st_tn ?_
  refine w_seq ?_
  refine w_seq ?_
  refine w_region ?_
  refine wl_det rfl rfl rfl (op_move rfl) ?_
  refine wl_det rfl rfl rfl (op_not_d rfl) ?_
  refine wl_nil ?_
  refine st_tn ?_
  refine w_cond_d rfl (fun hc35 => ?_) (fun hc35 => ?_)
  · -- c35.t
    obtain ⟨hE, hL⟩ := solL_no hc35
    rw [hE, hL]
    refine w_seq ?_
    refine w_region ?_
    refine wl_det rfl rfl rfl (op_move rfl) ?_
    refine wl_det rfl rfl rfl (op_val (v' := .bool true) (by rfl) (op_eql rfl rfl)) ?_
    refine wl_det rfl rfl rfl (op_move rfl) ?_
    refine wl_wanted_det rfl rfl rfl rfl rfl rfl rfl (op_move rfl) ?_
    refine wl_wanted_det rfl rfl rfl rfl rfl rfl rfl (op_lenT rfl tS45q (Sl.ent (Sl.lab 18 rfl (by first | (unfold maxLen; omega) | (simp [maxLen]; done))))) ?_
    refine wl_wanted_det rfl rfl rfl rfl rfl rfl rfl (op_val (v' := .bool true) (by rfl) (op_eql rfl rfl)) ?_
    refine wl_det rfl rfl rfl (op_pick_t rfl rfl) ?_
    refine wl_det rfl rfl rfl (op_assign rfl) ?_
    refine wl_nil ?_
    refine st_tn ?_
    refine w_ret ?_
    refine st_tr ?_
    refine st_ret (vs := [_]) [] Try.results10 ⟨rfl, trivial⟩ rfl ?_
    refine ⟨_, rfl, ?_⟩
    exact ⟨rfl, rfl⟩
  · -- c35.f
    have hF : Feas l := Classical.not_not.1 hc35
    have hE := hsf.2 hF
    have hL := solL_feas hF
    have hP : potL l = (nodes l).map fun k => (potF l k).getD 0 := by unfold potL; rw [if_pos hF]; rfl
    have hsl : (solL l).length = (nodes l).length := by rw [hL, List.length_map]
    have hpl : (potL l).length = (nodes l).length := by rw [hP, List.length_map]
    have hok := oko_sol hF hsm
    refine w_skip ?_
    refine st_tn ?_
    refine w_seq ?_
    refine w_region ?_
    refine wl_det rfl rfl rfl (op_move rfl) ?_
    refine wl_op [] rfl rfl rfl rfl (op_fn Try.func32 rfl rfl rfl (rnodes_any 44 (Sl.lab 15 rfl (by first | (unfold maxLen; omega) | (simp [maxLen]; done))) (by assumption) (by omega))) ?_
    rintro _ _ ⟨a44, c44, rfl, rfl⟩
    refine wl_det rfl rfl rfl (op_assign rfl) ?_
    refine wl_nil ?_
    refine st_tn ?_
    refine w_seq ?_
    refine w_seq ?_
    refine w_region ?_
    refine wl_det rfl rfl rfl (op_move rfl) ?_
    refine wl_det rfl rfl rfl (op_val (v' := .bool false) (by rw [hE]; simp) (op_neq rfl rfl)) ?_
    refine wl_det rfl rfl rfl (op_move rfl) ?_
    refine wl_wanted_det rfl rfl rfl rfl rfl rfl rfl (op_move rfl) ?_
    refine wl_wanted_det rfl rfl rfl rfl rfl rfl rfl (op_lenT rfl tS45q (Sl.ent (Sl.lab 18 rfl (by first | (unfold maxLen; omega) | (simp [maxLen]; done))))) ?_
    refine wl_wanted_det rfl rfl rfl rfl rfl rfl rfl (op_move rfl) ?_
    refine wl_wanted_det rfl rfl rfl rfl rfl rfl rfl (op_lenT rfl tS26q (Sl.ent (Sl.lab 44 rfl (by first | (unfold maxLen; omega) | (simp [maxLen]; done))))) ?_
    refine wl_wanted_det rfl rfl rfl rfl rfl rfl rfl (op_val (v' := .bool false) (by rw [hsl]; simp) (op_neq rfl rfl)) ?_
    refine wl_det rfl rfl rfl (op_pick_f rfl rfl) ?_
    refine wl_nil ?_
    refine st_tn ?_
    refine w_cond_f (rfl) ?_
    refine w_skip ?_
    refine st_tn ?_
    refine w_seq ?_
    refine w_seq ?_
    refine w_region ?_
    refine wl_det rfl rfl rfl (op_assign rfl) ?_
    refine wl_nil ?_
    refine st_tn ?_
    refine w_block ?_
    refine w_loopQ (X := Nat) (fun z => z ≤ (solL l).length) (fun z => [(11, .int .i64 (z))]) (fun _ => []) (fun z => (solL l).length - z) (0) [(3, _), (4, _), (6, _), (10, _)] [(15, _), (18, _), (23, _), (28, _), (44, _)] [15, 18, 23, 28, 44] rfl (rfl) (.cons rfl (.nil _)) (.cons rfl (.cons rfl (.cons rfl (.cons rfl (.nil _))))) (by
        try dsimp only
        exact Nat.zero_le _) ?_
    rintro i hi
    refine w_norm2 (by dsimp only [List.cons_append, List.nil_append]) (by dsimp only [List.cons_append, List.nil_append]) ?_
    try dsimp only at hi ⊢
    refine w_seq ?_
    refine w_seq ?_
    refine w_region ?_
    refine wl_det rfl rfl rfl (op_move rfl) ?_
    refine wl_det rfl rfl rfl (op_move rfl) ?_
    refine wl_det rfl rfl rfl (op_lenT rfl tS45q (Sl.ent (Sl.lab 18 rfl (by first | (unfold maxLen; omega) | (simp [maxLen]; done))))) ?_
    refine wl_det rfl rfl rfl (op_lss rfl rfl) ?_
    refine wl_nil ?_
    refine st_tn ?_
    refine w_cond_d rfl (fun hc57 => ?_) (fun hc57 => ?_)
    · -- c57.t
      obtain ⟨k, hk⟩ := getE (l := nodes l) (i := i) (by omega)
      have hlt := ltE hk
      have hx1 : (solL l)[i]? = some (k, (potF l k).getD 0) := by rw [hL]; exact get_map _ hk
      have hx2 : (potL l)[i]? = some ((potF l k).getD 0) := by rw [hP]; exact get_map _ hk
      refine w_skip ?_
      refine st_tn ?_
      refine w_seq ?_
      refine w_block ?_
      refine w_seq ?_
      refine w_drawW (fun β => [⟨60, [], [], [], noW (_), false, [], []⟩, ⟨61, [], [], [], noW (_), false, [], []⟩, ⟨62, [0, 1], [], [], noW (_), false, [], []⟩, ⟨63, [2], [], [], noW (_), false, [], []⟩, ⟨64, [], [], [], noW (_), false, [], []⟩, ⟨65, [], [], [], noW (_), false, [], []⟩, ⟨66, [4, 5], [], [], noW (_), false, [], []⟩, ⟨67, [6], [], [], noW (_), false, [], []⟩, ⟨68, [], [], [], noW (_), false, [], []⟩, ⟨69, [], [], [], noW (_), false, [], []⟩, ⟨70, [8, 9], [], [], noW (_), false, [], []⟩, ⟨71, [10], [], [], noW (_), false, [], []⟩, ⟨72, [7, 11], [], [], noW (_), false, [], []⟩]) [] [4, 11, 10, 6] [⟨60, [], [], false, [], []⟩, ⟨61, [], [], false, [], []⟩, ⟨62, [0, 1], [], false, [], []⟩, ⟨63, [2], [], false, [], []⟩, ⟨64, [], [], false, [], []⟩, ⟨65, [], [], false, [], []⟩, ⟨66, [4, 5], [], false, [], []⟩, ⟨67, [6], [], false, [], []⟩, ⟨68, [], [], false, [], []⟩, ⟨69, [], [], false, [], []⟩, ⟨70, [8, 9], [], false, [], []⟩, ⟨71, [10], [], false, [], []⟩, ⟨72, [7, 11], [], false, [], []⟩] [[], [], [], [], [], [], [], [], [], [], [], [], []] [[], [], [], [], [], [], [], [], [], [], [], [], []] tMixq (fun _ => by rfl) (fun _ => by rfl) (by kernel_rfl) (by kernel_rfl) (by rfl) (by rfl)
          (fun β => ⟨.p rfl (by intro X; exact op_move rfl),
          ⟨.p rfl (by intro X; exact op_move rfl),
          ⟨.p rfl (by intro X; rintro _ _ ⟨rfl, rfl⟩ _ _ ⟨rfl, rfl⟩; exact op_idx rfl rfl tS45q (Sl.ent (Sl.lab 18 rfl (by first | (unfold maxLen; omega) | (simp [maxLen]; done)))) (by omega)),
          ⟨.p rfl (by intro X; rintro _ _ ⟨rfl, rfl⟩; exact op_ldxA rfl tA49q (Sl.lab 18 rfl (by first | (unfold maxLen; omega) | (simp [maxLen]; done))) (by assumption) (by rfl) (by rfl)),
          ⟨.p rfl (by intro X; exact op_move rfl),
          ⟨.p rfl (by intro X; exact op_move rfl),
          ⟨.p rfl (by intro X; rintro _ _ ⟨rfl, rfl⟩ _ _ ⟨rfl, rfl⟩; exact op_idx rfl rfl tS26q (Sl.ent (Sl.lab 44 rfl (by first | (unfold maxLen; omega) | (simp [maxLen]; done)))) (by omega)),
          ⟨.p rfl (by intro X; rintro _ _ ⟨rfl, rfl⟩; exact op_ldx rfl tO3q (Sl.lab 44 rfl (by first | (unfold maxLen; omega) | (simp [maxLen]; done))) (by assumption) (by rfl)),
          ⟨.p rfl (by intro X; exact op_move rfl),
          ⟨.p rfl (by intro X; exact op_move rfl),
          ⟨.p rfl (by intro X; rintro _ _ ⟨rfl, rfl⟩ _ _ ⟨rfl, rfl⟩; exact op_idx rfl rfl tS26q (Sl.ent (Sl.lab 23 rfl (by first | (unfold maxLen; omega) | (simp [maxLen]; done)))) (by omega)),
          ⟨.p rfl (by intro X; rintro _ _ ⟨rfl, rfl⟩; exact op_ldx rfl tO3q (Sl.lab 23 rfl (by first | (unfold maxLen; omega) | (simp [maxLen]; done))) (by assumption) (by rfl)),
          ⟨.p rfl (by intro X; rintro _ _ ⟨rfl, rfl⟩ _ _ ⟨rfl, rfl⟩; exact op_build tB49q rfl rfl),
          trivial⟩⟩⟩⟩⟩⟩⟩⟩⟩⟩⟩⟩⟩)
          (fun β β' => ⟨fun _ => by rfl, ⟨fun _ => by rfl, ⟨fun _ => by rfl, ⟨fun _ => by rfl, ⟨fun _ => by rfl, ⟨fun _ => by rfl, ⟨fun _ => by rfl, ⟨fun _ => by rfl, ⟨fun _ => by rfl, ⟨fun _ => by rfl, ⟨fun _ => by rfl, ⟨fun _ => by rfl, ⟨fun _ => by rfl, trivial⟩⟩⟩⟩⟩⟩⟩⟩⟩⟩⟩⟩⟩) ?_
      intro β
      rintro _ _ ⟨rfl, rfl⟩ _ _ ⟨rfl, rfl⟩ _ _ ⟨rfl, rfl⟩ _ _ ⟨rfl, rfl⟩ _ _ ⟨rfl, rfl⟩ _ _ ⟨rfl, rfl⟩ _ _ ⟨rfl, rfl⟩ _ _ ⟨rfl, rfl⟩ _ _ ⟨rfl, rfl⟩ _ _ ⟨rfl, rfl⟩ _ _ ⟨rfl, rfl⟩ _ _ ⟨rfl, rfl⟩ _ _ ⟨rfl, rfl⟩
      refine wl_norm (e' := [(3, _), (4, _), (6, _), (10, _), (11, _), (63, _), (72, _)]) (.cons rfl (.cons rfl (.cons rfl (.cons rfl (.cons rfl (.cons rfl (.cons rfl (.nil _)))))))) (by dsimp only [cond_false, cond_true, List.nil_append, List.cons_append]) ?_
      refine wl_det rfl rfl rfl (op_val (v' := .bool false) (by simp) (op_neA rfl rfl tG49q (eq49 _ _ _ _))) ?_
      refine wl_nil ?_
      refine st_tn ?_
      refine w_cond_f (rfl) ?_
      refine w_skip ?_
      refine st_bn ?_
      refine st_tn ?_
      refine w_region ?_
      refine wl_det rfl rfl rfl (op_move rfl) ?_
      refine wl_det rfl rfl rfl (op_add' rfl rfl (by omega)) ?_
      refine wl_det rfl rfl rfl (op_assign rfl) ?_
      refine wl_nil ?_
      refine st_roundQ (x := i) (i + 1) [15, 18, 23, 28, 44] rfl (rfl) (.cons rfl (.nil _)) (.cons rfl (.cons rfl (.cons rfl (.cons rfl (.nil _))))) (by
          try dsimp only
          omega) (by
          try dsimp only
          omega) 
    · -- c57.f
      refine w_exit ?_
      refine st_te ?_
      refine st_te ?_
      refine st_be ?_
      refine st_tn ?_
      refine w_seq ?_
      refine w_region ?_
      refine wl_det rfl rfl rfl (op_move rfl) ?_
      refine wl_det rfl rfl rfl (op_move rfl) ?_
      refine wl_det rfl rfl rfl (op_fn Try.func33 rfl rfl rfl (sat_any (Sl.lab 15 rfl (by first | (unfold maxLen; omega) | (simp [maxLen]; done))) (Sl.lab 18 rfl (by first | (unfold maxLen; omega) | (simp [maxLen]; done))) (by assumption) (by assumption) (by assumption) (by omega))) ?_
      refine wl_det rfl rfl rfl (op_val (v' := .bool true) (by rw [sat_sol hF]; rfl) (op_eql rfl rfl)) ?_
      refine wl_det rfl rfl rfl (op_assign rfl) ?_
      refine wl_nil ?_
      refine st_tn ?_
      refine w_ret ?_
      refine st_ret (vs := [_]) [] Try.results10 ⟨rfl, trivial⟩ rfl ?_
      refine ⟨_, rfl, ?_⟩
      exact ⟨rfl, rfl⟩

end Go.Proofs.Ytgdjnjbipemdcaa
