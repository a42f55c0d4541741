/- Contracts: Append, Sync, Rename and Remove (layer 26). Conditions: none. -/
import Derived.Test.YtjlbeakdgadpmaaD3
namespace Go.Proofs.Ytjlbeakdgadpmaa
open Go Go.SL Go.RowKit Go.DskM
set_option linter.unusedVariables false
set_option linter.unusedSimpArgs false
theorem tA68d : aggB Try.prog 68 3 = true := by kernel_rfl
theorem tF65_0d : fieldB Try.prog 65 0 0 = true := by kernel_rfl
theorem tF65_1d : fieldB Try.prog 65 1 1 = true := by kernel_rfl
theorem tF68_0d : fieldB Try.prog 68 0 0 = true := by kernel_rfl
theorem tF68_1d : fieldB Try.prog 68 1 1 = true := by kernel_rfl
theorem tF68_2d : fieldB Try.prog 68 2 2 = true := by kernel_rfl
theorem tL48_1d : zerosB Try.prog 48 9 1 1 = some [Value.string .empty] := by kernel_rfl
theorem tL48_2d : zerosB Try.prog 48 9 1 2 = some [Value.string .empty, Value.string .empty] := by kernel_rfl
theorem tMixd : Try.prog.follows .mixedOrders = true := by kernel_rfl
theorem tN68d : (Try.prog.info? 68).bind (·.zero) = some (Value.agg #[Value.string .empty, Value.int .i64 0, Value.bool false]) := by kernel_rfl
theorem tO3d : oneB Try.prog 3 = true := by kernel_rfl
theorem tO63d : oneB Try.prog 63 = true := by kernel_rfl
theorem tO9d : oneB Try.prog 9 = true := by kernel_rfl
theorem tQ63d : mapB Try.prog 63 9 68 KL.desc := ⟨Try.underlying63, Try.underlying9⟩
theorem tZ3d : (Try.prog.info? 3).map (·.size) = some 1 := by kernel_rfl
theorem tZ4d : (Try.prog.info? 4).map (·.size) = some 1 := by kernel_rfl
theorem tZ68d : (Try.prog.info? 68).map (·.size) = some 3 := by kernel_rfl
theorem tZ9d : (Try.prog.info? 9).map (·.size) = some 1 := by kernel_rfl

theorem le_used {fs : Files} {p : Bs × Fl} (h : p ∈ fs) : p.2.data.length ≤ used fs := by
  induction fs with
  | nil => simp at h
  | cons q l ih =>
    rw [used_cons]
    rcases List.mem_cons.1 h with rfl | h
    · omega
    · have := ih h; omega
theorem app_ready {s : St} {n d : Bs} (h : readyE s [n] ≠ 0) : appO s n d = (readyE s [n], s) := by unfold appO; rw [if_pos h]
theorem app_limit {s : St} {n d : Bs} (h : ¬ readyE s [n] ≠ 0) (h2 : find s.fs n = none) (h3 : 256 ≤ s.fs.length) : appO s n d = (6, s) := by unfold appO; rw [if_neg h, if_pos ⟨h2, h3⟩]
theorem app_full {s : St} {n d : Bs} (h : ¬ readyE s [n] ≠ 0) (h2 : ¬ (find s.fs n = none ∧ 256 ≤ s.fs.length)) (h3 : s.cap < used s.fs + d.length) : appO s n d = (28, s) := by unfold appO; rw [if_neg h, if_neg h2, if_pos h3]
theorem app_done {s : St} {n d : Bs} (h : ¬ readyE s [n] ≠ 0) (h2 : ¬ (find s.fs n = none ∧ 256 ≤ s.fs.length)) (h3 : ¬ s.cap < used s.fs + d.length) : appO s n d = (if (oper (grown s n d)).1 = true then 0 else 27, (oper (grown s n d)).2) := by
  unfold appO; rw [if_neg h, if_neg h2, if_neg h3]; split <;> rfl
theorem oper_perm {s : St} {l : Files} (h : l.Perm s.fs) : l.Perm (oper s).2.fs := by rw [(oper_fs s).1]; exact h
theorem grown_perm {s : St} {l : Files} {n d : Bs} {f : Fl} (hg : DskM.Good s) (h : l.Perm s.fs) (hf : (find s.fs n).getD zeroF = f) : (setK KL l n ⟨f.data ++ d, f.syn, f.dur⟩).Perm (oper (grown s n d)).2.fs := by
  refine oper_perm ?_
  subst hf
  exact set_perm h hg.inc n _
set_option maxHeartbeats 1000000 in
set_option maxRecDepth 100000 in
theorem append_any {σ : World} {F : List Res} {b m : Nat} {s : St} {l : Files} (n d : Bs) (hg : DskM.Good s) (hp : l.Perm s.fs) (hn : n.length ≤ maxLen) (hdl : d.length ≤ 1099511627776) :
    FnT Try.prog σ F 15 [.pointer (some ⟨b, 0, none⟩), .string (str n), .string (str d)] [(601, cel b (cellD s m) 65), (602, mp KL encF m l)] (fun u ρ => ∃ l', l'.Perm (appO s n d).2.fs ∧ u = .int .i64 (appO s n d).1 ∧ ρ = [(601, cel b (cellD (appO s n d).2 m) 65), (602, mp KL encF m l')]) := by
  refine fn_of 62 Try.func15 rfl Try.ntmps15 rfl ?_
  have hlk := look_fs hg hp n
  have huse := hg.use
  have hcap := hg.cap
  have hll := hp.length_eq
  refine w_seq ?_
  refine w_region ?_
  refine wl_det rfl rfl rfl (op_assign rfl) ?_
  refine wl_nil ?_
  refine st_tn ?_
  refine w_seq ?_
  refine w_seq ?_
  refine w_region ?_
  refine wl_det rfl rfl rfl (op_move rfl) ?_
  refine wl_det rfl rfl rfl (op_move rfl) ?_
  refine wl_op [] rfl rfl rfl rfl (op_buildSlice (enc := encT) (l := [_]) (lab := 12) tL48_1d rfl rfl (fun _ => rfl) rfl) ?_
  rintro _ _ ⟨a12, c12, rfl, rfl⟩
  refine wl_det rfl rfl rfl (op_fn Try.func35 rfl rfl rfl (ready_any (s := s) (m := m) (l := [n]) (celD 601 rfl) (Sl.lab 12 rfl (by simp [maxLen])) (by simpa using hn))) ?_
  refine wl_det rfl rfl rfl (op_assign rfl) ?_
  refine wl_nil ?_
  refine st_tn ?_
  refine w_seq ?_
  refine w_region ?_
  refine wl_det rfl rfl rfl (op_move rfl) ?_
  refine wl_det rfl rfl rfl (op_neq rfl rfl) ?_
  refine wl_nil ?_
  refine st_tn ?_
  refine w_cond_d rfl (fun hc15 => ?_) (fun hc15 => ?_)
  · -- c15.t
    refine w_seq ?_
    refine w_region ?_
    refine wl_det rfl rfl rfl (op_move rfl) ?_
    refine wl_det rfl rfl rfl (op_assign rfl) ?_
    refine wl_nil ?_
    refine st_tn ?_
    refine w_ret ?_
    refine st_tr ?_
    refine st_ret (vs := [_]) [601, 602] Try.results15 ⟨rfl, trivial⟩ rfl ?_
    refine ⟨[(601, _), (602, _)], rfl, ?_⟩
    rw [app_ready hc15]; exact ⟨l, hp, rfl, rfl⟩
  · -- c15.f
    have hdn := (ready0 hc15).1
    refine w_skip ?_
    refine st_tn ?_
    refine w_seq ?_
    by_cases hf : (find s.fs n).isSome = true
    · -- hf+
      obtain ⟨f, hff⟩ := Option.isSome_iff_exists.1 hf
      have hfl : f.data.length ≤ used s.fs := le_used (find_mem hff)
      have hfd : (find s.fs n).getD zeroF = f := by rw [hff]; rfl
      have hno : ¬ (find s.fs n = none ∧ 256 ≤ s.fs.length) := fun h => by rw [hff] at h; simp at h
      refine w_region ?_
      refine wl_det rfl rfl rfl (op_move rfl) ?_
      refine wl_det rfl rfl rfl (op_nilCheck rfl) ?_
      refine wl_det rfl rfl rfl (op_fieldAddr (off := 1) rfl tF65_1d) ?_
      refine wl_det rfl rfl rfl (op_load1 rfl tO63d (Ent.lab (l := 601) rfl (says_cel 1))) ?_
      refine wl_det rfl rfl rfl (op_move rfl) ?_
      refine wl_det rfl rfl rfl (op_val (v' := .tuple #[encF f, .bool true]) (by exact look_val hlk hff) (op_lookup2 (kt := KL) (encV := encF) rfl rfl tQ63d tN68d (Mr.lab 602 rfl))) ?_
      refine wl_det rfl rfl rfl (op_move rfl) ?_
      refine wl_det rfl rfl rfl (op_extract rfl rfl) ?_
      refine wl_det rfl rfl rfl (op_extract rfl rfl) ?_
      refine wl_op [] rfl rfl rfl rfl (op_alloc (l := 8) tN68d) ?_
      rintro _ _ ⟨b8, rfl, rfl⟩
      refine wl_op0 [8] rfl rfl rfl (op_store rfl rfl tZ68d (by rfl) (by rfl) (by exact Nat.le_of_ble_eq_true rfl)) ?_
      rintro _ _ ⟨rfl, rfl⟩
      refine wl_det rfl rfl rfl (op_assign rfl) ?_
      refine wl_nil ?_
      refine st_tn ?_
      refine w_seq ?_
      refine w_block ?_
      refine w_seq ?_
      refine w_region ?_
      refine wl_det rfl rfl rfl (op_move rfl) ?_
      refine wl_det rfl rfl rfl (op_not_t rfl) ?_
      refine wl_det rfl rfl rfl (op_move rfl) ?_
      refine wl_unwanted rfl rfl rfl rfl rfl rfl rfl rfl ?_
      refine wl_unwanted rfl rfl rfl rfl rfl rfl rfl rfl ?_
      refine wl_unwanted rfl rfl rfl rfl rfl rfl rfl rfl ?_
      refine wl_unwanted rfl rfl rfl rfl rfl rfl rfl rfl ?_
      refine wl_unwanted rfl rfl rfl rfl rfl rfl rfl rfl ?_
      refine wl_unwanted rfl rfl rfl rfl rfl rfl rfl rfl ?_
      refine wl_det rfl rfl rfl (op_pick_f rfl rfl) ?_
      refine wl_det rfl rfl rfl (op_assign rfl) ?_
      refine wl_nil ?_
      refine st_tn ?_
      refine w_cond_f (rfl) ?_
      refine w_seq ?_
      refine w_openM 602 rfl (fun bs ck hwf => ?_)
      refine w_drawW (fun β => [⟨38, [], [], [], noW (_), false, [], []⟩, ⟨39, [0], [], [], noW (_), false, [], []⟩, ⟨40, [], [], [], noW (_), false, [], []⟩, ⟨41, [2], [], [], noW (_), false, [], []⟩, ⟨42, [1, 3], [], [], noW (_), false, [], []⟩, ⟨43, [], [], [], noW (_), false, [], []⟩, ⟨44, [5], [], [], noW (_), false, [], []⟩, ⟨45, [6], [], [], noW (_), false, [], []⟩, ⟨46, [7], [], [], noW (_), false, [], []⟩]) [] [0, 2] [⟨38, [], [], false, [], []⟩, ⟨39, [0], [], false, [], []⟩, ⟨40, [], [], false, [], []⟩, ⟨41, [2], [], false, [], []⟩, ⟨42, [1, 3], [], false, [], []⟩, ⟨43, [], [], false, [], []⟩, ⟨44, [5], [], false, [], []⟩, ⟨45, [6], [], false, [], []⟩, ⟨46, [7], [], false, [], []⟩] [[], [], [], [], [], [], [], [], []] [[], [], [], [], [], [], [], [], []] tMixd (fun _ => by rfl) (fun _ => by rfl) (by kernel_rfl) (by kernel_rfl) (by rfl) (by rfl)
          (fun β => ⟨.p rfl (by intro X; exact op_move rfl),
          ⟨.p rfl (by intro X; rintro _ _ ⟨rfl, rfl⟩; exact op_val (v' := .int .i64 (used s.fs : Int)) (by rw [hdn]; rfl) (op_fn Try.func16 rfl rfl rfl (used_any (s := s) (bs := bs) (ck := ck) hg hp (Ent.lab (l := 601) rfl (says_cel 0)) (Me.lab 602 rfl)))),
          ⟨.p rfl (by intro X; exact op_move rfl),
          ⟨.p rfl (by intro X; rintro _ _ ⟨rfl, rfl⟩; exact op_lenBs rfl Try.underlying9),
          ⟨.p rfl (by intro X; rintro _ _ ⟨rfl, rfl⟩ _ _ ⟨rfl, rfl⟩; exact op_add' rfl rfl (by omega)),
          ⟨.p rfl (by intro X; exact op_move rfl),
          ⟨.p rfl (by intro X; rintro _ _ ⟨rfl, rfl⟩; exact op_nilCheck rfl),
          ⟨.p rfl (by intro X; rintro _ _ ⟨rfl, rfl⟩; exact op_fieldAddr (off := 0) rfl tF65_0d),
          ⟨.p rfl (by intro X; rintro _ _ ⟨rfl, rfl⟩; exact op_load1 rfl tO3d (Ent.lab (l := 601) rfl (says_cel 0))),
          trivial⟩⟩⟩⟩⟩⟩⟩⟩⟩)
          (fun β β' => ⟨fun _ => by rfl, ⟨fun _ => by rfl, ⟨fun _ => by rfl, ⟨fun _ => by rfl, ⟨fun _ => by rfl, ⟨fun _ => by rfl, ⟨fun _ => by rfl, ⟨fun _ => by rfl, ⟨fun _ => by rfl, trivial⟩⟩⟩⟩⟩⟩⟩⟩⟩) ?_
      intro β
      rintro _ _ ⟨rfl, rfl⟩ _ _ ⟨rfl, rfl⟩ _ _ ⟨rfl, rfl⟩ _ _ ⟨rfl, rfl⟩ _ _ ⟨rfl, rfl⟩ _ _ ⟨rfl, rfl⟩ _ _ ⟨rfl, rfl⟩ _ _ ⟨rfl, rfl⟩ _ _ ⟨rfl, rfl⟩
      refine wl_norm (e' := [(0, _), (1, _), (2, _), (8, _), (42, _), (46, _)]) (.cons rfl (.cons rfl (.cons rfl (.cons rfl (.cons rfl (.cons rfl (.nil _))))))) (by dsimp only [cond_false, cond_true, List.nil_append, List.cons_append]) ?_
      refine wl_det rfl rfl rfl (op_gtr rfl rfl) ?_
      refine wl_det rfl rfl rfl (op_assign rfl) ?_
      refine wl_nil ?_
      refine st_tn ?_
      refine w_cond_d rfl (fun hc37 => ?_) (fun hc37 => ?_)
      · -- c37.t
        refine w_seq ?_
        refine w_wk 602 (mp KL encF m l) rfl mpE_mp ?_
        refine w_region ?_
        refine wl_det rfl rfl rfl (op_assign rfl) ?_
        refine wl_nil ?_
        refine st_tn ?_
        refine w_ret ?_
        refine st_br ?_
        refine st_tr ?_
        refine st_ret (vs := [_]) [601, 602] Try.results15 ⟨rfl, trivial⟩ rfl ?_
        refine ⟨[(601, _), (602, _)], rfl, ?_⟩
        rw [app_full hc15 hno (by omega)]; exact ⟨l, hp, rfl, rfl⟩
      · -- c37.f
        refine w_skip ?_
        refine st_bn ?_
        refine st_tn ?_
        refine w_seq ?_
        refine w_wk 602 (mp KL encF m l) rfl mpE_mp ?_
        refine w_region ?_
        refine wl_det rfl rfl rfl (op_fieldAddr (off := 0) rfl tF68_0d) ?_
        refine wl_det rfl rfl rfl (op_load1 rfl tO9d (Ent.lab (l := 8) rfl (says_cel 0))) ?_
        refine wl_det rfl rfl rfl (op_move rfl) ?_
        refine wl_det rfl rfl rfl (op_catBs rfl rfl (by omega)) ?_
        refine wl_det rfl rfl rfl (op_fieldAddr (off := 0) rfl tF68_0d) ?_
        refine wl_op0 [8] rfl rfl rfl (op_store rfl rfl tZ9d (by rfl) (by rfl) (by exact Nat.le_of_ble_eq_true rfl)) ?_
        rintro _ _ ⟨rfl, rfl⟩
        refine wl_nil ?_
        refine st_tn ?_
        refine w_seq ?_
        refine w_drawW (fun β => [⟨53, [], [], [], noW (_), false, [], []⟩, ⟨54, [0], [], [], noW (_), false, [], []⟩, ⟨55, [1], [], [], noW (_), false, [], []⟩, ⟨56, [2], [], [], noW (_), false, [], []⟩, ⟨57, [], [], [], noW (_), false, [], []⟩, ⟨58, [], [], [], noW (_), false, [], []⟩]) [] [0, 1, 8] [⟨53, [], [], false, [], []⟩, ⟨54, [0], [], false, [], []⟩, ⟨55, [1], [], false, [], []⟩, ⟨56, [2], [], false, [], []⟩, ⟨57, [], [], false, [], []⟩, ⟨58, [], [], false, [], []⟩] [[], [], [], [], [], []] [[], [], [], [], [], []] tMixd (fun _ => by rfl) (fun _ => by rfl) (by kernel_rfl) (by kernel_rfl) (by rfl) (by rfl)
            (fun β => ⟨.p rfl (by intro X; exact op_move rfl),
            ⟨.p rfl (by intro X; rintro _ _ ⟨rfl, rfl⟩; exact op_nilCheck rfl),
            ⟨.p rfl (by intro X; rintro _ _ ⟨rfl, rfl⟩; exact op_fieldAddr (off := 1) rfl tF65_1d),
            ⟨.p rfl (by intro X; rintro _ _ ⟨rfl, rfl⟩; exact op_load1 rfl tO63d (Ent.lab (l := 601) rfl (says_cel 1))),
            ⟨.p rfl (by intro X; exact op_move rfl),
            ⟨.p rfl (by intro X; exact op_loadA rfl tA68d (Ent.lab (l := 8) rfl (says_cel 0)) (Nat.le_of_ble_eq_true rfl)),
            trivial⟩⟩⟩⟩⟩⟩)
            (fun β β' => ⟨fun _ => by rfl, ⟨fun _ => by rfl, ⟨fun _ => by rfl, ⟨fun _ => by rfl, ⟨fun _ => by rfl, ⟨fun _ => by rfl, trivial⟩⟩⟩⟩⟩⟩) ?_
        intro β
        rintro _ _ ⟨rfl, rfl⟩ _ _ ⟨rfl, rfl⟩ _ _ ⟨rfl, rfl⟩ _ _ ⟨rfl, rfl⟩ _ _ ⟨rfl, rfl⟩ _ _ ⟨rfl, rfl⟩
        refine wl_norm (e' := [(0, _), (56, _), (57, _), (58, _)]) (.cons rfl (.cons rfl (.cons rfl (.cons rfl (.nil _))))) (by dsimp only [cond_false, cond_true, List.nil_append, List.cons_append]) ?_
        refine wl_op0 [602] rfl rfl rfl (op_mapUpdate (kt := KL) (encV := encF) (lab := 602) (v := ⟨f.data ++ d, f.syn, f.dur⟩) rfl rfl rfl tQ63d) ?_
        rintro _ _ ⟨rfl, rfl⟩
        refine wl_nil ?_
        refine st_tn ?_
        refine w_seq ?_
        refine w_seq ?_
        refine w_region ?_
        refine wl_det rfl rfl rfl (op_move rfl) ?_
        refine wl_op [601] rfl rfl rfl rfl (op_fn Try.func36 rfl rfl rfl (operate_any (grown s n d) (hg.grown ((ready0 hc15).2 n (by simp)) hno (by omega)))) ?_
        rintro _ _ ⟨rfl, rfl⟩
        refine wl_det rfl rfl rfl (op_not rfl) ?_
        refine wl_nil ?_
        refine st_tn ?_
        refine w_cond rfl (fun hc61 => ?_) (fun hc61 => ?_)
        · -- c61.t
          refine w_seq ?_
          refine w_region ?_
          refine wl_det rfl rfl rfl (op_assign rfl) ?_
          refine wl_nil ?_
          refine st_tn ?_
          refine w_ret ?_
          refine st_tr ?_
          refine st_ret (vs := [_]) [601, 602] Try.results15 ⟨rfl, trivial⟩ rfl ?_
          refine ⟨[(601, _), (602, _)], rfl, ?_⟩
          rw [app_done hc15 hno (by omega), if_neg (by simpa using hc61)]; exact ⟨_, grown_perm hg hp hfd, rfl, rfl⟩
        · -- c61.f
          refine w_skip ?_
          refine st_tn ?_
          refine w_seq ?_
          refine w_region ?_
          refine wl_det rfl rfl rfl (op_assign rfl) ?_
          refine wl_nil ?_
          refine st_tn ?_
          refine w_ret ?_
          refine st_ret (vs := [_]) [601, 602] Try.results15 ⟨rfl, trivial⟩ rfl ?_
          refine ⟨[(601, _), (602, _)], rfl, ?_⟩
          rw [app_done hc15 hno (by omega), if_pos (by simpa using hc61)]; exact ⟨_, grown_perm hg hp hfd, rfl, rfl⟩
    · -- hf-
      have hff : find s.fs n = none := by simpa using hf
      have hfd : (find s.fs n).getD zeroF = zeroF := by rw [hff]; rfl
      have hfz : zeroF.data.length = 0 := rfl
      refine w_region ?_
      refine wl_det rfl rfl rfl (op_move rfl) ?_
      refine wl_det rfl rfl rfl (op_nilCheck rfl) ?_
      refine wl_det rfl rfl rfl (op_fieldAddr (off := 1) rfl tF65_1d) ?_
      refine wl_det rfl rfl rfl (op_load1 rfl tO63d (Ent.lab (l := 601) rfl (says_cel 1))) ?_
      refine wl_det rfl rfl rfl (op_move rfl) ?_
      refine wl_det rfl rfl rfl (op_val (v' := .tuple #[encF zeroF, .bool false]) (by exact look_val0 hlk hff) (op_lookup2 (kt := KL) (encV := encF) rfl rfl tQ63d tN68d (Mr.lab 602 rfl))) ?_
      refine wl_det rfl rfl rfl (op_move rfl) ?_
      refine wl_det rfl rfl rfl (op_extract rfl rfl) ?_
      refine wl_det rfl rfl rfl (op_extract rfl rfl) ?_
      refine wl_op [] rfl rfl rfl rfl (op_alloc (l := 8) tN68d) ?_
      rintro _ _ ⟨b8, rfl, rfl⟩
      refine wl_op0 [8] rfl rfl rfl (op_store rfl rfl tZ68d (by rfl) (by rfl) (by exact Nat.le_of_ble_eq_true rfl)) ?_
      rintro _ _ ⟨rfl, rfl⟩
      refine wl_det rfl rfl rfl (op_assign rfl) ?_
      refine wl_nil ?_
      refine st_tn ?_
      refine w_seq ?_
      refine w_block ?_
      refine w_seq ?_
      refine w_region ?_
      refine wl_det rfl rfl rfl (op_move rfl) ?_
      refine wl_det rfl rfl rfl (op_not_f rfl) ?_
      refine wl_det rfl rfl rfl (op_move rfl) ?_
      refine wl_wanted_det rfl rfl rfl rfl rfl rfl rfl (op_move rfl) ?_
      refine wl_wanted_det rfl rfl rfl rfl rfl rfl rfl (op_nilCheck rfl) ?_
      refine wl_wanted_det rfl rfl rfl rfl rfl rfl rfl (op_fieldAddr (off := 1) rfl tF65_1d) ?_
      refine wl_wanted_det rfl rfl rfl rfl rfl rfl rfl (op_load1 rfl tO63d (Ent.lab (l := 601) rfl (says_cel 1))) ?_
      refine wl_wanted_det rfl rfl rfl rfl rfl rfl rfl (op_lenM (kt := KL) (encV := encF) rfl tQ63d (Mr.lab 602 rfl)) ?_
      refine wl_wanted_det rfl rfl rfl rfl rfl rfl rfl (op_geq rfl rfl) ?_
      refine wl_det rfl rfl rfl (op_pick_t rfl rfl) ?_
      refine wl_det rfl rfl rfl (op_assign rfl) ?_
      refine wl_nil ?_
      refine st_tn ?_
      refine w_cond_d rfl (fun hc26 => ?_) (fun hc26 => ?_)
      · -- c26.t
        refine w_seq ?_
        refine w_region ?_
        refine wl_det rfl rfl rfl (op_assign rfl) ?_
        refine wl_nil ?_
        refine st_tn ?_
        refine w_ret ?_
        refine st_br ?_
        refine st_tr ?_
        refine st_ret (vs := [_]) [601, 602] Try.results15 ⟨rfl, trivial⟩ rfl ?_
        refine ⟨[(601, _), (602, _)], rfl, ?_⟩
        rw [app_limit hc15 hff (by omega)]; exact ⟨l, hp, rfl, rfl⟩
      · -- c26.f
        have hno : ¬ (find s.fs n = none ∧ 256 ≤ s.fs.length) := fun h => hc26 (by have := h.2; omega)
        refine w_seq ?_
        refine w_openM 602 rfl (fun bs ck hwf => ?_)
        refine w_drawW (fun β => [⟨38, [], [], [], noW (_), false, [], []⟩, ⟨39, [0], [], [], noW (_), false, [], []⟩, ⟨40, [], [], [], noW (_), false, [], []⟩, ⟨41, [2], [], [], noW (_), false, [], []⟩, ⟨42, [1, 3], [], [], noW (_), false, [], []⟩, ⟨43, [], [], [], noW (_), false, [], []⟩, ⟨44, [5], [], [], noW (_), false, [], []⟩, ⟨45, [6], [], [], noW (_), false, [], []⟩, ⟨46, [7], [], [], noW (_), false, [], []⟩]) [] [0, 2] [⟨38, [], [], false, [], []⟩, ⟨39, [0], [], false, [], []⟩, ⟨40, [], [], false, [], []⟩, ⟨41, [2], [], false, [], []⟩, ⟨42, [1, 3], [], false, [], []⟩, ⟨43, [], [], false, [], []⟩, ⟨44, [5], [], false, [], []⟩, ⟨45, [6], [], false, [], []⟩, ⟨46, [7], [], false, [], []⟩] [[], [], [], [], [], [], [], [], []] [[], [], [], [], [], [], [], [], []] tMixd (fun _ => by rfl) (fun _ => by rfl) (by kernel_rfl) (by kernel_rfl) (by rfl) (by rfl)
            (fun β => ⟨.p rfl (by intro X; exact op_move rfl),
            ⟨.p rfl (by intro X; rintro _ _ ⟨rfl, rfl⟩; exact op_val (v' := .int .i64 (used s.fs : Int)) (by rw [hdn]; rfl) (op_fn Try.func16 rfl rfl rfl (used_any (s := s) (bs := bs) (ck := ck) hg hp (Ent.lab (l := 601) rfl (says_cel 0)) (Me.lab 602 rfl)))),
            ⟨.p rfl (by intro X; exact op_move rfl),
            ⟨.p rfl (by intro X; rintro _ _ ⟨rfl, rfl⟩; exact op_lenBs rfl Try.underlying9),
            ⟨.p rfl (by intro X; rintro _ _ ⟨rfl, rfl⟩ _ _ ⟨rfl, rfl⟩; exact op_add' rfl rfl (by omega)),
            ⟨.p rfl (by intro X; exact op_move rfl),
            ⟨.p rfl (by intro X; rintro _ _ ⟨rfl, rfl⟩; exact op_nilCheck rfl),
            ⟨.p rfl (by intro X; rintro _ _ ⟨rfl, rfl⟩; exact op_fieldAddr (off := 0) rfl tF65_0d),
            ⟨.p rfl (by intro X; rintro _ _ ⟨rfl, rfl⟩; exact op_load1 rfl tO3d (Ent.lab (l := 601) rfl (says_cel 0))),
            trivial⟩⟩⟩⟩⟩⟩⟩⟩⟩)
            (fun β β' => ⟨fun _ => by rfl, ⟨fun _ => by rfl, ⟨fun _ => by rfl, ⟨fun _ => by rfl, ⟨fun _ => by rfl, ⟨fun _ => by rfl, ⟨fun _ => by rfl, ⟨fun _ => by rfl, ⟨fun _ => by rfl, trivial⟩⟩⟩⟩⟩⟩⟩⟩⟩) ?_
        intro β
        rintro _ _ ⟨rfl, rfl⟩ _ _ ⟨rfl, rfl⟩ _ _ ⟨rfl, rfl⟩ _ _ ⟨rfl, rfl⟩ _ _ ⟨rfl, rfl⟩ _ _ ⟨rfl, rfl⟩ _ _ ⟨rfl, rfl⟩ _ _ ⟨rfl, rfl⟩ _ _ ⟨rfl, rfl⟩
        refine wl_norm (e' := [(0, _), (1, _), (2, _), (8, _), (42, _), (46, _)]) (.cons rfl (.cons rfl (.cons rfl (.cons rfl (.cons rfl (.cons rfl (.nil _))))))) (by dsimp only [cond_false, cond_true, List.nil_append, List.cons_append]) ?_
        refine wl_det rfl rfl rfl (op_gtr rfl rfl) ?_
        refine wl_det rfl rfl rfl (op_assign rfl) ?_
        refine wl_nil ?_
        refine st_tn ?_
        refine w_cond_d rfl (fun hc37 => ?_) (fun hc37 => ?_)
        · -- c37.t
          refine w_seq ?_
          refine w_wk 602 (mp KL encF m l) rfl mpE_mp ?_
          refine w_region ?_
          refine wl_det rfl rfl rfl (op_assign rfl) ?_
          refine wl_nil ?_
          refine st_tn ?_
          refine w_ret ?_
          refine st_br ?_
          refine st_tr ?_
          refine st_ret (vs := [_]) [601, 602] Try.results15 ⟨rfl, trivial⟩ rfl ?_
          refine ⟨[(601, _), (602, _)], rfl, ?_⟩
          rw [app_full hc15 hno (by omega)]; exact ⟨l, hp, rfl, rfl⟩
        · -- c37.f
          refine w_skip ?_
          refine st_bn ?_
          refine st_tn ?_
          refine w_seq ?_
          refine w_wk 602 (mp KL encF m l) rfl mpE_mp ?_
          refine w_region ?_
          refine wl_det rfl rfl rfl (op_fieldAddr (off := 0) rfl tF68_0d) ?_
          refine wl_det rfl rfl rfl (op_load1 rfl tO9d (Ent.lab (l := 8) rfl (says_cel 0))) ?_
          refine wl_det rfl rfl rfl (op_move rfl) ?_
          refine wl_det rfl rfl rfl (op_catBs rfl rfl (by omega)) ?_
          refine wl_det rfl rfl rfl (op_fieldAddr (off := 0) rfl tF68_0d) ?_
          refine wl_op0 [8] rfl rfl rfl (op_store rfl rfl tZ9d (by rfl) (by rfl) (by exact Nat.le_of_ble_eq_true rfl)) ?_
          rintro _ _ ⟨rfl, rfl⟩
          refine wl_nil ?_
          refine st_tn ?_
          refine w_seq ?_
          refine w_drawW (fun β => [⟨53, [], [], [], noW (_), false, [], []⟩, ⟨54, [0], [], [], noW (_), false, [], []⟩, ⟨55, [1], [], [], noW (_), false, [], []⟩, ⟨56, [2], [], [], noW (_), false, [], []⟩, ⟨57, [], [], [], noW (_), false, [], []⟩, ⟨58, [], [], [], noW (_), false, [], []⟩]) [] [0, 1, 8] [⟨53, [], [], false, [], []⟩, ⟨54, [0], [], false, [], []⟩, ⟨55, [1], [], false, [], []⟩, ⟨56, [2], [], false, [], []⟩, ⟨57, [], [], false, [], []⟩, ⟨58, [], [], false, [], []⟩] [[], [], [], [], [], []] [[], [], [], [], [], []] tMixd (fun _ => by rfl) (fun _ => by rfl) (by kernel_rfl) (by kernel_rfl) (by rfl) (by rfl)
              (fun β => ⟨.p rfl (by intro X; exact op_move rfl),
              ⟨.p rfl (by intro X; rintro _ _ ⟨rfl, rfl⟩; exact op_nilCheck rfl),
              ⟨.p rfl (by intro X; rintro _ _ ⟨rfl, rfl⟩; exact op_fieldAddr (off := 1) rfl tF65_1d),
              ⟨.p rfl (by intro X; rintro _ _ ⟨rfl, rfl⟩; exact op_load1 rfl tO63d (Ent.lab (l := 601) rfl (says_cel 1))),
              ⟨.p rfl (by intro X; exact op_move rfl),
              ⟨.p rfl (by intro X; exact op_loadA rfl tA68d (Ent.lab (l := 8) rfl (says_cel 0)) (Nat.le_of_ble_eq_true rfl)),
              trivial⟩⟩⟩⟩⟩⟩)
              (fun β β' => ⟨fun _ => by rfl, ⟨fun _ => by rfl, ⟨fun _ => by rfl, ⟨fun _ => by rfl, ⟨fun _ => by rfl, ⟨fun _ => by rfl, trivial⟩⟩⟩⟩⟩⟩) ?_
          intro β
          rintro _ _ ⟨rfl, rfl⟩ _ _ ⟨rfl, rfl⟩ _ _ ⟨rfl, rfl⟩ _ _ ⟨rfl, rfl⟩ _ _ ⟨rfl, rfl⟩ _ _ ⟨rfl, rfl⟩
          refine wl_norm (e' := [(0, _), (56, _), (57, _), (58, _)]) (.cons rfl (.cons rfl (.cons rfl (.cons rfl (.nil _))))) (by dsimp only [cond_false, cond_true, List.nil_append, List.cons_append]) ?_
          refine wl_op0 [602] rfl rfl rfl (op_mapUpdate (kt := KL) (encV := encF) (lab := 602) (v := ⟨zeroF.data ++ d, zeroF.syn, zeroF.dur⟩) rfl rfl rfl tQ63d) ?_
          rintro _ _ ⟨rfl, rfl⟩
          refine wl_nil ?_
          refine st_tn ?_
          refine w_seq ?_
          refine w_seq ?_
          refine w_region ?_
          refine wl_det rfl rfl rfl (op_move rfl) ?_
          refine wl_op [601] rfl rfl rfl rfl (op_fn Try.func36 rfl rfl rfl (operate_any (grown s n d) (hg.grown ((ready0 hc15).2 n (by simp)) hno (by omega)))) ?_
          rintro _ _ ⟨rfl, rfl⟩
          refine wl_det rfl rfl rfl (op_not rfl) ?_
          refine wl_nil ?_
          refine st_tn ?_
          refine w_cond rfl (fun hc61 => ?_) (fun hc61 => ?_)
          · -- c61.t
            refine w_seq ?_
            refine w_region ?_
            refine wl_det rfl rfl rfl (op_assign rfl) ?_
            refine wl_nil ?_
            refine st_tn ?_
            refine w_ret ?_
            refine st_tr ?_
            refine st_ret (vs := [_]) [601, 602] Try.results15 ⟨rfl, trivial⟩ rfl ?_
            refine ⟨[(601, _), (602, _)], rfl, ?_⟩
            rw [app_done hc15 hno (by omega), if_neg (by simpa using hc61)]; exact ⟨_, grown_perm hg hp hfd, rfl, rfl⟩
          · -- c61.f
            refine w_skip ?_
            refine st_tn ?_
            refine w_seq ?_
            refine w_region ?_
            refine wl_det rfl rfl rfl (op_assign rfl) ?_
            refine wl_nil ?_
            refine st_tn ?_
            refine w_ret ?_
            refine st_ret (vs := [_]) [601, 602] Try.results15 ⟨rfl, trivial⟩ rfl ?_
            refine ⟨[(601, _), (602, _)], rfl, ?_⟩
            rw [app_done hc15 hno (by omega), if_pos (by simpa using hc61)]; exact ⟨_, grown_perm hg hp hfd, rfl, rfl⟩

theorem syn_ready {s : St} {n : Bs} (h : readyE s [n] ≠ 0) : synO s n = (readyE s [n], s) := by unfold synO; rw [if_pos h]
theorem syn_none {s : St} {n : Bs} (h : ¬ readyE s [n] ≠ 0) (h2 : find s.fs n = none) : synO s n = (10, s) := by unfold synO; rw [if_neg h, h2]
theorem syn_fail {s : St} {n : Bs} {f : Fl} (h : ¬ readyE s [n] ≠ 0) (h2 : find s.fs n = some f) (h3 : ¬ (oper s).1 = true) : synO s n = (27, (oper s).2) := by unfold synO; rw [if_neg h, h2]; exact if_neg h3
theorem syn_done {s : St} {n : Bs} {f : Fl} (h : ¬ readyE s [n] ≠ 0) (h2 : find s.fs n = some f) (h3 : (oper s).1 = true) : synO s n = (0, { (oper s).2 with fs := setS s.fs n ⟨f.data, f.data.length, true⟩ }) := by unfold synO; rw [if_neg h, h2]; exact if_pos h3
set_option maxHeartbeats 1000000 in
set_option maxRecDepth 100000 in
theorem sync_any {σ : World} {F : List Res} {b m : Nat} {s : St} {l : Files} (n : Bs) (hg : DskM.Good s) (hp : l.Perm s.fs) (hn : n.length ≤ maxLen) :
    FnT Try.prog σ F 21 [.pointer (some ⟨b, 0, none⟩), .string (str n)] [(601, cel b (cellD s m) 65), (602, mp KL encF m l)] (fun u ρ => ∃ l', l'.Perm (synO s n).2.fs ∧ u = .int .i64 (synO s n).1 ∧ ρ = [(601, cel b (cellD (synO s n).2 m) 65), (602, mp KL encF m l')]) := by
  refine fn_of 42 Try.func21 rfl Try.ntmps21 rfl ?_
  have hlk := look_fs hg hp n
  have hll := hp.length_eq
  refine w_seq ?_
  refine w_region ?_
  refine wl_det rfl rfl rfl (op_assign rfl) ?_
  refine wl_nil ?_
  refine st_tn ?_
  refine w_seq ?_
  refine w_seq ?_
  refine w_region ?_
  refine wl_det rfl rfl rfl (op_move rfl) ?_
  refine wl_det rfl rfl rfl (op_move rfl) ?_
  refine wl_op [] rfl rfl rfl rfl (op_buildSlice (enc := encT) (l := [_]) (lab := 10) tL48_1d rfl rfl (fun _ => rfl) rfl) ?_
  rintro _ _ ⟨a10, c10, rfl, rfl⟩
  refine wl_det rfl rfl rfl (op_fn Try.func35 rfl rfl rfl (ready_any (s := s) (m := m) (l := [n]) (celD 601 rfl) (Sl.lab 10 rfl (by simp [maxLen])) (by simpa using hn))) ?_
  refine wl_det rfl rfl rfl (op_assign rfl) ?_
  refine wl_nil ?_
  refine st_tn ?_
  refine w_seq ?_
  refine w_region ?_
  refine wl_det rfl rfl rfl (op_move rfl) ?_
  refine wl_det rfl rfl rfl (op_neq rfl rfl) ?_
  refine wl_nil ?_
  refine st_tn ?_
  refine w_cond_d rfl (fun hc13 => ?_) (fun hc13 => ?_)
  · -- c13.t
    refine w_seq ?_
    refine w_region ?_
    refine wl_det rfl rfl rfl (op_move rfl) ?_
    refine wl_det rfl rfl rfl (op_assign rfl) ?_
    refine wl_nil ?_
    refine st_tn ?_
    refine w_ret ?_
    refine st_tr ?_
    refine st_ret (vs := [_]) [601, 602] Try.results21 ⟨rfl, trivial⟩ rfl ?_
    refine ⟨[(601, _), (602, _)], rfl, ?_⟩
    rw [syn_ready hc13]; exact ⟨l, hp, rfl, rfl⟩
  · -- c13.f
    refine w_skip ?_
    refine st_tn ?_
    refine w_seq ?_
    by_cases hf : (find s.fs n).isSome = true
    · -- hf+
      obtain ⟨f, hff⟩ := Option.isSome_iff_exists.1 hf
      refine w_region ?_
      refine wl_det rfl rfl rfl (op_move rfl) ?_
      refine wl_det rfl rfl rfl (op_nilCheck rfl) ?_
      refine wl_det rfl rfl rfl (op_fieldAddr (off := 1) rfl tF65_1d) ?_
      refine wl_det rfl rfl rfl (op_load1 rfl tO63d (Ent.lab (l := 601) rfl (says_cel 1))) ?_
      refine wl_det rfl rfl rfl (op_move rfl) ?_
      refine wl_det rfl rfl rfl (op_val (v' := .tuple #[encF f, .bool true]) (by exact look_val hlk hff) (op_lookup2 (kt := KL) (encV := encF) rfl rfl tQ63d tN68d (Mr.lab 602 rfl))) ?_
      refine wl_det rfl rfl rfl (op_move rfl) ?_
      refine wl_det rfl rfl rfl (op_extract rfl rfl) ?_
      refine wl_det rfl rfl rfl (op_extract rfl rfl) ?_
      refine wl_op [] rfl rfl rfl rfl (op_alloc (l := 6) tN68d) ?_
      rintro _ _ ⟨b6, rfl, rfl⟩
      refine wl_op0 [6] rfl rfl rfl (op_store rfl rfl tZ68d (by rfl) (by rfl) (by exact Nat.le_of_ble_eq_true rfl)) ?_
      rintro _ _ ⟨rfl, rfl⟩
      refine wl_det rfl rfl rfl (op_assign rfl) ?_
      refine wl_nil ?_
      refine st_tn ?_
      refine w_seq ?_
      refine w_block ?_
      refine w_seq ?_
      refine w_region ?_
      refine wl_det rfl rfl rfl (op_move rfl) ?_
      refine wl_det rfl rfl rfl (op_not_t rfl) ?_
      refine wl_det rfl rfl rfl (op_assign rfl) ?_
      refine wl_nil ?_
      refine st_tn ?_
      refine w_cond_f (rfl) ?_
      refine w_seq ?_
      refine w_region ?_
      refine wl_det rfl rfl rfl (op_move rfl) ?_
      refine wl_op [601] rfl rfl rfl rfl (op_fn Try.func36 rfl rfl rfl (operate_any s hg)) ?_
      rintro _ _ ⟨rfl, rfl⟩
      refine wl_det rfl rfl rfl (op_not rfl) ?_
      refine wl_det rfl rfl rfl (op_assign rfl) ?_
      refine wl_nil ?_
      refine st_tn ?_
      refine w_cond rfl (fun hc27 => ?_) (fun hc27 => ?_)
      · -- c27.t
        refine w_seq ?_
        refine w_region ?_
        refine wl_det rfl rfl rfl (op_assign rfl) ?_
        refine wl_nil ?_
        refine st_tn ?_
        refine w_ret ?_
        refine st_br ?_
        refine st_tr ?_
        refine st_ret (vs := [_]) [601, 602] Try.results21 ⟨rfl, trivial⟩ rfl ?_
        refine ⟨[(601, _), (602, _)], rfl, ?_⟩
        rw [syn_fail hc13 hff (by simpa using hc27)]; exact ⟨_, oper_perm hp, rfl, rfl⟩
      · -- c27.f
        refine w_skip ?_
        refine st_bn ?_
        refine st_tn ?_
        refine w_seq ?_
        refine w_region ?_
        refine wl_det rfl rfl rfl (op_fieldAddr (off := 0) rfl tF68_0d) ?_
        refine wl_det rfl rfl rfl (op_load1 rfl tO9d (Ent.lab (l := 6) rfl (says_cel 0))) ?_
        refine wl_det rfl rfl rfl (op_lenBs rfl Try.underlying9) ?_
        refine wl_det rfl rfl rfl (op_fieldAddr (off := 1) rfl tF68_1d) ?_
        refine wl_op0 [6] rfl rfl rfl (op_store rfl rfl tZ3d (by rfl) (by rfl) (by exact Nat.le_of_ble_eq_true rfl)) ?_
        rintro _ _ ⟨rfl, rfl⟩
        refine wl_det rfl rfl rfl (op_fieldAddr (off := 2) rfl tF68_2d) ?_
        refine wl_op0 [6] rfl rfl rfl (op_store rfl rfl tZ4d (by rfl) (by rfl) (by exact Nat.le_of_ble_eq_true rfl)) ?_
        rintro _ _ ⟨rfl, rfl⟩
        refine wl_nil ?_
        refine st_tn ?_
        refine w_seq ?_
        refine w_drawW (fun β => [⟨36, [], [], [], noW (_), false, [], []⟩, ⟨37, [0], [], [], noW (_), false, [], []⟩, ⟨38, [1], [], [], noW (_), false, [], []⟩, ⟨39, [2], [], [], noW (_), false, [], []⟩, ⟨40, [], [], [], noW (_), false, [], []⟩, ⟨41, [], [], [], noW (_), false, [], []⟩]) [] [0, 1, 6] [⟨36, [], [], false, [], []⟩, ⟨37, [0], [], false, [], []⟩, ⟨38, [1], [], false, [], []⟩, ⟨39, [2], [], false, [], []⟩, ⟨40, [], [], false, [], []⟩, ⟨41, [], [], false, [], []⟩] [[], [], [], [], [], []] [[], [], [], [], [], []] tMixd (fun _ => by rfl) (fun _ => by rfl) (by kernel_rfl) (by kernel_rfl) (by rfl) (by rfl)
            (fun β => ⟨.p rfl (by intro X; exact op_move rfl),
            ⟨.p rfl (by intro X; rintro _ _ ⟨rfl, rfl⟩; exact op_nilCheck rfl),
            ⟨.p rfl (by intro X; rintro _ _ ⟨rfl, rfl⟩; exact op_fieldAddr (off := 1) rfl tF65_1d),
            ⟨.p rfl (by intro X; rintro _ _ ⟨rfl, rfl⟩; exact op_load1 rfl tO63d (Ent.lab (l := 601) rfl (says_cel 1))),
            ⟨.p rfl (by intro X; exact op_move rfl),
            ⟨.p rfl (by intro X; exact op_loadA rfl tA68d (Ent.lab (l := 6) rfl (says_cel 0)) (Nat.le_of_ble_eq_true rfl)),
            trivial⟩⟩⟩⟩⟩⟩)
            (fun β β' => ⟨fun _ => by rfl, ⟨fun _ => by rfl, ⟨fun _ => by rfl, ⟨fun _ => by rfl, ⟨fun _ => by rfl, ⟨fun _ => by rfl, trivial⟩⟩⟩⟩⟩⟩) ?_
        intro β
        rintro _ _ ⟨rfl, rfl⟩ _ _ ⟨rfl, rfl⟩ _ _ ⟨rfl, rfl⟩ _ _ ⟨rfl, rfl⟩ _ _ ⟨rfl, rfl⟩ _ _ ⟨rfl, rfl⟩
        refine wl_norm (e' := [(39, _), (40, _), (41, _)]) (.cons rfl (.cons rfl (.cons rfl (.nil _)))) (by dsimp only [cond_false, cond_true, List.nil_append, List.cons_append]) ?_
        refine wl_op0 [602] rfl rfl rfl (op_mapUpdate (kt := KL) (encV := encF) (lab := 602) (v := ⟨f.data, f.data.length, true⟩) rfl rfl rfl tQ63d) ?_
        rintro _ _ ⟨rfl, rfl⟩
        refine wl_nil ?_
        refine st_tn ?_
        refine w_seq ?_
        refine w_region ?_
        refine wl_det rfl rfl rfl (op_assign rfl) ?_
        refine wl_nil ?_
        refine st_tn ?_
        refine w_ret ?_
        refine st_ret (vs := [_]) [601, 602] Try.results21 ⟨rfl, trivial⟩ rfl ?_
        refine ⟨[(601, _), (602, _)], rfl, ?_⟩
        rw [syn_done hc13 hff (by simpa using hc27)]; exact ⟨_, set_perm hp hg.inc n _, rfl, rfl⟩
    · -- hf-
      have hff : find s.fs n = none := by simpa using hf
      refine w_region ?_
      refine wl_det rfl rfl rfl (op_move rfl) ?_
      refine wl_det rfl rfl rfl (op_nilCheck rfl) ?_
      refine wl_det rfl rfl rfl (op_fieldAddr (off := 1) rfl tF65_1d) ?_
      refine wl_det rfl rfl rfl (op_load1 rfl tO63d (Ent.lab (l := 601) rfl (says_cel 1))) ?_
      refine wl_det rfl rfl rfl (op_move rfl) ?_
      refine wl_det rfl rfl rfl (op_val (v' := .tuple #[encF zeroF, .bool false]) (by exact look_val0 hlk hff) (op_lookup2 (kt := KL) (encV := encF) rfl rfl tQ63d tN68d (Mr.lab 602 rfl))) ?_
      refine wl_det rfl rfl rfl (op_move rfl) ?_
      refine wl_det rfl rfl rfl (op_extract rfl rfl) ?_
      refine wl_det rfl rfl rfl (op_extract rfl rfl) ?_
      refine wl_op [] rfl rfl rfl rfl (op_alloc (l := 6) tN68d) ?_
      rintro _ _ ⟨b6, rfl, rfl⟩
      refine wl_op0 [6] rfl rfl rfl (op_store rfl rfl tZ68d (by rfl) (by rfl) (by exact Nat.le_of_ble_eq_true rfl)) ?_
      rintro _ _ ⟨rfl, rfl⟩
      refine wl_det rfl rfl rfl (op_assign rfl) ?_
      refine wl_nil ?_
      refine st_tn ?_
      refine w_seq ?_
      refine w_block ?_
      refine w_seq ?_
      refine w_region ?_
      refine wl_det rfl rfl rfl (op_move rfl) ?_
      refine wl_det rfl rfl rfl (op_not_f rfl) ?_
      refine wl_det rfl rfl rfl (op_assign rfl) ?_
      refine wl_nil ?_
      refine st_tn ?_
      refine w_cond_t (rfl) ?_
      refine w_seq ?_
      refine w_region ?_
      refine wl_det rfl rfl rfl (op_assign rfl) ?_
      refine wl_nil ?_
      refine st_tn ?_
      refine w_ret ?_
      refine st_br ?_
      refine st_tr ?_
      refine st_ret (vs := [_]) [601, 602] Try.results21 ⟨rfl, trivial⟩ rfl ?_
      refine ⟨[(601, _), (602, _)], rfl, ?_⟩
      rw [syn_none hc13 hff]; exact ⟨l, hp, rfl, rfl⟩

theorem ren_ready {s : St} {n o : Bs} (h : readyE s [n, o] ≠ 0) : renO s n o = (readyE s [n, o], s) := by unfold renO; rw [if_pos h]
theorem ren_none {s : St} {n o : Bs} (h : ¬ readyE s [n, o] ≠ 0) (h2 : find s.fs n = none) : renO s n o = (10, s) := by unfold renO; rw [if_neg h, h2]
theorem ren_fail {s : St} {n o : Bs} {f : Fl} (h : ¬ readyE s [n, o] ≠ 0) (h2 : find s.fs n = some f) (h3 : ¬ (oper s).1 = true) : renO s n o = (27, (oper s).2) := by unfold renO; rw [if_neg h, h2]; exact if_neg h3
theorem ren_done {s : St} {n o : Bs} {f : Fl} (h : ¬ readyE s [n, o] ≠ 0) (h2 : find s.fs n = some f) (h3 : (oper s).1 = true) : renO s n o = (0, { (oper s).2 with fs := setS (delS s.fs n) o f }) := by unfold renO; rw [if_neg h, h2]; exact if_pos h3
set_option maxHeartbeats 1000000 in
set_option maxRecDepth 100000 in
theorem rename_any {σ : World} {F : List Res} {b m : Nat} {s : St} {l : Files} (n o : Bs) (hg : DskM.Good s) (hp : l.Perm s.fs) (hn : n.length ≤ maxLen) (ho : o.length ≤ maxLen) :
    FnT Try.prog σ F 22 [.pointer (some ⟨b, 0, none⟩), .string (str n), .string (str o)] [(601, cel b (cellD s m) 65), (602, mp KL encF m l)] (fun u ρ => ∃ l', l'.Perm (renO s n o).2.fs ∧ u = .int .i64 (renO s n o).1 ∧ ρ = [(601, cel b (cellD (renO s n o).2 m) 65), (602, mp KL encF m l')]) := by
  refine fn_of 45 Try.func22 rfl Try.ntmps22 rfl ?_
  have hlk := look_fs hg hp n
  have hll := hp.length_eq
  refine w_seq ?_
  refine w_region ?_
  refine wl_det rfl rfl rfl (op_assign rfl) ?_
  refine wl_nil ?_
  refine st_tn ?_
  refine w_seq ?_
  refine w_seq ?_
  refine w_region ?_
  refine wl_det rfl rfl rfl (op_move rfl) ?_
  refine wl_det rfl rfl rfl (op_move rfl) ?_
  refine wl_det rfl rfl rfl (op_move rfl) ?_
  refine wl_op [] rfl rfl rfl rfl (op_buildSlice (enc := encT) (l := [_, _]) (lab := 13) tL48_2d rfl rfl (fun _ => rfl) rfl) ?_
  rintro _ _ ⟨a13, c13, rfl, rfl⟩
  refine wl_det rfl rfl rfl (op_fn Try.func35 rfl rfl rfl (ready_any (s := s) (m := m) (l := [n, o]) (celD 601 rfl) (Sl.lab 13 rfl (by simp [maxLen])) (by intro x hx; simp only [List.mem_cons, List.not_mem_nil, or_false] at hx; rcases hx with rfl | rfl <;> assumption))) ?_
  refine wl_det rfl rfl rfl (op_assign rfl) ?_
  refine wl_nil ?_
  refine st_tn ?_
  refine w_seq ?_
  refine w_region ?_
  refine wl_det rfl rfl rfl (op_move rfl) ?_
  refine wl_det rfl rfl rfl (op_neq rfl rfl) ?_
  refine wl_nil ?_
  refine st_tn ?_
  refine w_cond_d rfl (fun hc16 => ?_) (fun hc16 => ?_)
  · -- c16.t
    refine w_seq ?_
    refine w_region ?_
    refine wl_det rfl rfl rfl (op_move rfl) ?_
    refine wl_det rfl rfl rfl (op_assign rfl) ?_
    refine wl_nil ?_
    refine st_tn ?_
    refine w_ret ?_
    refine st_tr ?_
    refine st_ret (vs := [_]) [601, 602] Try.results22 ⟨rfl, trivial⟩ rfl ?_
    refine ⟨[(601, _), (602, _)], rfl, ?_⟩
    rw [ren_ready hc16]; exact ⟨l, hp, rfl, rfl⟩
  · -- c16.f
    refine w_skip ?_
    refine st_tn ?_
    refine w_seq ?_
    by_cases hf : (find s.fs n).isSome = true
    · -- hf+
      obtain ⟨f, hff⟩ := Option.isSome_iff_exists.1 hf
      refine w_region ?_
      refine wl_det rfl rfl rfl (op_move rfl) ?_
      refine wl_det rfl rfl rfl (op_nilCheck rfl) ?_
      refine wl_det rfl rfl rfl (op_fieldAddr (off := 1) rfl tF65_1d) ?_
      refine wl_det rfl rfl rfl (op_load1 rfl tO63d (Ent.lab (l := 601) rfl (says_cel 1))) ?_
      refine wl_det rfl rfl rfl (op_move rfl) ?_
      refine wl_det rfl rfl rfl (op_val (v' := .tuple #[encF f, .bool true]) (by exact look_val hlk hff) (op_lookup2 (kt := KL) (encV := encF) rfl rfl tQ63d tN68d (Mr.lab 602 rfl))) ?_
      refine wl_det rfl rfl rfl (op_move rfl) ?_
      refine wl_det rfl rfl rfl (op_extract rfl rfl) ?_
      refine wl_det rfl rfl rfl (op_extract rfl rfl) ?_
      refine wl_op [] rfl rfl rfl rfl (op_alloc (l := 8) tN68d) ?_
      rintro _ _ ⟨b8, rfl, rfl⟩
      refine wl_op0 [8] rfl rfl rfl (op_store rfl rfl tZ68d (by rfl) (by rfl) (by exact Nat.le_of_ble_eq_true rfl)) ?_
      rintro _ _ ⟨rfl, rfl⟩
      refine wl_det rfl rfl rfl (op_assign rfl) ?_
      refine wl_nil ?_
      refine st_tn ?_
      refine w_seq ?_
      refine w_block ?_
      refine w_seq ?_
      refine w_region ?_
      refine wl_det rfl rfl rfl (op_move rfl) ?_
      refine wl_det rfl rfl rfl (op_not_t rfl) ?_
      refine wl_det rfl rfl rfl (op_assign rfl) ?_
      refine wl_nil ?_
      refine st_tn ?_
      refine w_cond_f (rfl) ?_
      refine w_seq ?_
      refine w_region ?_
      refine wl_det rfl rfl rfl (op_move rfl) ?_
      refine wl_op [601] rfl rfl rfl rfl (op_fn Try.func36 rfl rfl rfl (operate_any s hg)) ?_
      rintro _ _ ⟨rfl, rfl⟩
      refine wl_det rfl rfl rfl (op_not rfl) ?_
      refine wl_det rfl rfl rfl (op_assign rfl) ?_
      refine wl_nil ?_
      refine st_tn ?_
      refine w_cond rfl (fun hc30 => ?_) (fun hc30 => ?_)
      · -- c30.t
        refine w_seq ?_
        refine w_region ?_
        refine wl_det rfl rfl rfl (op_assign rfl) ?_
        refine wl_nil ?_
        refine st_tn ?_
        refine w_ret ?_
        refine st_br ?_
        refine st_tr ?_
        refine st_ret (vs := [_]) [601, 602] Try.results22 ⟨rfl, trivial⟩ rfl ?_
        refine ⟨[(601, _), (602, _)], rfl, ?_⟩
        rw [ren_fail hc16 hff (by simpa using hc30)]; exact ⟨_, oper_perm hp, rfl, rfl⟩
      · -- c30.f
        refine w_skip ?_
        refine st_bn ?_
        refine st_tn ?_
        refine w_seq ?_
        refine w_region ?_
        refine wl_det rfl rfl rfl (op_move rfl) ?_
        refine wl_det rfl rfl rfl (op_nilCheck rfl) ?_
        refine wl_det rfl rfl rfl (op_fieldAddr (off := 1) rfl tF65_1d) ?_
        refine wl_det rfl rfl rfl (op_load1 rfl tO63d (Ent.lab (l := 601) rfl (says_cel 1))) ?_
        refine wl_det rfl rfl rfl (op_move rfl) ?_
        refine wl_op0 [602] rfl rfl rfl (op_delete (kt := KL) (encV := encF) (lab := 602) rfl rfl tQ63d) ?_
        rintro _ _ ⟨rfl, rfl⟩
        refine wl_nil ?_
        refine st_tn ?_
        refine w_seq ?_
        refine w_drawW (fun β => [⟨39, [], [], [], noW (_), false, [], []⟩, ⟨40, [0], [], [], noW (_), false, [], []⟩, ⟨41, [1], [], [], noW (_), false, [], []⟩, ⟨42, [2], [], [], noW (_), false, [], []⟩, ⟨43, [], [], [], noW (_), false, [], []⟩, ⟨44, [], [], [], noW (_), false, [], []⟩]) [] [0, 2, 8] [⟨39, [], [], false, [], []⟩, ⟨40, [0], [], false, [], []⟩, ⟨41, [1], [], false, [], []⟩, ⟨42, [2], [], false, [], []⟩, ⟨43, [], [], false, [], []⟩, ⟨44, [], [], false, [], []⟩] [[], [], [], [], [], []] [[], [], [], [], [], []] tMixd (fun _ => by rfl) (fun _ => by rfl) (by kernel_rfl) (by kernel_rfl) (by rfl) (by rfl)
            (fun β => ⟨.p rfl (by intro X; exact op_move rfl),
            ⟨.p rfl (by intro X; rintro _ _ ⟨rfl, rfl⟩; exact op_nilCheck rfl),
            ⟨.p rfl (by intro X; rintro _ _ ⟨rfl, rfl⟩; exact op_fieldAddr (off := 1) rfl tF65_1d),
            ⟨.p rfl (by intro X; rintro _ _ ⟨rfl, rfl⟩; exact op_load1 rfl tO63d (Ent.lab (l := 601) rfl (says_cel 1))),
            ⟨.p rfl (by intro X; exact op_move rfl),
            ⟨.p rfl (by intro X; exact op_loadA rfl tA68d (Ent.lab (l := 8) rfl (says_cel 0)) (Nat.le_of_ble_eq_true rfl)),
            trivial⟩⟩⟩⟩⟩⟩)
            (fun β β' => ⟨fun _ => by rfl, ⟨fun _ => by rfl, ⟨fun _ => by rfl, ⟨fun _ => by rfl, ⟨fun _ => by rfl, ⟨fun _ => by rfl, trivial⟩⟩⟩⟩⟩⟩) ?_
        intro β
        rintro _ _ ⟨rfl, rfl⟩ _ _ ⟨rfl, rfl⟩ _ _ ⟨rfl, rfl⟩ _ _ ⟨rfl, rfl⟩ _ _ ⟨rfl, rfl⟩ _ _ ⟨rfl, rfl⟩
        refine wl_norm (e' := [(42, _), (43, _), (44, _)]) (.cons rfl (.cons rfl (.cons rfl (.nil _)))) (by dsimp only [cond_false, cond_true, List.nil_append, List.cons_append]) ?_
        refine wl_op0 [602] rfl rfl rfl (op_mapUpdate (kt := KL) (encV := encF) (lab := 602) (v := f) rfl rfl rfl tQ63d) ?_
        rintro _ _ ⟨rfl, rfl⟩
        refine wl_nil ?_
        refine st_tn ?_
        refine w_seq ?_
        refine w_region ?_
        refine wl_det rfl rfl rfl (op_assign rfl) ?_
        refine wl_nil ?_
        refine st_tn ?_
        refine w_ret ?_
        refine st_ret (vs := [_]) [601, 602] Try.results22 ⟨rfl, trivial⟩ rfl ?_
        refine ⟨[(601, _), (602, _)], rfl, ?_⟩
        rw [ren_done hc16 hff (by simpa using hc30)]; exact ⟨_, set_perm (del_perm hp hg.inc n) hg.inc.del o _, rfl, rfl⟩
    · -- hf-
      have hff : find s.fs n = none := by simpa using hf
      refine w_region ?_
      refine wl_det rfl rfl rfl (op_move rfl) ?_
      refine wl_det rfl rfl rfl (op_nilCheck rfl) ?_
      refine wl_det rfl rfl rfl (op_fieldAddr (off := 1) rfl tF65_1d) ?_
      refine wl_det rfl rfl rfl (op_load1 rfl tO63d (Ent.lab (l := 601) rfl (says_cel 1))) ?_
      refine wl_det rfl rfl rfl (op_move rfl) ?_
      refine wl_det rfl rfl rfl (op_val (v' := .tuple #[encF zeroF, .bool false]) (by exact look_val0 hlk hff) (op_lookup2 (kt := KL) (encV := encF) rfl rfl tQ63d tN68d (Mr.lab 602 rfl))) ?_
      refine wl_det rfl rfl rfl (op_move rfl) ?_
      refine wl_det rfl rfl rfl (op_extract rfl rfl) ?_
      refine wl_det rfl rfl rfl (op_extract rfl rfl) ?_
      refine wl_op [] rfl rfl rfl rfl (op_alloc (l := 8) tN68d) ?_
      rintro _ _ ⟨b8, rfl, rfl⟩
      refine wl_op0 [8] rfl rfl rfl (op_store rfl rfl tZ68d (by rfl) (by rfl) (by exact Nat.le_of_ble_eq_true rfl)) ?_
      rintro _ _ ⟨rfl, rfl⟩
      refine wl_det rfl rfl rfl (op_assign rfl) ?_
      refine wl_nil ?_
      refine st_tn ?_
      refine w_seq ?_
      refine w_block ?_
      refine w_seq ?_
      refine w_region ?_
      refine wl_det rfl rfl rfl (op_move rfl) ?_
      refine wl_det rfl rfl rfl (op_not_f rfl) ?_
      refine wl_det rfl rfl rfl (op_assign rfl) ?_
      refine wl_nil ?_
      refine st_tn ?_
      refine w_cond_t (rfl) ?_
      refine w_seq ?_
      refine w_region ?_
      refine wl_det rfl rfl rfl (op_assign rfl) ?_
      refine wl_nil ?_
      refine st_tn ?_
      refine w_ret ?_
      refine st_br ?_
      refine st_tr ?_
      refine st_ret (vs := [_]) [601, 602] Try.results22 ⟨rfl, trivial⟩ rfl ?_
      refine ⟨[(601, _), (602, _)], rfl, ?_⟩
      rw [ren_none hc16 hff]; exact ⟨l, hp, rfl, rfl⟩

theorem rem_ready {s : St} {n : Bs} (h : readyE s [n] ≠ 0) : remO s n = (readyE s [n], s) := by unfold remO; rw [if_pos h]
theorem rem_find {s : St} {n : Bs} (h : (findO s n).2 ≠ 0) : remO s n = ((findO s n).2, s) := by
  unfold findO at h ⊢
  by_cases hr : readyE s [n] ≠ 0
  · rw [if_pos hr]; exact rem_ready hr
  · rw [if_neg hr] at h ⊢
    unfold remO; rw [if_neg hr]
    cases hf : find s.fs n with
    | none => rfl
    | some f => rw [hf] at h; exact absurd rfl h
theorem find_ok {s : St} {n : Bs} (h : ¬ (findO s n).2 ≠ 0) : ¬ readyE s [n] ≠ 0 ∧ ∃ f, find s.fs n = some f := by
  unfold findO at h
  by_cases hr : readyE s [n] ≠ 0
  · rw [if_pos hr] at h; exact absurd hr h
  · refine ⟨hr, ?_⟩
    rw [if_neg hr] at h
    cases hf : find s.fs n with
    | none => rw [hf] at h; simp at h
    | some f => exact ⟨f, rfl⟩
theorem rem_fail {s : St} {n : Bs} {f : Fl} (h : ¬ readyE s [n] ≠ 0) (h2 : find s.fs n = some f) (h3 : ¬ (oper s).1 = true) : remO s n = (27, (oper s).2) := by unfold remO; rw [if_neg h, h2]; exact if_neg h3
theorem rem_done {s : St} {n : Bs} {f : Fl} (h : ¬ readyE s [n] ≠ 0) (h2 : find s.fs n = some f) (h3 : (oper s).1 = true) : remO s n = (0, { (oper s).2 with fs := delS s.fs n }) := by unfold remO; rw [if_neg h, h2]; exact if_pos h3
set_option maxHeartbeats 400000 in
set_option maxRecDepth 100000 in
theorem remove_any {σ : World} {F : List Res} {b m : Nat} {s : St} {l : Files} (n : Bs) (hg : DskM.Good s) (hp : l.Perm s.fs) (hn : n.length ≤ maxLen) :
    FnT Try.prog σ F 17 [.pointer (some ⟨b, 0, none⟩), .string (str n)] [(601, cel b (cellD s m) 65), (602, mp KL encF m l)] (fun u ρ => ∃ l', l'.Perm (remO s n).2.fs ∧ u = .int .i64 (remO s n).1 ∧ ρ = [(601, cel b (cellD (remO s n).2 m) 65), (602, mp KL encF m l')]) := by
  refine fn_of 24 Try.func17 rfl Try.ntmps17 rfl ?_
  refine w_seq ?_
  refine w_region ?_
  refine wl_det rfl rfl rfl (op_assign rfl) ?_
  refine wl_nil ?_
  refine st_tn ?_
  refine w_seq ?_
  refine w_seq ?_
  refine w_region ?_
  refine wl_det rfl rfl rfl (op_move rfl) ?_
  refine wl_det rfl rfl rfl (op_move rfl) ?_
  refine wl_det rfl rfl rfl (op_fn Try.func37 rfl rfl rfl (find_any (s := s) (m := m) n hg hp hn (celD 601 rfl) (Mr.lab 602 rfl))) ?_
  refine wl_det rfl rfl rfl (op_move rfl) ?_
  refine wl_det rfl rfl rfl (op_extract rfl rfl) ?_
  refine wl_det rfl rfl rfl (op_extract rfl rfl) ?_
  refine wl_op [] rfl rfl rfl rfl (op_alloc (l := 5) tN68d) ?_
  rintro _ _ ⟨b5, rfl, rfl⟩
  refine wl_op0 [5] rfl rfl rfl (op_store rfl rfl tZ68d (by rfl) (by rfl) (by exact Nat.le_of_ble_eq_true rfl)) ?_
  rintro _ _ ⟨rfl, rfl⟩
  refine wl_det rfl rfl rfl (op_assign rfl) ?_
  refine wl_nil ?_
  refine st_tn ?_
  refine w_seq ?_
  refine w_region ?_
  refine wl_det rfl rfl rfl (op_move rfl) ?_
  refine wl_det rfl rfl rfl (op_neq rfl rfl) ?_
  refine wl_nil ?_
  refine st_tn ?_
  refine w_cond_d rfl (fun hc14 => ?_) (fun hc14 => ?_)
  · -- c14.t
    refine w_seq ?_
    refine w_region ?_
    refine wl_det rfl rfl rfl (op_move rfl) ?_
    refine wl_det rfl rfl rfl (op_assign rfl) ?_
    refine wl_nil ?_
    refine st_tn ?_
    refine w_ret ?_
    refine st_tr ?_
    refine st_ret (vs := [_]) [601, 602] Try.results17 ⟨rfl, trivial⟩ rfl ?_
    refine ⟨[(601, _), (602, _)], rfl, ?_⟩
    rw [rem_find hc14]; exact ⟨l, hp, rfl, rfl⟩
  · -- c14.f
    obtain ⟨hr, f, hff⟩ := find_ok hc14
    refine w_skip ?_
    refine st_tn ?_
    refine w_seq ?_
    refine w_seq ?_
    refine w_region ?_
    refine wl_det rfl rfl rfl (op_move rfl) ?_
    refine wl_op [601] rfl rfl rfl rfl (op_fn Try.func36 rfl rfl rfl (operate_any s hg)) ?_
    rintro _ _ ⟨rfl, rfl⟩
    refine wl_det rfl rfl rfl (op_not rfl) ?_
    refine wl_nil ?_
    refine st_tn ?_
    refine w_cond rfl (fun hc18 => ?_) (fun hc18 => ?_)
    · -- c18.t
      refine w_seq ?_
      refine w_region ?_
      refine wl_det rfl rfl rfl (op_assign rfl) ?_
      refine wl_nil ?_
      refine st_tn ?_
      refine w_ret ?_
      refine st_tr ?_
      refine st_ret (vs := [_]) [601, 602] Try.results17 ⟨rfl, trivial⟩ rfl ?_
      refine ⟨[(601, _), (602, _)], rfl, ?_⟩
      rw [rem_fail hr hff (by simpa using hc18)]; exact ⟨_, oper_perm hp, rfl, rfl⟩
    · -- c18.f
      refine w_skip ?_
      refine st_tn ?_
      refine w_seq ?_
      refine w_region ?_
      refine wl_det rfl rfl rfl (op_move rfl) ?_
      refine wl_det rfl rfl rfl (op_nilCheck rfl) ?_
      refine wl_det rfl rfl rfl (op_fieldAddr (off := 1) rfl tF65_1d) ?_
      refine wl_det rfl rfl rfl (op_load1 rfl tO63d (Ent.lab (l := 601) rfl (says_cel 1))) ?_
      refine wl_det rfl rfl rfl (op_move rfl) ?_
      refine wl_op0 [602] rfl rfl rfl (op_delete (kt := KL) (encV := encF) (lab := 602) rfl rfl tQ63d) ?_
      rintro _ _ ⟨rfl, rfl⟩
      refine wl_nil ?_
      refine st_tn ?_
      refine w_seq ?_
      refine w_region ?_
      refine wl_det rfl rfl rfl (op_assign rfl) ?_
      refine wl_nil ?_
      refine st_tn ?_
      refine w_ret ?_
      refine st_ret (vs := [_]) [601, 602] Try.results17 ⟨rfl, trivial⟩ rfl ?_
      refine ⟨[(601, _), (602, _)], rfl, ?_⟩
      rw [rem_done hr hff (by simpa using hc18)]; exact ⟨_, del_perm hp hg.inc n, rfl, rfl⟩

end Go.Proofs.Ytjlbeakdgadpmaa
