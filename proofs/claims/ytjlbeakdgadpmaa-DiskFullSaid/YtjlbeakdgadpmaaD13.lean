/- Contracts: perform, known (layer 26). Conditions: none. -/
import Derived.Test.YtjlbeakdgadpmaaD12
namespace Go.Proofs.Ytjlbeakdgadpmaa
open Go Go.SL Go.RowKit Go.DskM
set_option linter.unusedVariables false
set_option linter.unusedSimpArgs false
theorem tF36_2m : fieldB Try.prog 36 2 2 = true := by kernel_rfl
theorem tF36_3m : fieldB Try.prog 36 3 3 = true := by kernel_rfl
theorem tF36_4m : fieldB Try.prog 36 4 4 = true := by kernel_rfl
theorem tF43_0m : fieldB Try.prog 43 0 0 = true := by kernel_rfl
theorem tF43_1m : fieldB Try.prog 43 1 1 = true := by kernel_rfl
theorem tF43_2m : fieldB Try.prog 43 2 2 = true := by kernel_rfl
theorem tF43_3m : fieldB Try.prog 43 3 3 = true := by kernel_rfl
theorem tF43_4m : fieldB Try.prog 43 4 4 = true := by kernel_rfl
theorem tF43_5m : fieldB Try.prog 43 5 5 = true := by kernel_rfl
theorem tMixm : Try.prog.follows .mixedOrders = true := by kernel_rfl
theorem tO3m : oneB Try.prog 3 = true := by kernel_rfl
theorem tO41m : oneB Try.prog 41 = true := by kernel_rfl
theorem tO5m : oneB Try.prog 5 = true := by kernel_rfl
theorem tO9m : oneB Try.prog 9 = true := by kernel_rfl
theorem tS41m : sliceB Try.prog 41 3 1 = true := by kernel_rfl
theorem tZ3m : (Try.prog.info? 3).map (·.size) = some 1 := by kernel_rfl
theorem tZ4m : (Try.prog.info? 4).map (·.size) = some 1 := by kernel_rfl

/-- An operation of the law. -/
structure Opr where
  k : Int
  n : Int
  o : Int
  d : Bs
  z : Int
  sc : List Int
structure OkO (x : Opr) : Prop where
  k : 0 ≤ x.k ∧ x.k ≤ 255
  n : 0 ≤ x.n ∧ x.n ≤ 255
  o : 0 ≤ x.o ∧ x.o ≤ 255
  d : x.d.length ≤ maxLen
  z : -9223372036854775808 ≤ x.z ∧ x.z ≤ 9223372036854775807
def perfS (s : St) (x : Opr) : St :=
  if x.k % 12 ≤ 2 then (appO s (nmN x.n) (x.d.take 40)).2
  else if x.k % 12 ≤ 4 then (synO s (nmN x.n)).2
  else if x.k % 12 = 5 then (renO s (nmN x.n) (nmN x.o)).2
  else if x.k % 12 = 6 then (remO s (nmN x.n)).2
  else if x.k % 12 = 7 then limO s x.z
  else if x.k % 12 = 8 then craO s
  else if x.k % 12 ≤ 10 then staO s (x.sc.take 10)
  else s
theorem Good.perf {s : St} (h : DskM.Good s) {x : Opr} (hx : OkO x) : DskM.Good (perfS s x) := by
  unfold perfS
  repeat' split
  · exact h.app _ _
  · exact h.syn_ _
  · exact h.ren _ _
  · exact h.rem _
  · exact h.lim_ hx.z.2
  · exact h.cra
  · exact h.sta _
  · exact h
/-- A disk and its model, in one state. -/
def Both (b m bs : Nat) (s : St) (ρ : RL) : Prop := ∃ l a mm c, l.Perm s.fs ∧ ρ = [(601, cel b (cellD s m) 65), (602, mp KL encF m l), (603, cel bs (cellS s a mm c) 36), (604, slW 51 encM 4 (.slice a mm c) s.fs)]
theorem take_min {α : Type} (l : List α) (k : Nat) : l.take (min l.length k) = l.take k := by
  rcases Nat.le_total l.length k with h | h
  · rw [Nat.min_eq_left h, List.take_of_length_le (Nat.le_refl _), List.take_of_length_le h]
  · rw [Nat.min_eq_right h]
set_option maxHeartbeats 8000000 in
set_option maxRecDepth 100000 in
theorem perform_any {σ : World} {F : List Res} {b m bs : Nat} {s : St} {l : Files} {a : Option Addr} {mm c : Nat} {ax : Option Addr} {cx : Nat} {x : Opr} (hg : DskM.Good s) (hp : l.Perm s.fs) (hx : OkO x) (hsc : Sl σ F SL.encZ 1 (.slice ax x.sc.length cx) x.sc) :
    FnT Try.prog σ F 24 [.pointer (some ⟨b, 0, none⟩), .pointer (some ⟨bs, 0, none⟩), .agg #[.int .u8 x.k, .int .u8 x.n, .int .u8 x.o, .string (str x.d), .int .i64 x.z, .slice ax x.sc.length cx]] [(601, cel b (cellD s m) 65), (602, mp KL encF m l), (603, cel bs (cellS s a mm c) 36), (604, slW 51 encM 4 (.slice a mm c) s.fs)] (fun u ρ => u = .bool true ∧ Both b m bs (perfS s x) ρ) := by
  refine fn_of 158 Try.func24 rfl Try.ntmps24 rfl ?_
  have hcnt := hg.cnt
  have hk := hx.k
  have hxn := hx.n
  have hxo := hx.o
  have hxd := hx.d
  have hsl := hsc.i64
  have htd : (x.d.take 40).length ≤ 1099511627776 := by rw [List.length_take]; omega
  have hs10 : Sl σ F SL.encZ 1 (.slice (SL.sub ax cx 0 1) (x.sc.take 10).length (cx - 0)) (x.sc.take 10) := by
    have h1 := hsc.takeR (hi := min x.sc.length 10) (by omega)
    rw [take_min] at h1
    have h2 : min x.sc.length 10 - 0 = (x.sc.take 10).length := by rw [List.length_take]; omega
    rwa [h2] at h1
  unfold maxLen at hxd
  refine w_seq ?_
  refine w_region ?_
  refine wl_op [] rfl rfl rfl rfl (op_box (T := 43) (l := 5) rfl) ?_
  rintro _ _ ⟨b5, rfl, rfl⟩
  refine wl_det rfl rfl rfl (op_assign rfl) ?_
  refine wl_nil ?_
  refine st_tn ?_
  refine w_seq ?_
  refine w_drawW (fun β => [⟨19, [], [], [], noW (_), false, [], []⟩, ⟨20, [0], [], [], noW (_), false, [], []⟩, ⟨21, [1], [], [], noW (_), false, [], []⟩, ⟨22, [], [], [], noW (_), false, [], []⟩, ⟨23, [3], [], [], noW (_), false, [], []⟩]) [] [5] [⟨19, [], [], false, [], []⟩, ⟨20, [0], [], false, [], []⟩, ⟨21, [1], [], false, [], []⟩, ⟨22, [], [], false, [], []⟩, ⟨23, [3], [], false, [], []⟩] [[], [], [], [], []] [[], [], [], [], []] tMixm (fun _ => by rfl) (fun _ => by rfl) (by kernel_rfl) (by kernel_rfl) (by rfl) (by rfl)
      (fun β => ⟨.p rfl (by intro X; exact op_fieldAddr (off := 1) rfl tF43_1m),
      ⟨.p rfl (by intro X; rintro _ _ ⟨rfl, rfl⟩; exact op_load1 rfl tO5m (Ent.lab (l := 5) rfl (says_cel 1))),
      ⟨.p rfl (by intro X; rintro _ _ ⟨rfl, rfl⟩; exact op_fn Try.func20 rfl rfl rfl (name_any _ hxn)),
      ⟨.p rfl (by intro X; exact op_fieldAddr (off := 2) rfl tF43_2m),
      ⟨.p rfl (by intro X; rintro _ _ ⟨rfl, rfl⟩; exact op_load1 rfl tO5m (Ent.lab (l := 5) rfl (says_cel 2))),
      trivial⟩⟩⟩⟩⟩)
      (fun β β' => ⟨fun _ => by rfl, ⟨fun _ => by rfl, ⟨fun _ => by rfl, ⟨fun _ => by rfl, ⟨fun _ => by rfl, trivial⟩⟩⟩⟩⟩) ?_
  intro β
  rintro _ _ ⟨rfl, rfl⟩ _ _ ⟨rfl, rfl⟩ _ _ ⟨rfl, rfl⟩ _ _ ⟨rfl, rfl⟩ _ _ ⟨rfl, rfl⟩
  refine wl_norm (e' := [(0, _), (1, _), (5, _), (21, _), (23, _)]) (.cons rfl (.cons rfl (.cons rfl (.cons rfl (.cons rfl (.nil _)))))) (by dsimp only [cond_false, cond_true, List.nil_append, List.cons_append]) ?_
  refine wl_det rfl rfl rfl (op_fn Try.func20 rfl rfl rfl (name_any _ hxo)) ?_
  refine wl_det rfl rfl rfl (op_assign rfl) ?_
  refine wl_det rfl rfl rfl (op_assign rfl) ?_
  refine wl_nil ?_
  refine st_tn ?_
  refine w_seq ?_
  refine w_region ?_
  refine wl_det rfl rfl rfl (op_fieldAddr (off := 3) rfl tF43_3m) ?_
  refine wl_det rfl rfl rfl (op_load1 rfl tO9m (Ent.lab (l := 5) rfl (says_cel 3))) ?_
  refine wl_det rfl rfl rfl (op_fieldAddr (off := 3) rfl tF43_3m) ?_
  refine wl_det rfl rfl rfl (op_load1 rfl tO9m (Ent.lab (l := 5) rfl (says_cel 3))) ?_
  refine wl_det rfl rfl rfl (op_lenBs rfl Try.underlying9) ?_
  refine wl_det rfl rfl rfl (op_val (v' := .int .i64 ((min x.d.length 40 : Nat) : Int)) (by congr 1; omega) (op_min rfl rfl)) ?_
  refine wl_det rfl rfl rfl (op_val (v' := .string (str (x.d.take 40))) (by rw [take_min]) (op_sliceRBs rfl rfl Try.underlying9 (by omega))) ?_
  refine wl_det rfl rfl rfl (op_assign rfl) ?_
  refine wl_nil ?_
  refine st_tn ?_
  refine w_seq ?_
  refine w_seq ?_
  refine w_region ?_
  refine wl_det rfl rfl rfl (op_fieldAddr (off := 0) rfl tF43_0m) ?_
  refine wl_det rfl rfl rfl (op_load1 rfl tO5m (Ent.lab (l := 5) rfl (says_cel 0))) ?_
  refine wl_det rfl rfl rfl (op_remN rfl rfl (by omega) (by omega)) ?_
  refine wl_nil ?_
  refine st_tn ?_
  refine w_block ?_
  refine w_seq ?_
  refine w_seq ?_
  by_cases h0 : x.k % 12 = 0
  · -- h0+
    refine w_region ?_
    refine wl_det rfl rfl rfl (op_val (v' := .bool true) (by simp [h0]) (op_eql rfl rfl)) ?_
    refine wl_det rfl rfl rfl (op_assign rfl) ?_
    refine wl_nil ?_
    refine st_tn ?_
    refine w_cond_t (rfl) ?_
    refine w_skip ?_
    refine st_tn ?_
    refine w_cond_t (rfl) ?_
    refine w_seq ?_
    refine w_region ?_
    refine wl_det rfl rfl rfl (op_move rfl) ?_
    refine wl_det rfl rfl rfl (op_move rfl) ?_
    refine wl_det rfl rfl rfl (op_move rfl) ?_
    refine wl_op [601, 602] rfl rfl rfl rfl (op_fn Try.func15 rfl rfl rfl (append_any (nmN x.n) (x.d.take 40) hg hp (nm_max _) htd)) ?_
    rintro _ _ ⟨l84, hp84, rfl, rfl⟩
    refine wl_det rfl rfl rfl (op_move rfl) ?_
    refine wl_det rfl rfl rfl (op_move rfl) ?_
    refine wl_det rfl rfl rfl (op_move rfl) ?_
    refine wl_op [603, 604] rfl rfl rfl rfl (op_fn Try.func39 rfl rfl rfl (sappend_any (nmN x.n) (x.d.take 40) hg (nm_max _) htd)) ?_
    rintro _ _ ⟨rfl, a88, m88, c88, rfl⟩
    refine wl_det rfl rfl rfl (op_val (v' := .bool true) (by simp) (op_eql rfl rfl)) ?_
    refine wl_det rfl rfl rfl (op_assign rfl) ?_
    refine wl_nil ?_
    refine st_tn ?_
    refine w_ret ?_
    refine st_br ?_
    refine st_tr ?_
    refine st_ret (vs := [_]) [601, 602, 603, 604] Try.results24 ⟨rfl, trivial⟩ rfl ?_
    refine ⟨[(601, _), (602, _), (603, _), (604, _)], rfl, ?_⟩
    have hps : perfS s x = (appO s (nmN x.n) (x.d.take 40)).2 := by unfold perfS; rw [if_pos (by omega)]
    refine ⟨rfl, ?_⟩; rw [hps]; exact ⟨l84, a88, m88, c88, hp84, rfl⟩
  · -- h0-
    by_cases h1 : x.k % 12 = 1
    · -- h1+
      refine w_region ?_
      refine wl_det rfl rfl rfl (op_val (v' := .bool false) (by simp [h0]) (op_eql rfl rfl)) ?_
      refine wl_det rfl rfl rfl (op_assign rfl) ?_
      refine wl_nil ?_
      refine st_tn ?_
      refine w_cond_f (rfl) ?_
      refine w_seq ?_
      refine w_region ?_
      refine wl_det rfl rfl rfl (op_val (v' := .bool true) (by simp [h1]) (op_eql rfl rfl)) ?_
      refine wl_det rfl rfl rfl (op_assign rfl) ?_
      refine wl_nil ?_
      refine st_tn ?_
      refine w_cond_t (rfl) ?_
      refine w_skip ?_
      refine st_tn ?_
      refine w_cond_t (rfl) ?_
      refine w_seq ?_
      refine w_region ?_
      refine wl_det rfl rfl rfl (op_move rfl) ?_
      refine wl_det rfl rfl rfl (op_move rfl) ?_
      refine wl_det rfl rfl rfl (op_move rfl) ?_
      refine wl_op [601, 602] rfl rfl rfl rfl (op_fn Try.func15 rfl rfl rfl (append_any (nmN x.n) (x.d.take 40) hg hp (nm_max _) htd)) ?_
      rintro _ _ ⟨l84, hp84, rfl, rfl⟩
      refine wl_det rfl rfl rfl (op_move rfl) ?_
      refine wl_det rfl rfl rfl (op_move rfl) ?_
      refine wl_det rfl rfl rfl (op_move rfl) ?_
      refine wl_op [603, 604] rfl rfl rfl rfl (op_fn Try.func39 rfl rfl rfl (sappend_any (nmN x.n) (x.d.take 40) hg (nm_max _) htd)) ?_
      rintro _ _ ⟨rfl, a88, m88, c88, rfl⟩
      refine wl_det rfl rfl rfl (op_val (v' := .bool true) (by simp) (op_eql rfl rfl)) ?_
      refine wl_det rfl rfl rfl (op_assign rfl) ?_
      refine wl_nil ?_
      refine st_tn ?_
      refine w_ret ?_
      refine st_br ?_
      refine st_tr ?_
      refine st_ret (vs := [_]) [601, 602, 603, 604] Try.results24 ⟨rfl, trivial⟩ rfl ?_
      refine ⟨[(601, _), (602, _), (603, _), (604, _)], rfl, ?_⟩
      have hps : perfS s x = (appO s (nmN x.n) (x.d.take 40)).2 := by unfold perfS; rw [if_pos (by omega)]
      refine ⟨rfl, ?_⟩; rw [hps]; exact ⟨l84, a88, m88, c88, hp84, rfl⟩
    · -- h1-
      by_cases h2 : x.k % 12 = 2
      · -- h2+
        refine w_region ?_
        refine wl_det rfl rfl rfl (op_val (v' := .bool false) (by simp [h0]) (op_eql rfl rfl)) ?_
        refine wl_det rfl rfl rfl (op_assign rfl) ?_
        refine wl_nil ?_
        refine st_tn ?_
        refine w_cond_f (rfl) ?_
        refine w_seq ?_
        refine w_region ?_
        refine wl_det rfl rfl rfl (op_val (v' := .bool false) (by simp [h1]) (op_eql rfl rfl)) ?_
        refine wl_det rfl rfl rfl (op_assign rfl) ?_
        refine wl_nil ?_
        refine st_tn ?_
        refine w_cond_f (rfl) ?_
        refine w_region ?_
        refine wl_det rfl rfl rfl (op_val (v' := .bool true) (by simp [h2]) (op_eql rfl rfl)) ?_
        refine wl_det rfl rfl rfl (op_assign rfl) ?_
        refine wl_nil ?_
        refine st_tn ?_
        refine w_cond_t (rfl) ?_
        refine w_seq ?_
        refine w_region ?_
        refine wl_det rfl rfl rfl (op_move rfl) ?_
        refine wl_det rfl rfl rfl (op_move rfl) ?_
        refine wl_det rfl rfl rfl (op_move rfl) ?_
        refine wl_op [601, 602] rfl rfl rfl rfl (op_fn Try.func15 rfl rfl rfl (append_any (nmN x.n) (x.d.take 40) hg hp (nm_max _) htd)) ?_
        rintro _ _ ⟨l84, hp84, rfl, rfl⟩
        refine wl_det rfl rfl rfl (op_move rfl) ?_
        refine wl_det rfl rfl rfl (op_move rfl) ?_
        refine wl_det rfl rfl rfl (op_move rfl) ?_
        refine wl_op [603, 604] rfl rfl rfl rfl (op_fn Try.func39 rfl rfl rfl (sappend_any (nmN x.n) (x.d.take 40) hg (nm_max _) htd)) ?_
        rintro _ _ ⟨rfl, a88, m88, c88, rfl⟩
        refine wl_det rfl rfl rfl (op_val (v' := .bool true) (by simp) (op_eql rfl rfl)) ?_
        refine wl_det rfl rfl rfl (op_assign rfl) ?_
        refine wl_nil ?_
        refine st_tn ?_
        refine w_ret ?_
        refine st_br ?_
        refine st_tr ?_
        refine st_ret (vs := [_]) [601, 602, 603, 604] Try.results24 ⟨rfl, trivial⟩ rfl ?_
        refine ⟨[(601, _), (602, _), (603, _), (604, _)], rfl, ?_⟩
        have hps : perfS s x = (appO s (nmN x.n) (x.d.take 40)).2 := by unfold perfS; rw [if_pos (by omega)]
        refine ⟨rfl, ?_⟩; rw [hps]; exact ⟨l84, a88, m88, c88, hp84, rfl⟩
      · -- h2-
        by_cases h3 : x.k % 12 = 3
        · -- h3+
          refine w_region ?_
          refine wl_det rfl rfl rfl (op_val (v' := .bool false) (by simp [h0]) (op_eql rfl rfl)) ?_
          refine wl_det rfl rfl rfl (op_assign rfl) ?_
          refine wl_nil ?_
          refine st_tn ?_
          refine w_cond_f (rfl) ?_
          refine w_seq ?_
          refine w_region ?_
          refine wl_det rfl rfl rfl (op_val (v' := .bool false) (by simp [h1]) (op_eql rfl rfl)) ?_
          refine wl_det rfl rfl rfl (op_assign rfl) ?_
          refine wl_nil ?_
          refine st_tn ?_
          refine w_cond_f (rfl) ?_
          refine w_region ?_
          refine wl_det rfl rfl rfl (op_val (v' := .bool false) (by simp [h2]) (op_eql rfl rfl)) ?_
          refine wl_det rfl rfl rfl (op_assign rfl) ?_
          refine wl_nil ?_
          refine st_tn ?_
          refine w_cond_f (rfl) ?_
          refine w_seq ?_
          refine w_seq ?_
          refine w_region ?_
          refine wl_det rfl rfl rfl (op_val (v' := .bool true) (by simp [h3]) (op_eql rfl rfl)) ?_
          refine wl_det rfl rfl rfl (op_assign rfl) ?_
          refine wl_nil ?_
          refine st_tn ?_
          refine w_cond_t (rfl) ?_
          refine w_skip ?_
          refine st_tn ?_
          refine w_cond_t (rfl) ?_
          refine w_seq ?_
          refine w_region ?_
          refine wl_det rfl rfl rfl (op_move rfl) ?_
          refine wl_det rfl rfl rfl (op_move rfl) ?_
          refine wl_op [601, 602] rfl rfl rfl rfl (op_fn Try.func21 rfl rfl rfl (sync_any (nmN x.n) hg hp (nm_max _))) ?_
          rintro _ _ ⟨l84, hp84, rfl, rfl⟩
          refine wl_det rfl rfl rfl (op_move rfl) ?_
          refine wl_det rfl rfl rfl (op_move rfl) ?_
          refine wl_op [603, 604] rfl rfl rfl rfl (op_fn Try.func40 rfl rfl rfl (change_s (nmN x.n) [] hg (nm_max _))) ?_
          rintro _ _ ⟨rfl, a88, m88, c88, rfl⟩
          refine wl_det rfl rfl rfl (op_val (v' := .bool true) (by simp) (op_eql rfl rfl)) ?_
          refine wl_det rfl rfl rfl (op_assign rfl) ?_
          refine wl_nil ?_
          refine st_tn ?_
          refine w_ret ?_
          refine st_br ?_
          refine st_tr ?_
          refine st_ret (vs := [_]) [601, 602, 603, 604] Try.results24 ⟨rfl, trivial⟩ rfl ?_
          refine ⟨[(601, _), (602, _), (603, _), (604, _)], rfl, ?_⟩
          have hps : perfS s x = (synO s (nmN x.n)).2 := by unfold perfS; rw [if_neg (by omega), if_pos (by omega)]
          refine ⟨rfl, ?_⟩; rw [hps]; exact ⟨l84, a88, m88, c88, hp84, rfl⟩
        · -- h3-
          by_cases h4 : x.k % 12 = 4
          · -- h4+
            refine w_region ?_
            refine wl_det rfl rfl rfl (op_val (v' := .bool false) (by simp [h0]) (op_eql rfl rfl)) ?_
            refine wl_det rfl rfl rfl (op_assign rfl) ?_
            refine wl_nil ?_
            refine st_tn ?_
            refine w_cond_f (rfl) ?_
            refine w_seq ?_
            refine w_region ?_
            refine wl_det rfl rfl rfl (op_val (v' := .bool false) (by simp [h1]) (op_eql rfl rfl)) ?_
            refine wl_det rfl rfl rfl (op_assign rfl) ?_
            refine wl_nil ?_
            refine st_tn ?_
            refine w_cond_f (rfl) ?_
            refine w_region ?_
            refine wl_det rfl rfl rfl (op_val (v' := .bool false) (by simp [h2]) (op_eql rfl rfl)) ?_
            refine wl_det rfl rfl rfl (op_assign rfl) ?_
            refine wl_nil ?_
            refine st_tn ?_
            refine w_cond_f (rfl) ?_
            refine w_seq ?_
            refine w_seq ?_
            refine w_region ?_
            refine wl_det rfl rfl rfl (op_val (v' := .bool false) (by simp [h3]) (op_eql rfl rfl)) ?_
            refine wl_det rfl rfl rfl (op_assign rfl) ?_
            refine wl_nil ?_
            refine st_tn ?_
            refine w_cond_f (rfl) ?_
            refine w_region ?_
            refine wl_det rfl rfl rfl (op_val (v' := .bool true) (by simp [h4]) (op_eql rfl rfl)) ?_
            refine wl_det rfl rfl rfl (op_assign rfl) ?_
            refine wl_nil ?_
            refine st_tn ?_
            refine w_cond_t (rfl) ?_
            refine w_seq ?_
            refine w_region ?_
            refine wl_det rfl rfl rfl (op_move rfl) ?_
            refine wl_det rfl rfl rfl (op_move rfl) ?_
            refine wl_op [601, 602] rfl rfl rfl rfl (op_fn Try.func21 rfl rfl rfl (sync_any (nmN x.n) hg hp (nm_max _))) ?_
            rintro _ _ ⟨l84, hp84, rfl, rfl⟩
            refine wl_det rfl rfl rfl (op_move rfl) ?_
            refine wl_det rfl rfl rfl (op_move rfl) ?_
            refine wl_op [603, 604] rfl rfl rfl rfl (op_fn Try.func40 rfl rfl rfl (change_s (nmN x.n) [] hg (nm_max _))) ?_
            rintro _ _ ⟨rfl, a88, m88, c88, rfl⟩
            refine wl_det rfl rfl rfl (op_val (v' := .bool true) (by simp) (op_eql rfl rfl)) ?_
            refine wl_det rfl rfl rfl (op_assign rfl) ?_
            refine wl_nil ?_
            refine st_tn ?_
            refine w_ret ?_
            refine st_br ?_
            refine st_tr ?_
            refine st_ret (vs := [_]) [601, 602, 603, 604] Try.results24 ⟨rfl, trivial⟩ rfl ?_
            refine ⟨[(601, _), (602, _), (603, _), (604, _)], rfl, ?_⟩
            have hps : perfS s x = (synO s (nmN x.n)).2 := by unfold perfS; rw [if_neg (by omega), if_pos (by omega)]
            refine ⟨rfl, ?_⟩; rw [hps]; exact ⟨l84, a88, m88, c88, hp84, rfl⟩
          · -- h4-
            by_cases h5 : x.k % 12 = 5
            · -- h5+
              refine w_region ?_
              refine wl_det rfl rfl rfl (op_val (v' := .bool false) (by simp [h0]) (op_eql rfl rfl)) ?_
              refine wl_det rfl rfl rfl (op_assign rfl) ?_
              refine wl_nil ?_
              refine st_tn ?_
              refine w_cond_f (rfl) ?_
              refine w_seq ?_
              refine w_region ?_
              refine wl_det rfl rfl rfl (op_val (v' := .bool false) (by simp [h1]) (op_eql rfl rfl)) ?_
              refine wl_det rfl rfl rfl (op_assign rfl) ?_
              refine wl_nil ?_
              refine st_tn ?_
              refine w_cond_f (rfl) ?_
              refine w_region ?_
              refine wl_det rfl rfl rfl (op_val (v' := .bool false) (by simp [h2]) (op_eql rfl rfl)) ?_
              refine wl_det rfl rfl rfl (op_assign rfl) ?_
              refine wl_nil ?_
              refine st_tn ?_
              refine w_cond_f (rfl) ?_
              refine w_seq ?_
              refine w_seq ?_
              refine w_region ?_
              refine wl_det rfl rfl rfl (op_val (v' := .bool false) (by simp [h3]) (op_eql rfl rfl)) ?_
              refine wl_det rfl rfl rfl (op_assign rfl) ?_
              refine wl_nil ?_
              refine st_tn ?_
              refine w_cond_f (rfl) ?_
              refine w_region ?_
              refine wl_det rfl rfl rfl (op_val (v' := .bool false) (by simp [h4]) (op_eql rfl rfl)) ?_
              refine wl_det rfl rfl rfl (op_assign rfl) ?_
              refine wl_nil ?_
              refine st_tn ?_
              refine w_cond_f (rfl) ?_
              refine w_seq ?_
              refine w_region ?_
              refine wl_det rfl rfl rfl (op_val (v' := .bool true) (by simp [h5]) (op_eql rfl rfl)) ?_
              refine wl_det rfl rfl rfl (op_assign rfl) ?_
              refine wl_nil ?_
              refine st_tn ?_
              refine w_cond_t (rfl) ?_
              refine w_seq ?_
              refine w_region ?_
              refine wl_det rfl rfl rfl (op_move rfl) ?_
              refine wl_det rfl rfl rfl (op_move rfl) ?_
              refine wl_det rfl rfl rfl (op_move rfl) ?_
              refine wl_op [601, 602] rfl rfl rfl rfl (op_fn Try.func22 rfl rfl rfl (rename_any (nmN x.n) (nmN x.o) hg hp (nm_max _) (nm_max _))) ?_
              rintro _ _ ⟨l84, hp84, rfl, rfl⟩
              refine wl_det rfl rfl rfl (op_move rfl) ?_
              refine wl_det rfl rfl rfl (op_move rfl) ?_
              refine wl_det rfl rfl rfl (op_move rfl) ?_
              refine wl_op [603, 604] rfl rfl rfl rfl (op_fn Try.func40 rfl rfl rfl (change_n (nmN x.n) (nmN x.o) hg (nm_max _) (nm_max _))) ?_
              rintro _ _ ⟨rfl, a88, m88, c88, rfl⟩
              refine wl_det rfl rfl rfl (op_val (v' := .bool true) (by simp) (op_eql rfl rfl)) ?_
              refine wl_det rfl rfl rfl (op_assign rfl) ?_
              refine wl_nil ?_
              refine st_tn ?_
              refine w_ret ?_
              refine st_br ?_
              refine st_tr ?_
              refine st_ret (vs := [_]) [601, 602, 603, 604] Try.results24 ⟨rfl, trivial⟩ rfl ?_
              refine ⟨[(601, _), (602, _), (603, _), (604, _)], rfl, ?_⟩
              have hps : perfS s x = (renO s (nmN x.n) (nmN x.o)).2 := by unfold perfS; rw [if_neg (by omega), if_neg (by omega), if_pos (by omega)]
              refine ⟨rfl, ?_⟩; rw [hps]; exact ⟨l84, a88, m88, c88, hp84, rfl⟩
            · -- h5-
              by_cases h6 : x.k % 12 = 6
              · -- h6+
                refine w_region ?_
                refine wl_det rfl rfl rfl (op_val (v' := .bool false) (by simp [h0]) (op_eql rfl rfl)) ?_
                refine wl_det rfl rfl rfl (op_assign rfl) ?_
                refine wl_nil ?_
                refine st_tn ?_
                refine w_cond_f (rfl) ?_
                refine w_seq ?_
                refine w_region ?_
                refine wl_det rfl rfl rfl (op_val (v' := .bool false) (by simp [h1]) (op_eql rfl rfl)) ?_
                refine wl_det rfl rfl rfl (op_assign rfl) ?_
                refine wl_nil ?_
                refine st_tn ?_
                refine w_cond_f (rfl) ?_
                refine w_region ?_
                refine wl_det rfl rfl rfl (op_val (v' := .bool false) (by simp [h2]) (op_eql rfl rfl)) ?_
                refine wl_det rfl rfl rfl (op_assign rfl) ?_
                refine wl_nil ?_
                refine st_tn ?_
                refine w_cond_f (rfl) ?_
                refine w_seq ?_
                refine w_seq ?_
                refine w_region ?_
                refine wl_det rfl rfl rfl (op_val (v' := .bool false) (by simp [h3]) (op_eql rfl rfl)) ?_
                refine wl_det rfl rfl rfl (op_assign rfl) ?_
                refine wl_nil ?_
                refine st_tn ?_
                refine w_cond_f (rfl) ?_
                refine w_region ?_
                refine wl_det rfl rfl rfl (op_val (v' := .bool false) (by simp [h4]) (op_eql rfl rfl)) ?_
                refine wl_det rfl rfl rfl (op_assign rfl) ?_
                refine wl_nil ?_
                refine st_tn ?_
                refine w_cond_f (rfl) ?_
                refine w_seq ?_
                refine w_region ?_
                refine wl_det rfl rfl rfl (op_val (v' := .bool false) (by simp [h5]) (op_eql rfl rfl)) ?_
                refine wl_det rfl rfl rfl (op_assign rfl) ?_
                refine wl_nil ?_
                refine st_tn ?_
                refine w_cond_f (rfl) ?_
                refine w_seq ?_
                refine w_region ?_
                refine wl_det rfl rfl rfl (op_val (v' := .bool true) (by simp [h6]) (op_eql rfl rfl)) ?_
                refine wl_det rfl rfl rfl (op_assign rfl) ?_
                refine wl_nil ?_
                refine st_tn ?_
                refine w_cond_t (rfl) ?_
                refine w_seq ?_
                refine w_region ?_
                refine wl_det rfl rfl rfl (op_move rfl) ?_
                refine wl_det rfl rfl rfl (op_move rfl) ?_
                refine wl_op [601, 602] rfl rfl rfl rfl (op_fn Try.func17 rfl rfl rfl (remove_any (nmN x.n) hg hp (nm_max _))) ?_
                rintro _ _ ⟨l84, hp84, rfl, rfl⟩
                refine wl_det rfl rfl rfl (op_move rfl) ?_
                refine wl_det rfl rfl rfl (op_move rfl) ?_
                refine wl_op [603, 604] rfl rfl rfl rfl (op_fn Try.func40 rfl rfl rfl (change_r (nmN x.n) [] hg (nm_max _))) ?_
                rintro _ _ ⟨rfl, a88, m88, c88, rfl⟩
                refine wl_det rfl rfl rfl (op_val (v' := .bool true) (by simp) (op_eql rfl rfl)) ?_
                refine wl_det rfl rfl rfl (op_assign rfl) ?_
                refine wl_nil ?_
                refine st_tn ?_
                refine w_ret ?_
                refine st_br ?_
                refine st_tr ?_
                refine st_ret (vs := [_]) [601, 602, 603, 604] Try.results24 ⟨rfl, trivial⟩ rfl ?_
                refine ⟨[(601, _), (602, _), (603, _), (604, _)], rfl, ?_⟩
                have hps : perfS s x = (remO s (nmN x.n)).2 := by unfold perfS; rw [if_neg (by omega), if_neg (by omega), if_neg (by omega), if_pos (by omega)]
                refine ⟨rfl, ?_⟩; rw [hps]; exact ⟨l84, a88, m88, c88, hp84, rfl⟩
              · -- h6-
                by_cases h7 : x.k % 12 = 7
                · -- h7+
                  refine w_region ?_
                  refine wl_det rfl rfl rfl (op_val (v' := .bool false) (by simp [h0]) (op_eql rfl rfl)) ?_
                  refine wl_det rfl rfl rfl (op_assign rfl) ?_
                  refine wl_nil ?_
                  refine st_tn ?_
                  refine w_cond_f (rfl) ?_
                  refine w_seq ?_
                  refine w_region ?_
                  refine wl_det rfl rfl rfl (op_val (v' := .bool false) (by simp [h1]) (op_eql rfl rfl)) ?_
                  refine wl_det rfl rfl rfl (op_assign rfl) ?_
                  refine wl_nil ?_
                  refine st_tn ?_
                  refine w_cond_f (rfl) ?_
                  refine w_region ?_
                  refine wl_det rfl rfl rfl (op_val (v' := .bool false) (by simp [h2]) (op_eql rfl rfl)) ?_
                  refine wl_det rfl rfl rfl (op_assign rfl) ?_
                  refine wl_nil ?_
                  refine st_tn ?_
                  refine w_cond_f (rfl) ?_
                  refine w_seq ?_
                  refine w_seq ?_
                  refine w_region ?_
                  refine wl_det rfl rfl rfl (op_val (v' := .bool false) (by simp [h3]) (op_eql rfl rfl)) ?_
                  refine wl_det rfl rfl rfl (op_assign rfl) ?_
                  refine wl_nil ?_
                  refine st_tn ?_
                  refine w_cond_f (rfl) ?_
                  refine w_region ?_
                  refine wl_det rfl rfl rfl (op_val (v' := .bool false) (by simp [h4]) (op_eql rfl rfl)) ?_
                  refine wl_det rfl rfl rfl (op_assign rfl) ?_
                  refine wl_nil ?_
                  refine st_tn ?_
                  refine w_cond_f (rfl) ?_
                  refine w_seq ?_
                  refine w_region ?_
                  refine wl_det rfl rfl rfl (op_val (v' := .bool false) (by simp [h5]) (op_eql rfl rfl)) ?_
                  refine wl_det rfl rfl rfl (op_assign rfl) ?_
                  refine wl_nil ?_
                  refine st_tn ?_
                  refine w_cond_f (rfl) ?_
                  refine w_seq ?_
                  refine w_region ?_
                  refine wl_det rfl rfl rfl (op_val (v' := .bool false) (by simp [h6]) (op_eql rfl rfl)) ?_
                  refine wl_det rfl rfl rfl (op_assign rfl) ?_
                  refine wl_nil ?_
                  refine st_tn ?_
                  refine w_cond_f (rfl) ?_
                  refine w_seq ?_
                  refine w_region ?_
                  refine wl_det rfl rfl rfl (op_val (v' := .bool true) (by simp [h7]) (op_eql rfl rfl)) ?_
                  refine wl_det rfl rfl rfl (op_assign rfl) ?_
                  refine wl_nil ?_
                  refine st_tn ?_
                  refine w_cond_t (rfl) ?_
                  refine w_seq ?_
                  refine w_region ?_
                  refine wl_det rfl rfl rfl (op_move rfl) ?_
                  refine wl_det rfl rfl rfl (op_fieldAddr (off := 4) rfl tF43_4m) ?_
                  refine wl_det rfl rfl rfl (op_load1 rfl tO3m (Ent.lab (l := 5) rfl (says_cel 4))) ?_
                  refine wl_op [601] rfl rfl rfl rfl (op_fn Try.func19 rfl rfl rfl (limit_any s x.z)) ?_
                  rintro _ _ ⟨rfl, rfl⟩
                  refine wl_nil ?_
                  refine st_tn ?_
                  refine w_drawW (fun β => [⟨126, [], [], [], noW (_), false, [], []⟩, ⟨127, [], [], [], noW (_), false, [], []⟩, ⟨128, [], [], [], noW (_), false, [], []⟩, ⟨129, [2], [], [], noW (_), false, [], []⟩, ⟨130, [3], [], [], noW (_), false, [], []⟩, ⟨131, [0], [], [], noW (_), false, [], []⟩, ⟨132, [5], [], [], noW (_), false, [], []⟩, ⟨165, [6], [], [(603, _)], noW (_), false, [], []⟩]) [603] [1, 5] [⟨126, [], [], false, [], []⟩, ⟨127, [], [], false, [], []⟩, ⟨128, [], [], false, [], []⟩, ⟨129, [2], [], false, [], []⟩, ⟨130, [3], [], false, [], []⟩, ⟨131, [0], [], false, [], []⟩, ⟨132, [5], [], false, [], []⟩, ⟨165, [6], [], false, [], []⟩] [[], [], [], [], [], [], [], []] [[], [], [], [], [], [], [], [(603, _)]] tMixm (fun _ => by rfl) (fun _ => by rfl) (by kernel_rfl) (by kernel_rfl) (by rfl) (by rfl)
                      (fun β => ⟨.p rfl (by intro X; exact op_move rfl),
                      ⟨.p rfl (by intro X; exact op_move rfl),
                      ⟨.p rfl (by intro X; exact op_fieldAddr (off := 4) rfl tF43_4m),
                      ⟨.p rfl (by intro X; rintro _ _ ⟨rfl, rfl⟩; exact op_load1 rfl tO3m (Ent.lab (l := 5) rfl (says_cel 4))),
                      ⟨.p rfl (by intro X; rintro _ _ ⟨rfl, rfl⟩; exact op_max rfl rfl),
                      ⟨.p rfl (by intro X; rintro _ _ ⟨rfl, rfl⟩; exact op_nilCheck rfl),
                      ⟨.p rfl (by intro X; rintro _ _ ⟨rfl, rfl⟩; exact op_fieldAddr (off := 2) rfl tF36_2m),
                      ⟨.p rfl (by intro X; rintro _ _ ⟨rfl, rfl⟩; exact op_store rfl rfl tZ4m (by rfl) (by rfl) (by exact Nat.le_of_ble_eq_true rfl)) (hu := by exact .inr fun _ _ h => h.1),
                      trivial⟩⟩⟩⟩⟩⟩⟩⟩)
                      (fun β β' => ⟨fun _ => by rfl, ⟨fun _ => by rfl, ⟨fun _ => by rfl, ⟨fun _ => by rfl, ⟨fun _ => by rfl, ⟨fun _ => by rfl, ⟨fun _ => by rfl, ⟨fun _ => by rfl, trivial⟩⟩⟩⟩⟩⟩⟩⟩) ?_
                  intro β
                  rintro _ _ ⟨rfl, rfl⟩ _ _ ⟨rfl, rfl⟩ _ _ ⟨rfl, rfl⟩ _ _ ⟨rfl, rfl⟩ _ _ ⟨rfl, rfl⟩ _ _ ⟨rfl, rfl⟩ _ _ ⟨rfl, rfl⟩ _ _ ⟨rfl, rfl⟩
                  refine wl_norm (e' := [(127, _), (130, _)]) (.cons rfl (.cons rfl (.nil _))) (by dsimp only [cond_false, cond_true, List.nil_append, List.cons_append]) ?_
                  refine wl_det rfl rfl rfl (op_nilCheck rfl) ?_
                  refine wl_det rfl rfl rfl (op_fieldAddr (off := 4) rfl tF36_4m) ?_
                  refine wl_op0 [603] rfl rfl rfl (op_store rfl rfl tZ3m (by rfl) (by rfl) (by exact Nat.le_of_ble_eq_true rfl)) ?_
                  rintro _ _ ⟨rfl, rfl⟩
                  refine wl_nil ?_
                  refine st_bn ?_
                  refine st_tn ?_
                  refine w_seq ?_
                  refine w_region ?_
                  refine wl_det rfl rfl rfl (op_assign rfl) ?_
                  refine wl_nil ?_
                  refine st_tn ?_
                  refine w_ret ?_
                  refine st_ret (vs := [_]) [601, 602, 603, 604] Try.results24 ⟨rfl, trivial⟩ rfl ?_
                  refine ⟨[(601, _), (602, _), (603, _), (604, _)], rfl, ?_⟩
                  have hps : perfS s x = limO s x.z := by unfold perfS; rw [if_neg (by omega), if_neg (by omega), if_neg (by omega), if_neg (by omega), if_pos (by omega)]
                  refine ⟨rfl, ?_⟩; rw [hps]; exact ⟨l, a, mm, c, hp, rfl⟩
                · -- h7-
                  by_cases h8 : x.k % 12 = 8
                  · -- h8+
                    refine w_region ?_
                    refine wl_det rfl rfl rfl (op_val (v' := .bool false) (by simp [h0]) (op_eql rfl rfl)) ?_
                    refine wl_det rfl rfl rfl (op_assign rfl) ?_
                    refine wl_nil ?_
                    refine st_tn ?_
                    refine w_cond_f (rfl) ?_
                    refine w_seq ?_
                    refine w_region ?_
                    refine wl_det rfl rfl rfl (op_val (v' := .bool false) (by simp [h1]) (op_eql rfl rfl)) ?_
                    refine wl_det rfl rfl rfl (op_assign rfl) ?_
                    refine wl_nil ?_
                    refine st_tn ?_
                    refine w_cond_f (rfl) ?_
                    refine w_region ?_
                    refine wl_det rfl rfl rfl (op_val (v' := .bool false) (by simp [h2]) (op_eql rfl rfl)) ?_
                    refine wl_det rfl rfl rfl (op_assign rfl) ?_
                    refine wl_nil ?_
                    refine st_tn ?_
                    refine w_cond_f (rfl) ?_
                    refine w_seq ?_
                    refine w_seq ?_
                    refine w_region ?_
                    refine wl_det rfl rfl rfl (op_val (v' := .bool false) (by simp [h3]) (op_eql rfl rfl)) ?_
                    refine wl_det rfl rfl rfl (op_assign rfl) ?_
                    refine wl_nil ?_
                    refine st_tn ?_
                    refine w_cond_f (rfl) ?_
                    refine w_region ?_
                    refine wl_det rfl rfl rfl (op_val (v' := .bool false) (by simp [h4]) (op_eql rfl rfl)) ?_
                    refine wl_det rfl rfl rfl (op_assign rfl) ?_
                    refine wl_nil ?_
                    refine st_tn ?_
                    refine w_cond_f (rfl) ?_
                    refine w_seq ?_
                    refine w_region ?_
                    refine wl_det rfl rfl rfl (op_val (v' := .bool false) (by simp [h5]) (op_eql rfl rfl)) ?_
                    refine wl_det rfl rfl rfl (op_assign rfl) ?_
                    refine wl_nil ?_
                    refine st_tn ?_
                    refine w_cond_f (rfl) ?_
                    refine w_seq ?_
                    refine w_region ?_
                    refine wl_det rfl rfl rfl (op_val (v' := .bool false) (by simp [h6]) (op_eql rfl rfl)) ?_
                    refine wl_det rfl rfl rfl (op_assign rfl) ?_
                    refine wl_nil ?_
                    refine st_tn ?_
                    refine w_cond_f (rfl) ?_
                    refine w_seq ?_
                    refine w_region ?_
                    refine wl_det rfl rfl rfl (op_val (v' := .bool false) (by simp [h7]) (op_eql rfl rfl)) ?_
                    refine wl_det rfl rfl rfl (op_assign rfl) ?_
                    refine wl_nil ?_
                    refine st_tn ?_
                    refine w_cond_f (rfl) ?_
                    refine w_seq ?_
                    refine w_region ?_
                    refine wl_det rfl rfl rfl (op_val (v' := .bool true) (by simp [h8]) (op_eql rfl rfl)) ?_
                    refine wl_det rfl rfl rfl (op_assign rfl) ?_
                    refine wl_nil ?_
                    refine st_tn ?_
                    refine w_cond_t (rfl) ?_
                    refine w_seq ?_
                    refine w_region ?_
                    refine wl_det rfl rfl rfl (op_move rfl) ?_
                    refine wl_op [601] rfl rfl rfl rfl (op_fn Try.func25 rfl rfl rfl (crash_any s)) ?_
                    rintro _ _ ⟨rfl, rfl⟩
                    refine wl_nil ?_
                    refine st_tn ?_
                    refine w_region ?_
                    refine wl_det rfl rfl rfl (op_move rfl) ?_
                    refine wl_det rfl rfl rfl (op_nilCheck rfl) ?_
                    refine wl_det rfl rfl rfl (op_fieldAddr (off := 3) rfl tF36_3m) ?_
                    refine wl_op0 [603] rfl rfl rfl (op_store rfl rfl tZ4m (by rfl) (by rfl) (by exact Nat.le_of_ble_eq_true rfl)) ?_
                    rintro _ _ ⟨rfl, rfl⟩
                    refine wl_nil ?_
                    refine st_bn ?_
                    refine st_tn ?_
                    refine w_seq ?_
                    refine w_region ?_
                    refine wl_det rfl rfl rfl (op_assign rfl) ?_
                    refine wl_nil ?_
                    refine st_tn ?_
                    refine w_ret ?_
                    refine st_ret (vs := [_]) [601, 602, 603, 604] Try.results24 ⟨rfl, trivial⟩ rfl ?_
                    refine ⟨[(601, _), (602, _), (603, _), (604, _)], rfl, ?_⟩
                    have hps : perfS s x = craO s := by unfold perfS; rw [if_neg (by omega), if_neg (by omega), if_neg (by omega), if_neg (by omega), if_neg (by omega), if_pos (by omega)]
                    refine ⟨rfl, ?_⟩; rw [hps]; exact ⟨l, a, mm, c, hp, rfl⟩
                  · -- h8-
                    by_cases h9 : x.k % 12 = 9
                    · -- h9+
                      refine w_region ?_
                      refine wl_det rfl rfl rfl (op_val (v' := .bool false) (by simp [h0]) (op_eql rfl rfl)) ?_
                      refine wl_det rfl rfl rfl (op_assign rfl) ?_
                      refine wl_nil ?_
                      refine st_tn ?_
                      refine w_cond_f (rfl) ?_
                      refine w_seq ?_
                      refine w_region ?_
                      refine wl_det rfl rfl rfl (op_val (v' := .bool false) (by simp [h1]) (op_eql rfl rfl)) ?_
                      refine wl_det rfl rfl rfl (op_assign rfl) ?_
                      refine wl_nil ?_
                      refine st_tn ?_
                      refine w_cond_f (rfl) ?_
                      refine w_region ?_
                      refine wl_det rfl rfl rfl (op_val (v' := .bool false) (by simp [h2]) (op_eql rfl rfl)) ?_
                      refine wl_det rfl rfl rfl (op_assign rfl) ?_
                      refine wl_nil ?_
                      refine st_tn ?_
                      refine w_cond_f (rfl) ?_
                      refine w_seq ?_
                      refine w_seq ?_
                      refine w_region ?_
                      refine wl_det rfl rfl rfl (op_val (v' := .bool false) (by simp [h3]) (op_eql rfl rfl)) ?_
                      refine wl_det rfl rfl rfl (op_assign rfl) ?_
                      refine wl_nil ?_
                      refine st_tn ?_
                      refine w_cond_f (rfl) ?_
                      refine w_region ?_
                      refine wl_det rfl rfl rfl (op_val (v' := .bool false) (by simp [h4]) (op_eql rfl rfl)) ?_
                      refine wl_det rfl rfl rfl (op_assign rfl) ?_
                      refine wl_nil ?_
                      refine st_tn ?_
                      refine w_cond_f (rfl) ?_
                      refine w_seq ?_
                      refine w_region ?_
                      refine wl_det rfl rfl rfl (op_val (v' := .bool false) (by simp [h5]) (op_eql rfl rfl)) ?_
                      refine wl_det rfl rfl rfl (op_assign rfl) ?_
                      refine wl_nil ?_
                      refine st_tn ?_
                      refine w_cond_f (rfl) ?_
                      refine w_seq ?_
                      refine w_region ?_
                      refine wl_det rfl rfl rfl (op_val (v' := .bool false) (by simp [h6]) (op_eql rfl rfl)) ?_
                      refine wl_det rfl rfl rfl (op_assign rfl) ?_
                      refine wl_nil ?_
                      refine st_tn ?_
                      refine w_cond_f (rfl) ?_
                      refine w_seq ?_
                      refine w_region ?_
                      refine wl_det rfl rfl rfl (op_val (v' := .bool false) (by simp [h7]) (op_eql rfl rfl)) ?_
                      refine wl_det rfl rfl rfl (op_assign rfl) ?_
                      refine wl_nil ?_
                      refine st_tn ?_
                      refine w_cond_f (rfl) ?_
                      refine w_seq ?_
                      refine w_region ?_
                      refine wl_det rfl rfl rfl (op_val (v' := .bool false) (by simp [h8]) (op_eql rfl rfl)) ?_
                      refine wl_det rfl rfl rfl (op_assign rfl) ?_
                      refine wl_nil ?_
                      refine st_tn ?_
                      refine w_cond_f (rfl) ?_
                      refine w_seq ?_
                      refine w_seq ?_
                      refine w_region ?_
                      refine wl_det rfl rfl rfl (op_val (v' := .bool true) (by simp [h9]) (op_eql rfl rfl)) ?_
                      refine wl_det rfl rfl rfl (op_assign rfl) ?_
                      refine wl_nil ?_
                      refine st_tn ?_
                      refine w_cond_t (rfl) ?_
                      refine w_skip ?_
                      refine st_tn ?_
                      refine w_cond_t (rfl) ?_
                      refine w_seq ?_
                      refine w_region ?_
                      refine wl_det rfl rfl rfl (op_fieldAddr (off := 5) rfl tF43_5m) ?_
                      refine wl_det rfl rfl rfl (op_load1 rfl tO41m (Ent.lab (l := 5) rfl (says_cel 5))) ?_
                      refine wl_det rfl rfl rfl (op_fieldAddr (off := 5) rfl tF43_5m) ?_
                      refine wl_det rfl rfl rfl (op_load1 rfl tO41m (Ent.lab (l := 5) rfl (says_cel 5))) ?_
                      refine wl_det rfl rfl rfl (op_lenT rfl tS41m (Sl.ent (by first | exact Sl.app (by assumption) _ | exact Sl.app (Sl.app (by assumption) _) _))) ?_
                      refine wl_det rfl rfl rfl (op_val (v' := .int .i64 ((min x.sc.length 10 : Nat) : Int)) (by congr 1; omega) (op_min rfl rfl)) ?_
                      refine wl_det rfl rfl rfl (op_val (v' := .slice (SL.sub ax cx 0 1) (x.sc.take 10).length (cx - 0)) (by congr 1; rw [List.length_take]; omega) (op_sliceR rfl rfl tS41m (by first | exact Sl.app (by assumption) _ | exact Sl.app (Sl.app (by assumption) _) _) (by omega))) ?_
                      refine wl_det rfl rfl rfl (op_assign rfl) ?_
                      refine wl_nil ?_
                      refine st_tn ?_
                      refine w_seq ?_
                      refine w_region ?_
                      refine wl_det rfl rfl rfl (op_move rfl) ?_
                      refine wl_det rfl rfl rfl (op_move rfl) ?_
                      refine wl_op [601, 602] rfl rfl rfl rfl (op_fn Try.func26 rfl rfl rfl (start_any (sc := x.sc.take 10) hg hp (Sl.app hs10 _))) ?_
                      rintro _ _ ⟨l84, hp84, rfl, rfl⟩
                      refine wl_nil ?_
                      refine st_tn ?_
                      refine w_region ?_
                      refine wl_det rfl rfl rfl (op_move rfl) ?_
                      refine wl_det rfl rfl rfl (op_move rfl) ?_
                      refine wl_op [603, 604] rfl rfl rfl rfl (op_fn Try.func41 rfl rfl rfl (sstart_any (sc := x.sc.take 10) hg (Sl.app hs10 _))) ?_
                      rintro _ _ ⟨rfl, a88, m88, c88, rfl⟩
                      refine wl_nil ?_
                      refine st_bn ?_
                      refine st_tn ?_
                      refine w_seq ?_
                      refine w_region ?_
                      refine wl_det rfl rfl rfl (op_assign rfl) ?_
                      refine wl_nil ?_
                      refine st_tn ?_
                      refine w_ret ?_
                      refine st_ret (vs := [_]) [601, 602, 603, 604] Try.results24 ⟨rfl, trivial⟩ rfl ?_
                      refine ⟨[(601, _), (602, _), (603, _), (604, _)], rfl, ?_⟩
                      have hps : perfS s x = staO s (x.sc.take 10) := by unfold perfS; rw [if_neg (by omega), if_neg (by omega), if_neg (by omega), if_neg (by omega), if_neg (by omega), if_neg (by omega), if_pos (by omega)]
                      refine ⟨rfl, ?_⟩; rw [hps]; exact ⟨l84, a88, m88, c88, hp84, rfl⟩
                    · -- h9-
                      by_cases h10 : x.k % 12 = 10
                      · -- h10+
                        refine w_region ?_
                        refine wl_det rfl rfl rfl (op_val (v' := .bool false) (by simp [h0]) (op_eql rfl rfl)) ?_
                        refine wl_det rfl rfl rfl (op_assign rfl) ?_
                        refine wl_nil ?_
                        refine st_tn ?_
                        refine w_cond_f (rfl) ?_
                        refine w_seq ?_
                        refine w_region ?_
                        refine wl_det rfl rfl rfl (op_val (v' := .bool false) (by simp [h1]) (op_eql rfl rfl)) ?_
                        refine wl_det rfl rfl rfl (op_assign rfl) ?_
                        refine wl_nil ?_
                        refine st_tn ?_
                        refine w_cond_f (rfl) ?_
                        refine w_region ?_
                        refine wl_det rfl rfl rfl (op_val (v' := .bool false) (by simp [h2]) (op_eql rfl rfl)) ?_
                        refine wl_det rfl rfl rfl (op_assign rfl) ?_
                        refine wl_nil ?_
                        refine st_tn ?_
                        refine w_cond_f (rfl) ?_
                        refine w_seq ?_
                        refine w_seq ?_
                        refine w_region ?_
                        refine wl_det rfl rfl rfl (op_val (v' := .bool false) (by simp [h3]) (op_eql rfl rfl)) ?_
                        refine wl_det rfl rfl rfl (op_assign rfl) ?_
                        refine wl_nil ?_
                        refine st_tn ?_
                        refine w_cond_f (rfl) ?_
                        refine w_region ?_
                        refine wl_det rfl rfl rfl (op_val (v' := .bool false) (by simp [h4]) (op_eql rfl rfl)) ?_
                        refine wl_det rfl rfl rfl (op_assign rfl) ?_
                        refine wl_nil ?_
                        refine st_tn ?_
                        refine w_cond_f (rfl) ?_
                        refine w_seq ?_
                        refine w_region ?_
                        refine wl_det rfl rfl rfl (op_val (v' := .bool false) (by simp [h5]) (op_eql rfl rfl)) ?_
                        refine wl_det rfl rfl rfl (op_assign rfl) ?_
                        refine wl_nil ?_
                        refine st_tn ?_
                        refine w_cond_f (rfl) ?_
                        refine w_seq ?_
                        refine w_region ?_
                        refine wl_det rfl rfl rfl (op_val (v' := .bool false) (by simp [h6]) (op_eql rfl rfl)) ?_
                        refine wl_det rfl rfl rfl (op_assign rfl) ?_
                        refine wl_nil ?_
                        refine st_tn ?_
                        refine w_cond_f (rfl) ?_
                        refine w_seq ?_
                        refine w_region ?_
                        refine wl_det rfl rfl rfl (op_val (v' := .bool false) (by simp [h7]) (op_eql rfl rfl)) ?_
                        refine wl_det rfl rfl rfl (op_assign rfl) ?_
                        refine wl_nil ?_
                        refine st_tn ?_
                        refine w_cond_f (rfl) ?_
                        refine w_seq ?_
                        refine w_region ?_
                        refine wl_det rfl rfl rfl (op_val (v' := .bool false) (by simp [h8]) (op_eql rfl rfl)) ?_
                        refine wl_det rfl rfl rfl (op_assign rfl) ?_
                        refine wl_nil ?_
                        refine st_tn ?_
                        refine w_cond_f (rfl) ?_
                        refine w_seq ?_
                        refine w_seq ?_
                        refine w_region ?_
                        refine wl_det rfl rfl rfl (op_val (v' := .bool false) (by simp [h9]) (op_eql rfl rfl)) ?_
                        refine wl_det rfl rfl rfl (op_assign rfl) ?_
                        refine wl_nil ?_
                        refine st_tn ?_
                        refine w_cond_f (rfl) ?_
                        refine w_region ?_
                        refine wl_det rfl rfl rfl (op_val (v' := .bool true) (by simp [h10]) (op_eql rfl rfl)) ?_
                        refine wl_det rfl rfl rfl (op_assign rfl) ?_
                        refine wl_nil ?_
                        refine st_tn ?_
                        refine w_cond_t (rfl) ?_
                        refine w_seq ?_
                        refine w_region ?_
                        refine wl_det rfl rfl rfl (op_fieldAddr (off := 5) rfl tF43_5m) ?_
                        refine wl_det rfl rfl rfl (op_load1 rfl tO41m (Ent.lab (l := 5) rfl (says_cel 5))) ?_
                        refine wl_det rfl rfl rfl (op_fieldAddr (off := 5) rfl tF43_5m) ?_
                        refine wl_det rfl rfl rfl (op_load1 rfl tO41m (Ent.lab (l := 5) rfl (says_cel 5))) ?_
                        refine wl_det rfl rfl rfl (op_lenT rfl tS41m (Sl.ent (by first | exact Sl.app (by assumption) _ | exact Sl.app (Sl.app (by assumption) _) _))) ?_
                        refine wl_det rfl rfl rfl (op_val (v' := .int .i64 ((min x.sc.length 10 : Nat) : Int)) (by congr 1; omega) (op_min rfl rfl)) ?_
                        refine wl_det rfl rfl rfl (op_val (v' := .slice (SL.sub ax cx 0 1) (x.sc.take 10).length (cx - 0)) (by congr 1; rw [List.length_take]; omega) (op_sliceR rfl rfl tS41m (by first | exact Sl.app (by assumption) _ | exact Sl.app (Sl.app (by assumption) _) _) (by omega))) ?_
                        refine wl_det rfl rfl rfl (op_assign rfl) ?_
                        refine wl_nil ?_
                        refine st_tn ?_
                        refine w_seq ?_
                        refine w_region ?_
                        refine wl_det rfl rfl rfl (op_move rfl) ?_
                        refine wl_det rfl rfl rfl (op_move rfl) ?_
                        refine wl_op [601, 602] rfl rfl rfl rfl (op_fn Try.func26 rfl rfl rfl (start_any (sc := x.sc.take 10) hg hp (Sl.app hs10 _))) ?_
                        rintro _ _ ⟨l84, hp84, rfl, rfl⟩
                        refine wl_nil ?_
                        refine st_tn ?_
                        refine w_region ?_
                        refine wl_det rfl rfl rfl (op_move rfl) ?_
                        refine wl_det rfl rfl rfl (op_move rfl) ?_
                        refine wl_op [603, 604] rfl rfl rfl rfl (op_fn Try.func41 rfl rfl rfl (sstart_any (sc := x.sc.take 10) hg (Sl.app hs10 _))) ?_
                        rintro _ _ ⟨rfl, a88, m88, c88, rfl⟩
                        refine wl_nil ?_
                        refine st_bn ?_
                        refine st_tn ?_
                        refine w_seq ?_
                        refine w_region ?_
                        refine wl_det rfl rfl rfl (op_assign rfl) ?_
                        refine wl_nil ?_
                        refine st_tn ?_
                        refine w_ret ?_
                        refine st_ret (vs := [_]) [601, 602, 603, 604] Try.results24 ⟨rfl, trivial⟩ rfl ?_
                        refine ⟨[(601, _), (602, _), (603, _), (604, _)], rfl, ?_⟩
                        have hps : perfS s x = staO s (x.sc.take 10) := by unfold perfS; rw [if_neg (by omega), if_neg (by omega), if_neg (by omega), if_neg (by omega), if_neg (by omega), if_neg (by omega), if_pos (by omega)]
                        refine ⟨rfl, ?_⟩; rw [hps]; exact ⟨l84, a88, m88, c88, hp84, rfl⟩
                      · -- h10-
                        refine w_region ?_
                        refine wl_det rfl rfl rfl (op_val (v' := .bool false) (by simp [h0]) (op_eql rfl rfl)) ?_
                        refine wl_det rfl rfl rfl (op_assign rfl) ?_
                        refine wl_nil ?_
                        refine st_tn ?_
                        refine w_cond_f (rfl) ?_
                        refine w_seq ?_
                        refine w_region ?_
                        refine wl_det rfl rfl rfl (op_val (v' := .bool false) (by simp [h1]) (op_eql rfl rfl)) ?_
                        refine wl_det rfl rfl rfl (op_assign rfl) ?_
                        refine wl_nil ?_
                        refine st_tn ?_
                        refine w_cond_f (rfl) ?_
                        refine w_region ?_
                        refine wl_det rfl rfl rfl (op_val (v' := .bool false) (by simp [h2]) (op_eql rfl rfl)) ?_
                        refine wl_det rfl rfl rfl (op_assign rfl) ?_
                        refine wl_nil ?_
                        refine st_tn ?_
                        refine w_cond_f (rfl) ?_
                        refine w_seq ?_
                        refine w_seq ?_
                        refine w_region ?_
                        refine wl_det rfl rfl rfl (op_val (v' := .bool false) (by simp [h3]) (op_eql rfl rfl)) ?_
                        refine wl_det rfl rfl rfl (op_assign rfl) ?_
                        refine wl_nil ?_
                        refine st_tn ?_
                        refine w_cond_f (rfl) ?_
                        refine w_region ?_
                        refine wl_det rfl rfl rfl (op_val (v' := .bool false) (by simp [h4]) (op_eql rfl rfl)) ?_
                        refine wl_det rfl rfl rfl (op_assign rfl) ?_
                        refine wl_nil ?_
                        refine st_tn ?_
                        refine w_cond_f (rfl) ?_
                        refine w_seq ?_
                        refine w_region ?_
                        refine wl_det rfl rfl rfl (op_val (v' := .bool false) (by simp [h5]) (op_eql rfl rfl)) ?_
                        refine wl_det rfl rfl rfl (op_assign rfl) ?_
                        refine wl_nil ?_
                        refine st_tn ?_
                        refine w_cond_f (rfl) ?_
                        refine w_seq ?_
                        refine w_region ?_
                        refine wl_det rfl rfl rfl (op_val (v' := .bool false) (by simp [h6]) (op_eql rfl rfl)) ?_
                        refine wl_det rfl rfl rfl (op_assign rfl) ?_
                        refine wl_nil ?_
                        refine st_tn ?_
                        refine w_cond_f (rfl) ?_
                        refine w_seq ?_
                        refine w_region ?_
                        refine wl_det rfl rfl rfl (op_val (v' := .bool false) (by simp [h7]) (op_eql rfl rfl)) ?_
                        refine wl_det rfl rfl rfl (op_assign rfl) ?_
                        refine wl_nil ?_
                        refine st_tn ?_
                        refine w_cond_f (rfl) ?_
                        refine w_seq ?_
                        refine w_region ?_
                        refine wl_det rfl rfl rfl (op_val (v' := .bool false) (by simp [h8]) (op_eql rfl rfl)) ?_
                        refine wl_det rfl rfl rfl (op_assign rfl) ?_
                        refine wl_nil ?_
                        refine st_tn ?_
                        refine w_cond_f (rfl) ?_
                        refine w_seq ?_
                        refine w_seq ?_
                        refine w_region ?_
                        refine wl_det rfl rfl rfl (op_val (v' := .bool false) (by simp [h9]) (op_eql rfl rfl)) ?_
                        refine wl_det rfl rfl rfl (op_assign rfl) ?_
                        refine wl_nil ?_
                        refine st_tn ?_
                        refine w_cond_f (rfl) ?_
                        refine w_region ?_
                        refine wl_det rfl rfl rfl (op_val (v' := .bool false) (by simp [h10]) (op_eql rfl rfl)) ?_
                        refine wl_det rfl rfl rfl (op_assign rfl) ?_
                        refine wl_nil ?_
                        refine st_tn ?_
                        refine w_cond_f (rfl) ?_
                        refine w_seq ?_
                        refine w_region ?_
                        refine wl_det rfl rfl rfl (op_move rfl) ?_
                        refine wl_det rfl rfl rfl (op_move rfl) ?_
                        refine wl_det rfl rfl rfl (op_fn Try.func28 rfl rfl rfl (read_any (s := s) (m := m) (nmN x.n) hg hp (nm_max _) (celD 601 rfl) (Mr.lab 602 rfl))) ?_
                        refine wl_det rfl rfl rfl (op_move rfl) ?_
                        refine wl_det rfl rfl rfl (op_extract rfl rfl) ?_
                        refine wl_det rfl rfl rfl (op_extract rfl rfl) ?_
                        refine wl_det rfl rfl rfl (op_assign rfl) ?_
                        refine wl_det rfl rfl rfl (op_assign rfl) ?_
                        refine wl_nil ?_
                        refine st_tn ?_
                        refine w_seq ?_
                        refine w_region ?_
                        refine wl_det rfl rfl rfl (op_move rfl) ?_
                        refine wl_det rfl rfl rfl (op_move rfl) ?_
                        refine wl_det rfl rfl rfl (op_fn Try.func42 rfl rfl rfl (sread_any (s := s) (nmN x.n) false hg (nm_max _) (celS (l := 603) rfl) (Sl.lab 604 rfl (by unfold maxLen; omega)))) ?_
                        refine wl_det rfl rfl rfl (op_move rfl) ?_
                        refine wl_det rfl rfl rfl (op_extract rfl rfl) ?_
                        refine wl_det rfl rfl rfl (op_extract rfl rfl) ?_
                        refine wl_det rfl rfl rfl (op_assign rfl) ?_
                        refine wl_det rfl rfl rfl (op_assign rfl) ?_
                        refine wl_nil ?_
                        refine st_tn ?_
                        refine w_seq ?_
                        refine w_region ?_
                        refine wl_det rfl rfl rfl (op_move rfl) ?_
                        refine wl_det rfl rfl rfl (op_move rfl) ?_
                        refine wl_det rfl rfl rfl (op_fn Try.func33 rfl rfl rfl (durable_any (s := s) (m := m) (nmN x.n) hg hp (nm_max _) (celD 601 rfl) (Mr.lab 602 rfl))) ?_
                        refine wl_det rfl rfl rfl (op_move rfl) ?_
                        refine wl_det rfl rfl rfl (op_extract rfl rfl) ?_
                        refine wl_det rfl rfl rfl (op_extract rfl rfl) ?_
                        refine wl_det rfl rfl rfl (op_assign rfl) ?_
                        refine wl_det rfl rfl rfl (op_assign rfl) ?_
                        refine wl_nil ?_
                        refine st_tn ?_
                        refine w_seq ?_
                        refine w_region ?_
                        refine wl_det rfl rfl rfl (op_move rfl) ?_
                        refine wl_det rfl rfl rfl (op_move rfl) ?_
                        refine wl_det rfl rfl rfl (op_fn Try.func42 rfl rfl rfl (sread_any (s := s) (nmN x.n) true hg (nm_max _) (celS (l := 603) rfl) (Sl.lab 604 rfl (by unfold maxLen; omega)))) ?_
                        refine wl_det rfl rfl rfl (op_move rfl) ?_
                        refine wl_det rfl rfl rfl (op_extract rfl rfl) ?_
                        refine wl_det rfl rfl rfl (op_extract rfl rfl) ?_
                        refine wl_det rfl rfl rfl (op_assign rfl) ?_
                        refine wl_det rfl rfl rfl (op_assign rfl) ?_
                        refine wl_nil ?_
                        refine st_tn ?_
                        refine w_seq ?_
                        refine w_region ?_
                        refine wl_det rfl rfl rfl (op_move rfl) ?_
                        refine wl_det rfl rfl rfl (op_move rfl) ?_
                        refine wl_det rfl rfl rfl (op_val (v' := .bool true) (by simp) (op_eqBs rfl rfl)) ?_
                        refine wl_det rfl rfl rfl (op_move rfl) ?_
                        refine wl_wanted_det rfl rfl rfl rfl rfl rfl rfl (op_move rfl) ?_
                        refine wl_wanted_det rfl rfl rfl rfl rfl rfl rfl (op_move rfl) ?_
                        refine wl_wanted_det rfl rfl rfl rfl rfl rfl rfl (op_val (v' := .bool true) (by simp) (op_eql rfl rfl)) ?_
                        refine wl_det rfl rfl rfl (op_pick_t rfl rfl) ?_
                        refine wl_det rfl rfl rfl (op_move rfl) ?_
                        refine wl_wanted_det rfl rfl rfl rfl rfl rfl rfl (op_move rfl) ?_
                        refine wl_wanted_det rfl rfl rfl rfl rfl rfl rfl (op_move rfl) ?_
                        refine wl_wanted_det rfl rfl rfl rfl rfl rfl rfl (op_val (v' := .bool true) (by simp) (op_eqBs rfl rfl)) ?_
                        refine wl_det rfl rfl rfl (op_pick_t rfl rfl) ?_
                        refine wl_det rfl rfl rfl (op_move rfl) ?_
                        refine wl_wanted_det rfl rfl rfl rfl rfl rfl rfl (op_move rfl) ?_
                        refine wl_wanted_det rfl rfl rfl rfl rfl rfl rfl (op_move rfl) ?_
                        refine wl_wanted_det rfl rfl rfl rfl rfl rfl rfl (op_val (v' := .bool true) (by simp) (op_eql rfl rfl)) ?_
                        refine wl_det rfl rfl rfl (op_pick_t rfl rfl) ?_
                        refine wl_det rfl rfl rfl (op_assign rfl) ?_
                        refine wl_nil ?_
                        refine st_tn ?_
                        refine w_ret ?_
                        refine st_br ?_
                        refine st_tr ?_
                        refine st_ret (vs := [_]) [601, 602, 603, 604] Try.results24 ⟨rfl, trivial⟩ rfl ?_
                        refine ⟨[(601, _), (602, _), (603, _), (604, _)], rfl, ?_⟩
                        have hps : perfS s x = s := by unfold perfS; rw [if_neg (by omega), if_neg (by omega), if_neg (by omega), if_neg (by omega), if_neg (by omega), if_neg (by omega), if_neg (by omega)]
                        refine ⟨rfl, ?_⟩; rw [hps]; exact ⟨l, a, mm, c, hp, rfl⟩

end Go.Proofs.Ytjlbeakdgadpmaa
