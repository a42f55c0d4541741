/- Contracts: the keys of a disk's map in order, Used, find, Read, Durable, List and the small methods (layer 26). Conditions: none. -/
import Derived.Test.YtjlbeakdgadpmaaD1
import Derived.Test.YtjlbeakdgadpmaaSl7
import Derived.Test.YtjlbeakdgadpmaaShelf
import Derived.Test.YtjlbeakdgadpmaaIter
namespace Go.Proofs.Ytjlbeakdgadpmaa
open Go Go.SL Go.RowKit Go.DskM
set_option linter.unusedVariables false
set_option linter.unusedSimpArgs false
theorem tA68b : aggB Try.prog 68 3 = true := by kernel_rfl
theorem tB68b : placesB Try.prog 68 = some ([(0, 1), (1, 1), (2, 1)], [Value.string .empty, Value.int .i64 0, Value.bool false]) := by kernel_rfl
theorem tF65_1b : fieldB Try.prog 65 1 1 = true := by kernel_rfl
theorem tF68_0b : fieldB Try.prog 68 0 0 = true := by kernel_rfl
theorem tL48_1b : zerosB Try.prog 48 9 1 1 = some [Value.string .empty] := by kernel_rfl
theorem tN68b : (Try.prog.info? 68).bind (·.zero) = some (Value.agg #[Value.string .empty, Value.int .i64 0, Value.bool false]) := by kernel_rfl
theorem tO63b : oneB Try.prog 63 = true := by kernel_rfl
theorem tO9b : oneB Try.prog 9 = true := by kernel_rfl
theorem tQ63b : mapB Try.prog 63 9 68 KL.desc := ⟨Try.underlying63, Try.underlying9⟩
theorem tZ68b : (Try.prog.info? 68).map (·.size) = some 3 := by kernel_rfl

theorem Sl.nilv {σ : World} {F : List Res} {α : Type} {enc : α → List Value} {k : Nat} : Sl σ F enc k (.slice none 0 0) ([] : List α) := ⟨fun w hw => ⟨by simp, by simp, .inl ⟨_, _, rfl, rfl⟩⟩, by simp [maxLen]⟩
def keysOf (fs : Files) : List Bs := fs.map Prod.fst
theorem sortsS_in (m : Nat) : AnyZ.SortsIn Try.prog Try.sorted43_ren Fence.wide m :=
  ⟨fun blk off cap ss W hH hblk hsz => callsIn_wide.2 (Try.slices_Sort_string blk off cap ss W hH hblk hsz), fun p cap W => callsIn_wide.2 (Try.slices_Sort_string_none p cap W)⟩
theorem flat_T (l : List Bs) : (l.map encT).flatten = l.map encStr := flat_one (enc0 := encStr) (enc := encT) (fun _ => rfl) l
theorem sort_inc {l : List Bs} {fs : Files} (h : l.Perm (keysOf fs)) (hi : DskM.Inc fs) : l.mergeSort (fun x y => decide (x ≤ y)) = keysOf fs := by
  have tr : ∀ a b c : Bs, decide (a ≤ b) = true → decide (b ≤ c) = true → decide (a ≤ c) = true := fun a b c h1 h2 => by simp only [decide_eq_true_eq] at *; exact List.le_trans h1 h2
  have to : ∀ a b : Bs, (decide (a ≤ b) || decide (b ≤ a)) = true := fun a b => by simp only [Bool.or_eq_true, decide_eq_true_eq]; exact List.le_total a b
  refine List.Perm.eq_of_pairwise (le := fun a b => decide (a ≤ b) = true) (fun a b _ _ h1 h2 => ?_) (List.pairwise_mergeSort tr to l) ?_ ((List.mergeSort_perm l _).trans h)
  · simp only [decide_eq_true_eq] at h1 h2; exact List.le_antisymm h1 h2
  · exact (DskM.Inc.keys hi).imp fun h => decide_eq_true (List.not_lt.1 (lt_asymm h))
theorem gives_files {σ : World} {F : List Res} {b bb : Nat} {l : Files} (hb : Ent σ F (At ⟨bb, 0, none⟩ [.map (some b)])) (hm : Mr σ F KL encF (.map (some b)) l) (hk : ∀ p ∈ l, p.1.length ≤ maxLen) (hl : l.length ≤ 256) {w : World} (ho : SL.Own σ F w) (n : Nat) (hn : 1 ≤ n) :
    ∃ D : DataW Unit, Maps.size D = l.length ∧ (strKeys D).Perm (l.map Prod.fst) ∧ SeqGives Fence.wide n Try.prog 55 #[.pointer (some ⟨bb, 0, none⟩)] encStr (fun ss => ss.Perm (strKeys D)) (Maps.size D) w := by
  obtain ⟨b', o', e, hr⟩ := hb w ho
  cases e
  have hcell := hr 0 (.map (some b)) rfl
  rcases hm w ho with ⟨h1, _⟩ | ⟨b2, bs, clock, h1, h2, h3⟩
  · cases h1
  · cases h1
    obtain ⟨D, h4, h5, h6⟩ := ownsS_of Try.underlying9 h2 h3 hk (by unfold maxLen; omega)
    exact ⟨D, h5, h6, AnyZ.keys_gives (ρ := Try.keys44_ren) { Try.keys44 with } Fence.wide n trivial rfl hn bb b l.length D w (cell_lt hcell) hcell h4⟩
theorem sortedK {σ : World} {F : List Res} {b bb : Nat} {l fs : Files} (lab : Nat) (hb : Ent σ F (At ⟨bb, 0, none⟩ [.map (some b)])) (hm : Mr σ F KL encF (.map (some b)) l) (hp : l.Perm fs) (hi : DskM.Inc fs) (hk : ∀ p ∈ fs, p.1.length ≤ maxLen) (hl : fs.length ≤ 256) :
    FnT Try.prog σ F 43 [.func (.func 55) #[] #[.pointer (some ⟨bb, 0, none⟩)]] [] (fun u ρ => ∃ a c, u = .slice a (keysOf fs).length c ∧ ρ = [(lab, slW 9 encT 1 (.slice a (keysOf fs).length c) (keysOf fs))]) := by
  intro w ho
  have ho' : SL.Own σ F w := ho
  obtain ⟨D, h1, h2, hseq⟩ := gives_files hb hm (fun p h => hk p (hp.mem_iff.1 h)) (by rw [hp.length_eq]; exact hl) ho' 2 (by omega)
  have hll := hp.length_eq
  refine ((callsIn_wide (n := 5)).1 (AnyZ.sorted_in Try.sorted43 Fence.wide 5 trivial trivial trivial trivial rfl (by omega) (sortsS_in _) (enters_of Try.func54 (by kernel_rfl) rfl) 55 #[.pointer (some ⟨bb, 0, none⟩)] trivial (enters_of Try.func55 (by kernel_rfl) rfl) _ _ (by rw [h1]; unfold maxLen; omega) (by rw [h1]; omega) w hseq)).mono ?_
  rintro e W' ⟨u, ss, rfl, hS, hrow, _, hbel⟩
  have hsort := sort_inc ((hS.trans h2).trans (hp.map Prod.fst)) hi
  have hlen : ss.length = (keysOf fs).length := by rw [((hS.trans h2).trans (hp.map Prod.fst)).length_eq]; rfl
  rw [hsort, hlen, ← flat_T] at hrow
  obtain ⟨a, c, rfl, hown⟩ := own_row ho' hbel hrow (fun _ => rfl) (by rw [keysOf, List.length_map]; unfold maxLen; omega)
  exact ⟨_, _, rfl, ⟨a, c, rfl, rfl⟩, hown⟩
set_option maxHeartbeats 400000 in
set_option maxRecDepth 100000 in
theorem keys_any {σ : World} {F : List Res} {m : Nat} (lab : Nat) :
    FnT Try.prog σ F 44 [.map (some m)] [] (fun u ρ => ∃ bb, u = .func (.func 55) #[] #[.pointer (some ⟨bb, 0, none⟩)] ∧ ρ = [(lab, cel bb [.map (some m)] 63)]) := by
  refine fn_of 4 Try.func44 rfl Try.ntmps44 rfl ?_
  refine w_seq ?_
  refine w_region ?_
  refine wl_op [] rfl rfl rfl rfl (op_box (T := 63) (l := 1) rfl) ?_
  rintro _ _ ⟨b1, rfl, rfl⟩
  refine wl_det rfl rfl rfl (op_assign rfl) ?_
  refine wl_nil ?_
  refine st_tn ?_
  refine w_seq ?_
  refine w_region ?_
  refine wl_det rfl rfl rfl (op_makeFunc rfl rfl) ?_
  refine wl_det rfl rfl rfl (op_assign rfl) ?_
  refine wl_nil ?_
  refine st_tn ?_
  refine w_ret ?_
  refine st_ret (vs := [_]) [1] Try.results44 ⟨rfl, trivial⟩ rfl ?_
  refine ⟨[(lab, _)], rfl, ?_⟩
  exact ⟨_, rfl, rfl⟩

theorem name_len {s : St} (hg : DskM.Good s) : ∀ p ∈ s.fs, p.1.length ≤ maxLen := fun p hp => by
  have := hg.nam p hp
  rw [nameB_iff] at this
  have := (of_decide_eq_true this).2.1
  unfold maxLen; omega
theorem look_fs {s : St} {l : Files} (hg : DskM.Good s) (hp : l.Perm s.fs) (k : Bs) : lookK KL l k = find s.fs k := look_perm hp ((hp.map Prod.fst).nodup_iff.2 hg.inc.nod) k
theorem len_fs {s : St} {l : Files} (hg : DskM.Good s) (hp : l.Perm s.fs) : l.length ≤ 256 := by rw [hp.length_eq]; exact hg.cnt
set_option maxHeartbeats 400000 in
set_option maxRecDepth 100000 in
theorem used_any {σ : World} {F : List Res} {b m : Nat} {s : St} {l : Files} {bs : List Nat} {ck : Nat} (hg : DskM.Good s) (hp : l.Perm s.fs) (hd : Ent σ F (At ⟨b, 0, none⟩ (cellD s m))) (hm : Me σ F KL encF m l bs ck) :
    FnT Try.prog σ F 16 [.pointer (some ⟨b, 0, none⟩)] [] (fun u ρ => u = .int .i64 (if s.down = true then 0 else (used s.fs : Int)) ∧ ρ = []) := by
  refine fn_of 24 Try.func16 rfl Try.ntmps16 rfl ?_
  have hlen := len_fs hg hp
  have huse := hg.use
  have hcap := hg.cap
  have hul := used_perm hp
  refine w_seq ?_
  refine w_region ?_
  refine wl_det rfl rfl rfl (op_assign rfl) ?_
  refine wl_nil ?_
  refine st_tn ?_
  refine w_seq ?_
  refine w_seq ?_
  refine w_region ?_
  refine wl_det rfl rfl rfl (op_move rfl) ?_
  refine wl_det rfl rfl rfl (op_fn Try.func35 rfl rfl rfl (ready_any (s := s) (m := m) (l := []) (Ent.app hd _) Sl.nilv (by simp))) ?_
  refine wl_det rfl rfl rfl (op_neq rfl rfl) ?_
  refine wl_nil ?_
  refine st_tn ?_
  refine w_cond_d rfl (fun hc8 => ?_) (fun hc8 => ?_)
  · -- c8.t
    have hdn : s.down = true := by
      unfold readyE at hc8
      by_cases h : s.down = true
      · exact h
      · simp [h] at hc8
    refine w_seq ?_
    refine w_region ?_
    refine wl_det rfl rfl rfl (op_assign rfl) ?_
    refine wl_nil ?_
    refine st_tn ?_
    refine w_ret ?_
    refine st_tr ?_
    refine st_ret (vs := [_]) [] Try.results16 ⟨rfl, trivial⟩ rfl ?_
    refine ⟨_, rfl, ?_⟩
    exact ⟨by simp [retv, hdn], rfl⟩
  · -- c8.f
    have hdn : s.down = false := by
      unfold readyE at hc8
      by_cases h : s.down = true
      · simp [h] at hc8
      · simpa using h
    refine w_skip ?_
    refine st_tn ?_
    refine w_seq ?_
    refine w_region ?_
    refine wl_det rfl rfl rfl (op_assign rfl) ?_
    refine wl_nil ?_
    refine st_tn ?_
    refine w_seq ?_
    refine w_seq ?_
    refine w_region ?_
    refine wl_det rfl rfl rfl (op_move rfl) ?_
    refine wl_det rfl rfl rfl (op_nilCheck rfl) ?_
    refine wl_det rfl rfl rfl (op_fieldAddr (off := 1) rfl tF65_1b) ?_
    refine wl_det rfl rfl rfl (op_load1 rfl tO63b (Ent.app (Ent.fld hd 1) _)) ?_
    refine wl_op [] rfl rfl rfl rfl (op_range (kt := KL) (encV := encF) (lab := 13) rfl tQ63b (Ent.app hm _)) ?_
    rintro _ _ ⟨r13, rfl, rfl⟩
    refine wl_nil ?_
    refine st_tn ?_
    refine w_block ?_
    refine w_loopQ (X := List (Bs × Fl) × List (Bs × Fl) × Nat) (fun z => (z.1 ++ z.2.1).Perm l ∧ z.2.2 = used z.1) (fun z => [(3, .int .i64 (z.2.2))]) (fun z => [(13, itR r13 m l bs ck (z.1) (z.2.1))]) (fun z => z.2.1.length) (([], l, 0)) [(13, _)] [] [13] rfl (rfl) (.cons rfl (.nil _)) (.cons rfl (.nil _)) (by
        try dsimp only
        exact ⟨List.Perm.refl _, rfl⟩) ?_
    rintro ⟨dn_it, td_it, n⟩ ⟨hperm, hn⟩
    refine w_norm2 (by dsimp only [List.cons_append, List.nil_append]) (by dsimp only [List.cons_append, List.nil_append]) ?_
    try dsimp only at hperm hn ⊢
    refine w_seq ?_
    refine w_region ?_
    refine wl_op [13] rfl rfl rfl rfl (op_next (kt := KL) (encV := encF) (lab := 13) rfl (Ent.app hm _)) ?_
    rintro _ _ ⟨o14, dn14, td14, rfl, rfl, hn14⟩
    refine wl_det rfl rfl rfl (op_nextOk rfl) ?_
    refine wl_nil ?_
    refine st_tn ?_
    refine w_seq ?_
    refine w_cond rfl (fun hc15 => ?_) (fun hc15 => ?_)
    · -- c15.t
      obtain ⟨p, hpe⟩ := Option.isSome_iff_exists.1 hc15
      subst hpe
      obtain ⟨hdn14, hpt⟩ : dn14 = p :: dn_it ∧ td_it.Perm (p :: td14) := hn14
      subst hdn14
      have hu2 := used_perm (perm_next hperm hpt)
      have hu3 : used ((p :: dn_it) ++ td14) = p.2.data.length + used dn_it + used td14 := by simp [used, Nat.add_assoc]
      refine w_skip ?_
      refine st_tn ?_
      refine w_block ?_
      refine w_seq ?_
      refine w_region ?_
      refine wl_det rfl rfl rfl (op_entry (kt := KL) (encV := encF) rfl (Ent.app hm _) (It.lab 13 rfl)) ?_
      refine wl_det rfl rfl rfl (op_extract rfl rfl) ?_
      refine wl_op [] rfl rfl rfl rfl (op_alloc (l := 5) tN68b) ?_
      rintro _ _ ⟨b5, rfl, rfl⟩
      refine wl_op0 [5] rfl rfl rfl (op_store rfl rfl tZ68b (by rfl) (by rfl) (by exact Nat.le_of_ble_eq_true rfl)) ?_
      rintro _ _ ⟨rfl, rfl⟩
      refine wl_nil ?_
      refine st_tn ?_
      refine w_region ?_
      refine wl_det rfl rfl rfl (op_move rfl) ?_
      refine wl_det rfl rfl rfl (op_fieldAddr (off := 0) rfl tF68_0b) ?_
      refine wl_det rfl rfl rfl (op_load1 rfl tO9b (Ent.lab (l := 5) rfl (says_cel 0))) ?_
      refine wl_det rfl rfl rfl (op_lenBs rfl Try.underlying9) ?_
      refine wl_det rfl rfl rfl (op_add' rfl rfl (by omega)) ?_
      refine wl_det rfl rfl rfl (op_assign rfl) ?_
      refine wl_nil ?_
      refine st_bn ?_
      refine st_roundQ (x := (dn_it, td_it, n)) ((_, _, n + p.2.data.length)) [13] rfl (rfl) (.cons rfl (.nil _)) (.cons rfl (.nil _)) (by
          try dsimp only
          exact ⟨perm_next hperm hpt, by rw [used_cons]; omega⟩) (by
          try dsimp only
          have := hpt.length_eq; simp at this; omega) 
    · -- c15.f
      have ho : o14 = none := by simpa using hc15
      subst ho
      obtain ⟨htd, hdn14, htd14⟩ : td_it = [] ∧ dn14 = dn_it ∧ td14 = [] := hn14
      subst htd
      rw [List.append_nil] at hperm
      refine w_exit ?_
      refine st_te ?_
      refine st_te ?_
      refine st_be ?_
      refine st_tn ?_
      refine w_seq ?_
      refine w_region ?_
      refine wl_det rfl rfl rfl (op_move rfl) ?_
      refine wl_det rfl rfl rfl (op_assign rfl) ?_
      refine wl_nil ?_
      refine st_tn ?_
      refine w_ret ?_
      refine st_ret (vs := [_]) [] Try.results16 ⟨rfl, trivial⟩ rfl ?_
      refine ⟨_, rfl, ?_⟩
      exact ⟨by rw [used_perm hperm] at hn; simp [retv, hdn, hn, used_perm hp], rfl⟩

/-- What find finds. -/
def findO (s : St) (n : Bs) : Fl × Int := if readyE s [n] ≠ 0 then (zeroF, readyE s [n]) else match find s.fs n with | none => (zeroF, 10) | some f => (f, 0)
theorem look_val {s : St} {l : Files} {n : Bs} {f : Fl} {z : Value} (h : lookK KL l n = find s.fs n) (hf : find s.fs n = some f) : Value.tuple #[((lookK KL l n).map encF).getD z, .bool (lookK KL l n).isSome] = .tuple #[encF f, .bool true] := by rw [h, hf]; rfl
theorem look_val0 {s : St} {l : Files} {n : Bs} {z : Value} (h : lookK KL l n = find s.fs n) (hf : find s.fs n = none) : Value.tuple #[((lookK KL l n).map encF).getD z, .bool (lookK KL l n).isSome] = .tuple #[z, .bool false] := by rw [h, hf]; rfl
set_option maxHeartbeats 400000 in
set_option maxRecDepth 100000 in
theorem find_any {σ : World} {F : List Res} {b m : Nat} {s : St} {l : Files} (n : Bs) (hg : DskM.Good s) (hp : l.Perm s.fs) (hn : n.length ≤ maxLen) (hd : Ent σ F (At ⟨b, 0, none⟩ (cellD s m))) (hm' : Mr σ F KL encF (.map (some m)) l) :
    FnT Try.prog σ F 37 [.pointer (some ⟨b, 0, none⟩), .string (str n)] [] (fun u ρ => u = .tuple #[encF (findO s n).1, .int .i64 (findO s n).2] ∧ ρ = []) := by
  refine fn_of 30 Try.func37 rfl Try.ntmps37 rfl ?_
  have hlk := look_fs hg hp n
  refine w_seq ?_
  refine w_region ?_
  refine wl_op [] rfl rfl rfl rfl (op_alloc (l := 4) tN68b) ?_
  rintro _ _ ⟨b4, rfl, rfl⟩
  refine wl_det rfl rfl rfl (op_assign rfl) ?_
  refine wl_nil ?_
  refine st_tn ?_
  refine w_seq ?_
  refine w_seq ?_
  refine w_region ?_
  refine wl_det rfl rfl rfl (op_move rfl) ?_
  refine wl_det rfl rfl rfl (op_move rfl) ?_
  refine wl_op [] rfl rfl rfl rfl (op_buildSlice (enc := encT) (l := [_]) (lab := 11) tL48_1b rfl rfl (fun _ => rfl) rfl) ?_
  rintro _ _ ⟨a11, c11, rfl, rfl⟩
  refine wl_det rfl rfl rfl (op_fn Try.func35 rfl rfl rfl (ready_any (s := s) (m := m) (l := [n]) (Ent.app hd _) (Sl.lab 11 rfl (by simp [maxLen])) (by simpa using hn))) ?_
  refine wl_det rfl rfl rfl (op_assign rfl) ?_
  refine wl_nil ?_
  refine st_tn ?_
  refine w_seq ?_
  refine w_region ?_
  refine wl_det rfl rfl rfl (op_move rfl) ?_
  refine wl_det rfl rfl rfl (op_neq rfl rfl) ?_
  refine wl_nil ?_
  refine st_tn ?_
  refine w_cond_d rfl (fun hc14 => ?_) (fun hc14 => ?_)
  · -- c14.t
    refine w_seq ?_
    refine w_region ?_
    refine wl_det rfl rfl rfl (op_build tB68b rfl rfl) ?_
    refine wl_det rfl rfl rfl (op_move rfl) ?_
    refine wl_op0 [4] rfl rfl rfl (op_store rfl rfl tZ68b (by rfl) (by rfl) (by exact Nat.le_of_ble_eq_true rfl)) ?_
    rintro _ _ ⟨rfl, rfl⟩
    refine wl_det rfl rfl rfl (op_assign rfl) ?_
    refine wl_nil ?_
    refine st_tn ?_
    refine w_ret ?_
    refine st_tr ?_
    refine st_ret (vs := [_, _]) [] Try.results37 ⟨⟨_, rfl, Ent.mono (Ent.lab (l := 4) rfl (says_cel 0)) (fun _ h => run_load_agg tA68b h (Nat.le_of_ble_eq_true rfl))⟩, ⟨rfl, trivial⟩⟩ rfl ?_
    refine ⟨_, rfl, ?_⟩
    have h : findO s n = (zeroF, readyE s [n]) := by unfold findO; rw [if_pos hc14]
    rw [h]; exact ⟨rfl, rfl⟩
  · -- c14.f
    refine w_skip ?_
    refine st_tn ?_
    refine w_seq ?_
    by_cases hf : (find s.fs n).isSome = true
    · -- hf+
      obtain ⟨f, hff⟩ := Option.isSome_iff_exists.1 hf
      refine w_region ?_
      refine wl_det rfl rfl rfl (op_move rfl) ?_
      refine wl_det rfl rfl rfl (op_nilCheck rfl) ?_
      refine wl_det rfl rfl rfl (op_fieldAddr (off := 1) rfl tF65_1b) ?_
      refine wl_det rfl rfl rfl (op_load1 rfl tO63b (Ent.app (Ent.fld hd 1) _)) ?_
      refine wl_det rfl rfl rfl (op_move rfl) ?_
      refine wl_det rfl rfl rfl (op_val (v' := .tuple #[encF f, .bool true]) (by exact look_val hlk hff) (op_lookup2 (kt := KL) (encV := encF) rfl rfl tQ63b tN68b (Ent.app hm' _))) ?_
      refine wl_det rfl rfl rfl (op_move rfl) ?_
      refine wl_det rfl rfl rfl (op_extract rfl rfl) ?_
      refine wl_det rfl rfl rfl (op_extract rfl rfl) ?_
      refine wl_op [] rfl rfl rfl rfl (op_alloc (l := 7) tN68b) ?_
      rintro _ _ ⟨b7, rfl, rfl⟩
      refine wl_op0 [7] rfl rfl rfl (op_store rfl rfl tZ68b (by rfl) (by rfl) (by exact Nat.le_of_ble_eq_true rfl)) ?_
      rintro _ _ ⟨rfl, rfl⟩
      refine wl_det rfl rfl rfl (op_assign rfl) ?_
      refine wl_nil ?_
      refine st_tn ?_
      refine w_seq ?_
      refine w_seq ?_
      refine w_region ?_
      refine wl_det rfl rfl rfl (op_move rfl) ?_
      refine wl_det rfl rfl rfl (op_not_t rfl) ?_
      refine wl_nil ?_
      refine st_tn ?_
      refine w_cond_f (rfl) ?_
      refine w_skip ?_
      refine st_tn ?_
      refine w_seq ?_
      refine w_region ?_
      refine wl_det rfl rfl rfl (op_loadA rfl tA68b (Ent.lab (l := 7) rfl (says_cel 0)) (Nat.le_of_ble_eq_true rfl)) ?_
      refine wl_op0 [4] rfl rfl rfl (op_store rfl rfl tZ68b (by rfl) (by rfl) (by exact Nat.le_of_ble_eq_true rfl)) ?_
      rintro _ _ ⟨rfl, rfl⟩
      refine wl_det rfl rfl rfl (op_assign rfl) ?_
      refine wl_nil ?_
      refine st_tn ?_
      refine w_ret ?_
      refine st_ret (vs := [_, _]) [] Try.results37 ⟨⟨_, rfl, Ent.mono (Ent.lab (l := 4) rfl (says_cel 0)) (fun _ h => run_load_agg tA68b h (Nat.le_of_ble_eq_true rfl))⟩, ⟨rfl, trivial⟩⟩ rfl ?_
      refine ⟨_, rfl, ?_⟩
      have h : findO s n = (f, 0) := by unfold findO; rw [if_neg hc14, hff]
      rw [h]; exact ⟨rfl, rfl⟩
    · -- hf-
      have hff : find s.fs n = none := by simpa using hf
      refine w_region ?_
      refine wl_det rfl rfl rfl (op_move rfl) ?_
      refine wl_det rfl rfl rfl (op_nilCheck rfl) ?_
      refine wl_det rfl rfl rfl (op_fieldAddr (off := 1) rfl tF65_1b) ?_
      refine wl_det rfl rfl rfl (op_load1 rfl tO63b (Ent.app (Ent.fld hd 1) _)) ?_
      refine wl_det rfl rfl rfl (op_move rfl) ?_
      refine wl_det rfl rfl rfl (op_val (v' := .tuple #[encF zeroF, .bool false]) (by exact look_val0 hlk hff) (op_lookup2 (kt := KL) (encV := encF) rfl rfl tQ63b tN68b (Ent.app hm' _))) ?_
      refine wl_det rfl rfl rfl (op_move rfl) ?_
      refine wl_det rfl rfl rfl (op_extract rfl rfl) ?_
      refine wl_det rfl rfl rfl (op_extract rfl rfl) ?_
      refine wl_op [] rfl rfl rfl rfl (op_alloc (l := 7) tN68b) ?_
      rintro _ _ ⟨b7, rfl, rfl⟩
      refine wl_op0 [7] rfl rfl rfl (op_store rfl rfl tZ68b (by rfl) (by rfl) (by exact Nat.le_of_ble_eq_true rfl)) ?_
      rintro _ _ ⟨rfl, rfl⟩
      refine wl_det rfl rfl rfl (op_assign rfl) ?_
      refine wl_nil ?_
      refine st_tn ?_
      refine w_seq ?_
      refine w_seq ?_
      refine w_region ?_
      refine wl_det rfl rfl rfl (op_move rfl) ?_
      refine wl_det rfl rfl rfl (op_not_f rfl) ?_
      refine wl_nil ?_
      refine st_tn ?_
      refine w_cond_t (rfl) ?_
      refine w_seq ?_
      refine w_region ?_
      refine wl_det rfl rfl rfl (op_build tB68b rfl rfl) ?_
      refine wl_op0 [4] rfl rfl rfl (op_store rfl rfl tZ68b (by rfl) (by rfl) (by exact Nat.le_of_ble_eq_true rfl)) ?_
      rintro _ _ ⟨rfl, rfl⟩
      refine wl_det rfl rfl rfl (op_assign rfl) ?_
      refine wl_nil ?_
      refine st_tn ?_
      refine w_ret ?_
      refine st_tr ?_
      refine st_ret (vs := [_, _]) [] Try.results37 ⟨⟨_, rfl, Ent.mono (Ent.lab (l := 4) rfl (says_cel 0)) (fun _ h => run_load_agg tA68b h (Nat.le_of_ble_eq_true rfl))⟩, ⟨rfl, trivial⟩⟩ rfl ?_
      refine ⟨_, rfl, ?_⟩
      have h : findO s n = (zeroF, 10) := by unfold findO; rw [if_neg hc14, hff]
      rw [h]; exact ⟨rfl, rfl⟩

end Go.Proofs.Ytjlbeakdgadpmaa
