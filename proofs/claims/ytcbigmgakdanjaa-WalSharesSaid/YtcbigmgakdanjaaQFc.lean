/- Contracts: Truncate of a log. Contracts: the model of layer 27: its states in pools; do. Contracts: do (layer 27's model): Discard, Open, Commit. Contracts: do (layer 27's model): Commit, Truncate. Contracts: agrees (layer 27's model). A log on a disk that does not fail, operation for operation (layer 27). do, whatever the operation, on a disk that does not fail; the law Runs (layer 27). The law Crashes (layer 27): a disk that fails and starts again. Two logs on one disk (layer 27): what an operation on one of them leaves to the other. The law Shares (layer 27). Conditions: none. -/
import Derived.Test.YtcbigmgakdanjaaSlZ
import Derived.Test.YtcbigmgakdanjaaQFb
namespace Go.Proofs.Ytcbigmgakdanjaa
open Go Go.SL Go.RowKit Go.RdM Go.WalM
set_option linter.unusedVariables false
set_option linter.unusedSimpArgs false
theorem tA87xd : aggB Try.prog 87 4 = true := by kernel_rfl
theorem tF76_0xd : fieldB Try.prog 76 0 0 = true := by kernel_rfl
theorem tF76_2xd : fieldB Try.prog 76 2 2 = true := by kernel_rfl
theorem tF76_3xd : fieldB Try.prog 76 3 3 = true := by kernel_rfl
theorem tF87_0xd : fieldB Try.prog 87 0 0 = true := by kernel_rfl
theorem tF87_1xd : fieldB Try.prog 87 1 1 = true := by kernel_rfl
theorem tF87_2xd : fieldB Try.prog 87 2 2 = true := by kernel_rfl
theorem tMixxd : Try.prog.follows .mixedOrders = true := by kernel_rfl
theorem tN87xd : (Try.prog.info? 87).bind (·.zero) = some (Value.agg #[Value.int .i64 0, Value.int .i64 0, Value.int .i64 0, Value.int .i64 0]) := by kernel_rfl
theorem tO22xd : oneB Try.prog 22 = true := by kernel_rfl
theorem tO3xd : oneB Try.prog 3 = true := by kernel_rfl
theorem tO73xd : oneB Try.prog 73 = true := by kernel_rfl
theorem tO74xd : oneB Try.prog 74 = true := by kernel_rfl
theorem tQ74xd : mapB Try.prog 74 3 9 KZ.desc := ⟨Try.underlying74, Try.underlying3⟩
theorem tS73xd : sliceB Try.prog 73 87 4 = true := by kernel_rfl
theorem tZ73xd : (Try.prog.info? 73).map (·.size) = some 1 := by kernel_rfl
theorem tZ87xd : (Try.prog.info? 87).map (·.size) = some 4 := by kernel_rfl
abbrev SgL := List Sg
abbrev StE := DskM.St
theorem delK_len {l : List (Int × List UInt8)} {k : Int} (h : (lookK KZ l k).isSome = true) : (delK KZ l k).length + 1 = l.length := by
  induction l with
  | nil => simp [lookK] at h
  | cons q l ih =>
    unfold lookK at h
    unfold delK
    cases hq : KZ.eq k q.1 with
    | true => simp
    | false =>
      rw [hq] at h
      simp only [cond_false] at h ⊢
      have := ih h
      simp only [List.length_cons]; omega
theorem delK_sub {l : List (Int × List UInt8)} {k : Int} : (delK KZ l k).Sublist l := by
  induction l with
  | nil => exact List.Sublist.slnil
  | cons q l ih =>
    unfold delK
    cases hq : KZ.eq k q.1 with
    | true => exact List.sublist_cons_self _ _
    | false => exact ih.cons_cons _
theorem IsMap.del {l : List (Int × List UInt8)} {f : Nat} {x : RdM.Bs} {all : List RdM.Bs} (h : IsMap l f (x :: all)) : IsMap (delK KZ l (f : Int)) (f + 1) all := by
  obtain ⟨h1, h2, h3⟩ := h
  have hs : (lookK KZ l (f : Int)).isSome = true := by rw [h3, if_pos (Int.le_refl _)]; simp
  refine ⟨List.Nodup.sublist (List.Sublist.map _ delK_sub) h1, by have := delK_len hs; simp only [List.length_cons] at h2; omega, fun k => ?_⟩
  rw [look_del h1]
  by_cases hk : k = (f : Int)
  · have : KZ.eq k (f : Int) = true := by show (k == (f : Int)) = true; simpa using hk
    rw [this, cond_true, if_neg (by omega)]
  · have : KZ.eq k (f : Int) = false := by show (k == (f : Int)) = false; simpa using hk
    rw [this, cond_false, h3]
    by_cases h4 : ((f + 1 : Nat) : Int) ≤ k
    · rw [if_pos (by omega), if_pos h4]
      have e : (k - f).toNat = (k - ((f + 1 : Nat) : Int)).toNat + 1 := by omega
      rw [e, List.getElem?_cons_succ]
    · rw [if_neg (by omega), if_neg h4]
def truncG (nm : RdM.Bs) : Nat → List Sg → Int → DskM.St → Int × Nat × List Sg × DskM.St
  | f, x :: y :: l, n, s => if (f : Int) + x.recs.length - 1 ≤ n then
      (if (DskM.remO s (fileN nm x.num)).1 ≠ 0 then ((DskM.remO s (fileN nm x.num)).1, f, x :: y :: l, (DskM.remO s (fileN nm x.num)).2) else truncG nm (f + x.recs.length) (y :: l) n (DskM.remO s (fileN nm x.num)).2)
    else (0, f, x :: y :: l, s)
  | f, l, _, s => (0, f, l, s)
def truncO (nm : RdM.Bs) (L : Lg) (s : DskM.St) (n : Int) : Int × Lg × DskM.St :=
  if L.broken = true then (18, L, s)
  else ((truncG nm L.first L.segs n s).1, { L with first := (truncG nm L.first L.segs n s).2.1, segs := (truncG nm L.first L.segs n s).2.2.1, broken := decide ((truncG nm L.first L.segs n s).1 = 27) }, (truncG nm L.first L.segs n s).2.2.2)
theorem oks_tail {f : Nat} {x : Sg} {S : List Sg} (h : OkS f (x :: S)) (hS : S ≠ []) : OkS (f + x.recs.length) S := ⟨by have := h.pos; omega, fun h => absurd h hS, (List.pairwise_cons.1 h.inc).2, fun y hy => h.num y (by simp [hy]), fun y hy => h.grp y (by simp [hy])⟩
section
variable {P : Program} {σ : World} {n : Nat} {F : List Res} {e : Env} {R B0 : RL} {Q : Exit → Act → World → Prop}
theorem w_fact {c : Code} {φ : Prop} (lab : Nat) {r : Res} (ht : takeL R [lab] = some ([(lab, r)], B0)) (hφ : ∀ m, r m → φ) (k : φ → W P σ n c Q e R F) : W P σ n c Q e R F := fun a w hr hw => by
  have h1 : SL.Own σ (r :: (rs B0 ++ F)) w := by simpa [rs] using hw.take ht
  obtain ⟨m, hm, _⟩ := own_head h1
  exact k (hφ m hm) a w hr hw
end
theorem slO_fact {α : Type} {enc : α → List Value} {E k c : Nat} {a : Option Addr} {l : List α} (h : 0 < l.length) : ∀ m, slW E enc k (.slice a l.length c) l m → ∃ g, a = some ⟨g, 0, none⟩ ∧ l.length ≤ c := fun m hm => by
  obtain ⟨_, _, hv⟩ := hm
  rcases hv with ⟨_, hv⟩ | ⟨g, cap, cur, hv, _, h3, _⟩
  · have := congrArg List.length hv
    rw [List.length_map, List.length_nil] at this; omega
  · simp at hv
    obtain ⟨rfl, rfl⟩ := hv
    rw [List.length_map] at h3
    exact ⟨g, rfl, h3⟩
set_option maxHeartbeats 4000000 in
set_option maxRecDepth 100000 in
theorem ltrunc_any {σ : World} {F : List Res} {b d m c cp : Nat} {nm : RdM.Bs} {L : Lg} {a p : Option Addr} {l : List (Int × List UInt8)} {s : DskM.St} (n : Int) (hn : -9223372036854775808 ≤ n ∧ n ≤ 9223372036854775807) (hL : OkL L) (hg : DskM.Good s) (hnm : nm.length ≤ 48) (hm : IsMap l L.first (allR L.segs)) :
    FnT Try.prog σ F 34 [.pointer (some ⟨b, 0, none⟩), .int .i64 n] [(601, dkR d s), (611, cel b (cellL d nm (rawL L) m a c p cp) 76), (612, slW 87 encRow 4 (.slice a (rowsOf L.first L.segs).length c) (rowsOf L.first L.segs)), (613, mp KZ encSV m l), (614, slW 9 encT 1 (.slice p L.pend.length cp) L.pend)]
      (fun u ρ => ∃ i : LgT, IsMap i.2.2.2.2.2 (truncO nm L s n).2.1.first (allR (truncO nm L s n).2.1.segs) ∧ u = .int .i64 (truncO nm L s n).1 ∧ ρ = (601, dkR d (truncO nm L s n).2.2) :: cL b d nm (truncO nm L s n).2.1 i) := by
  refine fn_of 72 Try.func34 rfl Try.ntmps34 rfl ?_
  have hseg := hL.seg
  have hsz := hL.sz
  have hrl := hL.rowl
  refine w_seq (w_region (za rfl (wl_nil (st_tn (w_seq (w_seq (w_region (zm rfl (zd rfl (op_fn Try.func42 rfl rfl rfl (lready_any (v := rawL L) (celLg 611 rfl))) (za rfl (wl_nil (st_tn (w_seq ?_)))))))))))))
  refine w_region (zm rfl (zd rfl (op_neq rfl rfl) (wl_nil (st_tn (w_cond_d rfl (fun hc12 => ?_) (fun hc12 => ?_))))))
  · -- c12.t
    refine w_seq (w_region (zm rfl (za rfl (wl_nil (st_tn (w_ret (st_tr (st_ret (vs := [_]) [601, 611, 612, 613, 614] Try.results34 ⟨rfl, trivial⟩ rfl ?_))))))))
    refine ⟨[(601, _), (611, _), (612, _), (613, _), (614, _)], rfl, ?_⟩
    have hb : L.broken = true := ready_t hc12
    have h1 : truncO nm L s n = (18, L, s) := by unfold truncO; rw [if_pos hb]
    have h2 : readyL (rawL L) = 18 := by unfold readyL; rw [if_pos (show (rawL L).broken = true from hb)]
    rw [h1, h2]; exact ⟨(m, a, c, p, cp, l), hm, rfl, rfl⟩
  · -- c12.f
    have hb : L.broken = false := ready_f hc12
    have hbf : ¬ L.broken = true := by simp [hb]
    have htr : truncO nm L s n = ((truncG nm L.first L.segs n s).1, { L with first := (truncG nm L.first L.segs n s).2.1, segs := (truncG nm L.first L.segs n s).2.2.1, broken := decide ((truncG nm L.first L.segs n s).1 = 27) }, (truncG nm L.first L.segs n s).2.2.2) := by unfold truncO; rw [if_neg hbf]
    have hrw : rawL L = ⟨rowsOf L.first L.segs, L.pend, L.fresh, false⟩ := by unfold rawL; rw [hb]
    rw [hrw]
    refine w_skip (st_tn (w_seq (w_block ?_)))
    refine w_loopQ (X := Nat × SgL × StE × OA × Nat × List (Int × List UInt8)) (fun z => OkS z.1 z.2.1 ∧ DskM.Good z.2.2.1 ∧ truncG nm L.first L.segs n s = truncG nm z.1 z.2.1 n z.2.2.1 ∧ IsMap z.2.2.2.2.2 z.1 (allR z.2.1) ∧ z.1 + (allR z.2.1).length ≤ 1000000000000) (fun z => []) (fun z => [(613, mp KZ encSV m (z.2.2.2.2.2)), (601, dkR d (z.2.2.1)), (611, cel b (cellL d nm ⟨rowsOf (z.1) (z.2.1), L.pend, L.fresh, false⟩ m (z.2.2.2.1) (z.2.2.2.2.1) p cp) 76), (612, slW 87 encRow 4 (.slice (z.2.2.2.1) (rowsOf (z.1) (z.2.1)).length (z.2.2.2.2.1)) (rowsOf (z.1) (z.2.1)))]) (fun z => z.2.1.length) ((L.first, L.segs, s, a, c, l)) [(0, _), (1, _)] [(614, _)] [613, 601, 611, 612, 614] rfl (rfl) (.nil _) (.cons rfl (.cons rfl (.nil _))) (by
        try dsimp only
        exact ⟨hseg, hg, rfl, hm, hsz⟩) ?_
    rintro ⟨f1, S1, s1, a2, c2, D⟩ ⟨hS1, hg1, heq, hD, hz1⟩
    refine w_norm2 (by dsimp only [List.cons_append, List.nil_append]) (by dsimp only [List.cons_append, List.nil_append]) ?_
    try dsimp only at hS1 hg1 heq hD hz1 ⊢
    refine w_seq (w_seq ?_)
    have hr1 := rowsOf_len S1 f1
    have hSl := segs_le_all hS1.grp
    have hfp := hS1.pos
    obtain ⟨lst, hlst⟩ : ∃ lst : Int, lst = (f1 : Int) + ((S1.head?.map fun x => (x.recs.length : Int)).getD 0) - 1 := ⟨_, rfl⟩
    by_cases h1 : 1 < S1.length
    · -- h1+
      obtain ⟨x, y, S2, hS⟩ : ∃ x y S2, S1 = x :: y :: S2 := by
        match S1, h1 with
        | [], h1 => simp at h1
        | [x], h1 => simp at h1
        | x :: y :: S2, _ => exact ⟨x, y, S2, rfl⟩
      have hr0 : (rowsOf f1 S1)[0]? = some (x.num, f1, f1 + x.recs.length - 1, x.gs.length) := by rw [hS]; rfl
      have hl2 : lst = (f1 : Int) + x.recs.length - 1 := by rw [hlst, hS]; rfl
      have hxg := OkG.recs (hS1.grp x (by rw [hS]; simp))
      have hxn := hS1.num x (by rw [hS]; simp)
      have hall : allR S1 = x.recs ++ allR (y :: S2) := by rw [hS, allR_cons]
      have hxgl := gs_le (hS1.grp x (by rw [hS]; simp))
      by_cases h2 : lst ≤ n
      · -- h2+
        refine w_region (zm rfl (zd rfl (op_nilCheck rfl) (zd rfl (op_fieldAddr (off := 2) rfl tF76_2xd) (zd rfl (op_load1 rfl tO73xd (Ent.lab (l := 611) rfl (says_cel 2))) (zd rfl (op_lenT (enc := encRow) (l := rowsOf f1 S1) rfl tS73xd (Sl.ent (Sl.lab (E := 87) (enc := encRow) (l := rowsOf f1 S1) 612 rfl (by rw [hr1]; unfold maxLen; omega)))) ?_)))))
        refine zd rfl (op_val (v' := .bool true) (by rw [decide_eq_true (by omega)]) (op_gtr rfl rfl)) ?_
        refine zm rfl (wl_wanted_det rfl rfl rfl rfl rfl rfl rfl (op_move rfl) (wl_wanted_det rfl rfl rfl rfl rfl rfl rfl (op_nilCheck rfl) (wl_wanted_det rfl rfl rfl rfl rfl rfl rfl (op_fieldAddr (off := 2) rfl tF76_2xd) (wl_wanted_det rfl rfl rfl rfl rfl rfl rfl (op_load1 rfl tO73xd (Ent.lab (l := 611) rfl (says_cel 2))) (wl_wanted_det rfl rfl rfl rfl rfl rfl rfl (op_idx (i := 0) (l := rowsOf f1 S1) rfl rfl tS73xd (Sl.ent (Sl.lab (E := 87) (enc := encRow) (l := rowsOf f1 S1) 612 rfl (by rw [hr1]; unfold maxLen; omega))) (by omega)) ?_)))))
        refine wl_wanted_det rfl rfl rfl rfl rfl rfl rfl (op_fieldAddr (off := 2) rfl tF87_2xd) (wl_wanted_det rfl rfl rfl rfl rfl rfl rfl (op_ldxf rfl tO3xd (Sl.lab (E := 87) (enc := encRow) (l := rowsOf f1 S1) 612 rfl (by rw [hr1]; unfold maxLen; omega)) hr0 (by rfl)) ?_)
        refine wl_wanted_det rfl rfl rfl rfl rfl rfl rfl (op_move rfl) (wl_wanted_det rfl rfl rfl rfl rfl rfl rfl (op_val (v' := .bool true) (by rw [decide_eq_true]; show ((f1 + x.recs.length - 1 : Nat) : Int) ≤ n; omega) (op_leq rfl rfl)) ?_)
        refine zd rfl (op_pick_t rfl rfl) (wl_nil (st_tn (w_cond_t (rfl) ?_)))
        refine w_skip (st_tn (w_block (w_seq (w_region (zm rfl (zd rfl (op_nilCheck rfl) (zd rfl (op_fieldAddr (off := 2) rfl tF76_2xd) (zd rfl (op_load1 rfl tO73xd (Ent.lab (l := 611) rfl (says_cel 2))) (zd rfl (op_idx (i := 0) (l := rowsOf f1 S1) rfl rfl tS73xd (Sl.ent (Sl.lab (E := 87) (enc := encRow) (l := rowsOf f1 S1) 612 rfl (by rw [hr1]; unfold maxLen; omega))) (by omega)) ?_)))))))))
        refine zd rfl (op_ldxA rfl tA87xd (Sl.lab (E := 87) (enc := encRow) (l := rowsOf f1 S1) 612 rfl (by rw [hr1]; unfold maxLen; omega)) hr0 (by rfl) (by rfl)) ?_
        refine wl_op [] rfl rfl rfl rfl (op_alloc (l := 6) tN87xd) ?_
        rintro _ _ ⟨b6, rfl, rfl⟩
        refine wl_op0 [6] rfl rfl rfl (op_store rfl rfl tZ87xd (by rfl) (by rfl) (by exact Nat.le_of_ble_eq_true rfl)) ?_
        rintro _ _ ⟨rfl, rfl⟩
        refine wl_nil (st_tn (w_seq (w_seq ?_)))
        refine w_draw (D := [⟨37, [], [], [], _, false, [], []⟩, ⟨38, [0], [], [], _, false, [], []⟩, ⟨39, [1], [], [], _, false, [], []⟩, ⟨40, [2], [], [], _, false, [], []⟩, ⟨41, [], [], [], _, false, [], []⟩, ⟨42, [], [], [], _, false, [], []⟩, ⟨43, [5], [], [], _, false, [], []⟩, ⟨44, [4, 6], [], [], _, false, [], []⟩]) [] [0, 6] [⟨37, [], [], false, [], []⟩, ⟨38, [0], [], false, [], []⟩, ⟨39, [1], [], false, [], []⟩, ⟨40, [2], [], false, [], []⟩, ⟨41, [], [], false, [], []⟩, ⟨42, [], [], false, [], []⟩, ⟨43, [5], [], false, [], []⟩, ⟨44, [4, 6], [], false, [], []⟩] tMixxd (by rfl) (by kernel_rfl) (by rfl) (by rfl)
            ⟨.plain rfl (by intro X; exact op_move rfl),
            ⟨.plain rfl (by intro X; rintro _ _ ⟨rfl, rfl⟩; exact op_nilCheck rfl),
            ⟨.plain rfl (by intro X; rintro _ _ ⟨rfl, rfl⟩; exact op_fieldAddr (off := 0) rfl tF76_0xd),
            ⟨.plain rfl (by intro X; rintro _ _ ⟨rfl, rfl⟩; exact op_load1 rfl tO22xd (Ent.lab (l := 611) rfl (says_cel 0))),
            ⟨.plain rfl (by intro X; exact op_move rfl),
            ⟨.plain rfl (by intro X; exact op_fieldAddr (off := 0) rfl tF87_0xd),
            ⟨.plain rfl (by intro X; rintro _ _ ⟨rfl, rfl⟩; exact op_load1 rfl tO3xd (Ent.lab (l := 6) rfl (says_cel 0))),
            ⟨.plain rfl (by intro X; rintro _ _ ⟨rfl, rfl⟩ _ _ ⟨rfl, rfl⟩; exact op_fn Try.func45 rfl rfl rfl (file_any x.num hxn.2 (by omega) (celLg (v := ⟨rowsOf f1 S1, L.pend, L.fresh, false⟩) 611 rfl))),
            trivial⟩⟩⟩⟩⟩⟩⟩⟩ ?_
        rintro _ _ ⟨rfl, rfl⟩ _ _ ⟨rfl, rfl⟩ _ _ ⟨rfl, rfl⟩ _ _ ⟨rfl, rfl⟩ _ _ ⟨rfl, rfl⟩ _ _ ⟨rfl, rfl⟩ _ _ ⟨rfl, rfl⟩ _ _ ⟨rfl, rfl⟩
        refine wl_norm (e' := [(0, _), (1, _), (6, _), (40, _), (44, _)]) (.cons rfl (.cons rfl (.cons rfl (.cons rfl (.cons rfl (.nil _)))))) (by dsimp only [cond_false, cond_true, List.nil_append, List.cons_append]) ?_
        refine wl_op [601] rfl rfl rfl rfl (op_fn Try.func58 rfl rfl rfl (drem_c 601 (fileN nm x.num) hg1 (by rw [len_fileN]; unfold maxLen; omega))) ?_
        rintro _ _ ⟨rfl, rfl⟩
        refine za rfl (wl_nil (st_tn (w_seq (w_region (zm rfl (zd rfl (op_neq rfl rfl) (wl_nil (st_tn (w_cond_d rfl (fun hc47 => ?_) (fun hc47 => ?_))))))))))
        · -- c47.t
          refine w_seq (w_region (zm rfl (zm rfl (wl_op [611] rfl rfl rfl rfl (op_fn Try.func47 rfl rfl rfl (lfail_any (v := ⟨rowsOf f1 S1, L.pend, L.fresh, false⟩) (DskM.remO s1 (fileN nm x.num)).1)) ?_))))
          rintro _ _ ⟨rfl, rfl⟩
          refine za rfl (wl_nil (st_tn (w_ret (st_tr (st_br (st_tr (st_br (st_tr (st_ret (vs := [_]) [601, 611, 612, 613, 614] Try.results34 ⟨rfl, trivial⟩ rfl ?_)))))))))
          refine ⟨[(601, _), (611, _), (612, _), (613, _), (614, _)], rfl, ?_⟩
          have h3 : truncG nm L.first L.segs n s = ((DskM.remO s1 (fileN nm x.num)).1, f1, S1, (DskM.remO s1 (fileN nm x.num)).2) := by
            rw [heq, hS, truncG, if_pos (by omega), if_pos (by assumption)]
          rw [htr, h3]
          exact ⟨(m, a2, c2, p, cp, D), hD, rfl, rfl⟩
        · -- c47.f
          have hstep : truncG nm f1 S1 n s1 = truncG nm (f1 + x.recs.length) (y :: S2) n (DskM.remO s1 (fileN nm x.num)).2 := by
            rw [hS, truncG, if_pos (by omega), if_neg (by assumption)]
          refine w_skip (st_tn (w_seq (w_seq (w_region (zd rfl (op_fieldAddr (off := 1) rfl tF87_1xd) (zd rfl (op_load1 rfl tO3xd (Ent.lab (l := 6) rfl (says_cel 1))) (za rfl (wl_nil (st_tn (w_block ?_))))))))))
          refine w_loopQ (X := Nat × List (Int × List UInt8)) (fun z => f1 ≤ z.1 ∧ z.1 ≤ f1 + x.recs.length ∧ IsMap z.2 z.1 ((allR S1).drop (z.1 - f1))) (fun z => [(8, .int .i64 (z.1))]) (fun z => [(613, mp KZ encSV m (z.2))]) (fun z => f1 + x.recs.length - z.1) ((f1, D)) [(0, _), (1, _), (6, _)] [(601, _), (611, _), (612, _), (614, _), (6, _)] [613, 601, 611, 612, 614, 6] rfl (rfl) (.cons rfl (.nil _)) (.cons rfl (.cons rfl (.cons rfl (.nil _)))) (by
              try dsimp only
              exact ⟨Nat.le_refl _, by omega, by simpa using hD⟩) ?_
          rintro ⟨q, D2⟩ ⟨hq1, hq2, hD2⟩
          refine w_norm2 (by dsimp only [List.cons_append, List.nil_append]) (by dsimp only [List.cons_append, List.nil_append]) ?_
          try dsimp only at hq1 hq2 hD2 ⊢
          refine w_seq (w_seq (w_region (zm rfl (zd rfl (op_fieldAddr (off := 2) rfl tF87_2xd) (zd rfl (op_load1 rfl tO3xd (Ent.lab (l := 6) rfl (says_cel 2))) (zd rfl (op_leq rfl rfl) (wl_nil (st_tn (w_cond_d rfl (fun hc56 => ?_) (fun hc56 => ?_))))))))))
          · -- c56.t
            have hq3 : q < f1 + x.recs.length := by
              have : (q : Int) ≤ ((f1 + x.recs.length - 1 : Nat) : Int) := hc56
              omega
            have hal := congrArg List.length hall
            rw [List.length_append] at hal
            have hdel : IsMap (delK KZ D2 (q : Int)) (q + 1) ((allR S1).drop (q + 1 - f1)) := by
              obtain ⟨r, hr⟩ := getE (l := allR S1) (i := q - f1) (by omega)
              have hre := (List.getElem?_eq_some_iff.1 hr).2
              have hlt := (List.getElem?_eq_some_iff.1 hr).1
              rw [List.drop_eq_getElem_cons hlt] at hD2
              have := hD2.del
              rwa [show q - f1 + 1 = q + 1 - f1 by omega] at this
            refine w_skip (st_tn (w_seq (w_block (w_region (zm rfl (zd rfl (op_nilCheck rfl) (zd rfl (op_fieldAddr (off := 3) rfl tF76_3xd) (zd rfl (op_load1 rfl tO74xd (Ent.lab (l := 611) rfl (says_cel 3))) (zm rfl (wl_op0 [613] rfl rfl rfl (op_delete (kt := KZ) (encV := encSV) (lab := 613) rfl rfl tQ74xd) ?_))))))))))
            rintro _ _ ⟨rfl, rfl⟩
            refine wl_nil (st_bn (st_tn (w_region (zm rfl (zd rfl (op_add' rfl rfl (by omega)) ?_)))))
            refine za rfl (wl_nil ?_)
            refine st_roundQ (x := (q, D2)) ((q + 1, delK KZ D2 (q : Int))) [613, 601, 611, 612, 614, 6] rfl (rfl) (.cons rfl (.nil _)) (.cons rfl (.cons rfl (.cons rfl (.nil _)))) (by
                try dsimp only
                exact ⟨by omega, by omega, hdel⟩) (by
                try dsimp only
                omega)
          · -- c56.f
            have hq3 : q = f1 + x.recs.length := by
              have : ¬ (q : Int) ≤ ((f1 + x.recs.length - 1 : Nat) : Int) := hc56
              omega
            have hD3 : IsMap D2 (f1 + x.recs.length) (allR (y :: S2)) := by
              rw [hall, hq3, show f1 + x.recs.length - f1 = x.recs.length by omega, List.drop_left] at hD2
              exact hD2
            refine w_exit (st_te ?_)
            refine st_te ?_
            refine st_be (st_tn (w_fact 612 rfl (slO_fact (by rw [hr1]; omega)) (fun hga => ?_)))
            obtain ⟨g, hga, hgc⟩ := hga
            subst hga
            refine w_region (zm rfl (zm rfl (zd rfl (op_nilCheck rfl) (zd rfl (op_fieldAddr (off := 2) rfl tF76_2xd) (zd rfl (op_load1 rfl tO73xd (Ent.lab (l := 611) rfl (says_cel 2))) (wl_op [612] rfl rfl rfl rfl (op_fn Try.func59 rfl rfl rfl (del_at (R := rowsOf f1 S1) (by omega) hgc (by omega))) ?_))))))
            rintro _ _ ⟨rfl, rfl⟩
            refine zd rfl (op_nilCheck rfl) (zd rfl (op_fieldAddr (off := 2) rfl tF76_2xd) (wl_op0 [611] rfl rfl rfl (op_store rfl rfl tZ73xd (by rfl) (by rfl) (by exact Nat.le_of_ble_eq_true rfl)) ?_))
            rintro _ _ ⟨rfl, rfl⟩
            refine wl_nil (st_bn ?_)
            refine st_roundQ (x := (f1, S1, s1, some ⟨g, 0, none⟩, c2, D)) ((f1 + x.recs.length, y :: S2, (DskM.remO s1 (fileN nm x.num)).2, some ⟨g, 0, none⟩, c2, D2)) [613, 601, 611, 612, 614] rfl (by rw [hS]; rfl) (.nil _) (.cons rfl (.cons rfl (.nil _))) (by
                try dsimp only
                exact ⟨oks_tail (hS ▸ hS1) (by simp), hg1.rem _, heq.trans hstep, hD3, by rw [hall, List.length_append] at hz1; omega⟩) (by
                try dsimp only
                rw [hS]; simp)
      · -- h2-
        have hend : truncG nm f1 S1 n s1 = (0, f1, S1, s1) := by rw [hS, truncG, if_neg (by omega)]
        refine w_region (zm rfl (zd rfl (op_nilCheck rfl) (zd rfl (op_fieldAddr (off := 2) rfl tF76_2xd) (zd rfl (op_load1 rfl tO73xd (Ent.lab (l := 611) rfl (says_cel 2))) (zd rfl (op_lenT (enc := encRow) (l := rowsOf f1 S1) rfl tS73xd (Sl.ent (Sl.lab (E := 87) (enc := encRow) (l := rowsOf f1 S1) 612 rfl (by rw [hr1]; unfold maxLen; omega)))) ?_)))))
        refine zd rfl (op_val (v' := .bool true) (by rw [decide_eq_true (by omega)]) (op_gtr rfl rfl)) ?_
        refine zm rfl (wl_wanted_det rfl rfl rfl rfl rfl rfl rfl (op_move rfl) (wl_wanted_det rfl rfl rfl rfl rfl rfl rfl (op_nilCheck rfl) (wl_wanted_det rfl rfl rfl rfl rfl rfl rfl (op_fieldAddr (off := 2) rfl tF76_2xd) (wl_wanted_det rfl rfl rfl rfl rfl rfl rfl (op_load1 rfl tO73xd (Ent.lab (l := 611) rfl (says_cel 2))) (wl_wanted_det rfl rfl rfl rfl rfl rfl rfl (op_idx (i := 0) (l := rowsOf f1 S1) rfl rfl tS73xd (Sl.ent (Sl.lab (E := 87) (enc := encRow) (l := rowsOf f1 S1) 612 rfl (by rw [hr1]; unfold maxLen; omega))) (by omega)) ?_)))))
        refine wl_wanted_det rfl rfl rfl rfl rfl rfl rfl (op_fieldAddr (off := 2) rfl tF87_2xd) (wl_wanted_det rfl rfl rfl rfl rfl rfl rfl (op_ldxf rfl tO3xd (Sl.lab (E := 87) (enc := encRow) (l := rowsOf f1 S1) 612 rfl (by rw [hr1]; unfold maxLen; omega)) hr0 (by rfl)) ?_)
        refine wl_wanted_det rfl rfl rfl rfl rfl rfl rfl (op_move rfl) (wl_wanted_det rfl rfl rfl rfl rfl rfl rfl (op_val (v' := .bool false) (by rw [decide_eq_false]; show ¬ ((f1 + x.recs.length - 1 : Nat) : Int) ≤ n; omega) (op_leq rfl rfl)) ?_)
        refine zd rfl (op_pick_t rfl rfl) (wl_nil (st_tn (w_cond_f (rfl) ?_)))
        refine w_exit (st_te ?_)
        refine st_te ?_
        refine st_be (st_tn (w_seq (w_region (za rfl (wl_nil (st_tn (w_ret (st_ret (vs := [_]) [601, 611, 612, 613, 614] Try.results34 ⟨rfl, trivial⟩ rfl ?_))))))))
        refine ⟨[(601, _), (611, _), (612, _), (613, _), (614, _)], rfl, ?_⟩
        rw [htr, heq, hend]
        exact ⟨(m, a2, c2, p, cp, D), hD, rfl, rfl⟩
    · -- h1-
      have hend : truncG nm f1 S1 n s1 = (0, f1, S1, s1) := by
        match S1, h1 with
        | [], _ => rfl
        | [x], _ => rfl
        | x :: y :: S2, h1 => simp at h1
      refine w_region (zm rfl (zd rfl (op_nilCheck rfl) (zd rfl (op_fieldAddr (off := 2) rfl tF76_2xd) (zd rfl (op_load1 rfl tO73xd (Ent.lab (l := 611) rfl (says_cel 2))) (zd rfl (op_lenT (enc := encRow) (l := rowsOf f1 S1) rfl tS73xd (Sl.ent (Sl.lab (E := 87) (enc := encRow) (l := rowsOf f1 S1) 612 rfl (by rw [hr1]; unfold maxLen; omega)))) ?_)))))
      refine zd rfl (op_val (v' := .bool false) (by rw [decide_eq_false (by omega)]) (op_gtr rfl rfl)) ?_
      refine zm rfl (wl_unwanted rfl rfl rfl rfl rfl rfl rfl rfl (wl_unwanted rfl rfl rfl rfl rfl rfl rfl rfl (wl_unwanted rfl rfl rfl rfl rfl rfl rfl rfl (wl_unwanted rfl rfl rfl rfl rfl rfl rfl rfl (wl_unwanted rfl rfl rfl rfl rfl rfl rfl rfl (wl_unwanted rfl rfl rfl rfl rfl rfl rfl rfl (wl_unwanted rfl rfl rfl rfl rfl rfl rfl rfl (wl_unwanted rfl rfl rfl rfl rfl rfl rfl rfl (wl_unwanted rfl rfl rfl rfl rfl rfl rfl rfl (zd rfl (op_pick_f rfl rfl) (wl_nil (st_tn (w_cond_f (rfl) ?_)))))))))))))
      refine w_exit (st_te ?_)
      refine st_te ?_
      refine st_be (st_tn (w_seq (w_region (za rfl (wl_nil (st_tn (w_ret (st_ret (vs := [_]) [601, 611, 612, 613, 614] Try.results34 ⟨rfl, trivial⟩ rfl ?_))))))))
      refine ⟨[(601, _), (611, _), (612, _), (613, _), (614, _)], rfl, ?_⟩
      rw [htr, heq, hend]
      exact ⟨(m, a2, c2, p, cp, D), hD, rfl, rfl⟩
end Go.Proofs.Ytcbigmgakdanjaa
namespace Go.Proofs.Ytcbigmgakdanjaa
open Go Go.SL Go.RowKit Go.RdM Go.WalM
set_option linter.unusedVariables false
set_option linter.unusedSimpArgs false
theorem tA41xe : aggB Try.prog 41 3 = true := by kernel_rfl
theorem tA52xe : aggB Try.prog 52 4 = true := by kernel_rfl
theorem tF41_0xe : fieldB Try.prog 41 0 0 = true := by kernel_rfl
theorem tF52_2xe : fieldB Try.prog 52 2 2 = true := by kernel_rfl
theorem tL35_1xe : zerosB Try.prog 35 9 1 1 = some [Value.string .empty] := by kernel_rfl
theorem tMixxe : Try.prog.follows .mixedOrders = true := by kernel_rfl
theorem tN52xe : (Try.prog.info? 52).bind (·.zero) = some (Value.agg #[Value.slice none 0 0, Value.int .i64 0, Value.slice none 0 0, Value.bool false]) := by kernel_rfl
theorem tO35xe : oneB Try.prog 35 = true := by kernel_rfl
theorem tO5xe : oneB Try.prog 5 = true := by kernel_rfl
theorem tP35xe : appB Try.prog 35 9 1 16 = true := by kernel_rfl
theorem tS35xe : sliceB Try.prog 35 9 1 = true := by kernel_rfl
theorem tZ35xe : (Try.prog.info? 35).map (·.size) = some 1 := by kernel_rfl
theorem tZ52xe : (Try.prog.info? 52).map (·.size) = some 4 := by kernel_rfl
theorem ltrunc_c {σ : World} {F : List Res} {b d : Nat} {nm : RdM.Bs} {L L' : Lg} {s s' : DskM.St} {e : Int} (lab1 lab2 : Nat) (n : Int) (hn : -9223372036854775808 ≤ n ∧ n ≤ 9223372036854775807) (h : truncO nm L s n = (e, L', s')) (hL : OkL L) (hg : DskM.Good s) (hnm : nm.length ≤ 48) :
    FnT Try.prog σ F 34 [.pointer (some ⟨b, 0, none⟩), .int .i64 n] [(lab1, dkR d s), (lab2, lgR b d nm L)] (fun u ρ => u = .int .i64 e ∧ ρ = [(lab1, dkR d s'), (lab2, lgR b d nm L')]) :=
  fn_oc ((opens_id [dkR d s]).app (lg_opens b d nm L)) rfl (R := fun i => (601, dkR d s) :: cL b d nm L i.2.1) (fun i => rfl) (fun i => ltrunc_any n hn hL hg hnm i.2.2)
    fun i u ρ ⟨j, h1, h2, h3⟩ => ⟨[(lab1, dkR d s'), (lab2, lgR b d nm L')], by rw [h] at h2; exact ⟨h2, rfl⟩, by rw [h] at h1 h3; rw [h3]; exact Closes.app (Closes.refl [dkR d s']) (lg_closes j h1)⟩
abbrev PS := List (Value × List RdM.Bs)
abbrev PX := List (Value × List SegV)
def poolS (P : PS) : Res := pool 9 encT 1 P
def poolX (P : PX) : Res := pool 96 encSegV 3 P
def InS (P : PS) (q : Option Addr) (cq : Nat) (l : List RdM.Bs) : Prop := (q = none ∧ cq = 0 ∧ l = []) ∨ (Value.slice q l.length cq, l) ∈ P
inductive InX (P : PX) : Option Addr → Nat → List SegV → Prop
  | nil : InX P none 0 []
  | base {a c Y} : (Value.slice a Y.length c, Y) ∈ P → InX P a c Y
  | sub {a c Y} (j : Nat) : InX P a c Y → j ≤ Y.length → InX P (subJ a c j).1 (subJ a c j).2 (Y.drop j)
theorem InS.sl {σ : World} {R : RL} {F : List Res} {P : PS} {q : Option Addr} {cq : Nat} {l : List RdM.Bs} (h : InS P q cq l) (lab : Nat) (hg : getL R lab = some (poolS P)) (hl : l.length ≤ maxLen) : Sl σ (rs R ++ F) encT 1 (.slice q l.length cq) l := by
  rcases h with ⟨rfl, rfl, rfl⟩ | h
  · exact Sl.nilv
  · exact Sl.pool lab hg h hl
theorem InX.sl {σ : World} {R : RL} {F : List Res} {P : PX} {a : Option Addr} {c : Nat} {Y : List SegV} (h : InX P a c Y) (lab : Nat) (hg : getL R lab = some (poolX P)) (hl : Y.length ≤ 1000000) : Sl σ (rs R ++ F) encSegV 3 (.slice a Y.length c) Y := by
  have key : ∀ {a c Y}, InX P a c Y → Ent σ (rs R ++ F) (slT encSegV 3 (.slice a Y.length c) Y) := by
    intro a c Y h
    induction h with
    | nil => exact Sl.nilv.ent
    | base h => exact Ent.lab hg (says_pool h)
    | sub j h hj ih =>
      rename_i a c Y
      by_cases hle : Y.length ≤ maxLen
      · exact (sl_subJ ⟨ih, hle⟩ j hj).ent
      · intro w hw
        exact absurd (ih w hw).le hle
  exact ⟨key h, by unfold maxLen; omega⟩
theorem InS.mono {P P' : PS} {q : Option Addr} {cq : Nat} {l : List RdM.Bs} (h : InS P q cq l) (hp : P ⊆ P') : InS P' q cq l := h.imp id (fun h => hp h)
theorem InX.mono {P P' : PX} {a : Option Addr} {c : Nat} {Y : List SegV} (h : InX P a c Y) (hp : P ⊆ P') : InX P' a c Y := by
  induction h with
  | nil => exact .nil
  | base h => exact .base (hp h)
  | sub j h hj ih => exact .sub j ih hj
def Yrel (Y : List SegV) (S : List Sg) : Prop := Y.map (fun x => (x.num, x.grp, x.recs)) = S.map (fun s => (s.num, s.gs.length, s.recs))
theorem Yrel.len {Y : List SegV} {S : List Sg} (h : Yrel Y S) : Y.length = S.length := by have := congrArg List.length h; simpa using this
theorem Yrel.recs {Y : List SegV} {S : List Sg} (h : Yrel Y S) : recsX Y = allR S := by
  have h1 := congrArg (List.map (fun x : Nat × Nat × List RdM.Bs => x.2.2)) h
  rw [List.map_map, List.map_map] at h1
  unfold recsX allR
  exact congrArg List.flatten h1
theorem Yrel.mem {Y : List SegV} {S : List Sg} (h : Yrel Y S) {x : SegV} (hx : x ∈ Y) : ∃ s ∈ S, x.num = s.num ∧ x.grp = s.gs.length ∧ x.recs = s.recs := by
  have h1 : (x.num, x.grp, x.recs) ∈ Y.map (fun x => (x.num, x.grp, x.recs)) := List.mem_map.2 ⟨x, hx, rfl⟩
  rw [h] at h1
  obtain ⟨s, hs, he⟩ := List.mem_map.1 h1
  simp only [Prod.mk.injEq] at he
  exact ⟨s, hs, he.1.symm, he.2.1.symm, he.2.2.symm⟩
theorem recs_le' {Y : List SegV} {S : List Sg} (h : Yrel Y S) {x : SegV} (hx : x ∈ Y) : x.recs.length ≤ (allR S).length := by
  obtain ⟨s, hs, _, _, he⟩ := h.mem hx
  rw [he]; exact recs_le hs
structure MSt (P1 : PS) (P2 : PX) (v : Value) (M : Lg) (a : Option Addr) (c : Nat) (p : Option Addr) (cp : Nat) (Y : List SegV) : Prop where
  val : v = .agg #[.slice a Y.length c, .int .i64 M.first, .slice p M.pend.length cp, .bool M.fresh]
  inx : InX P2 a c Y
  ins : ∀ x ∈ Y, InS P1 x.q x.cq x.recs
  inp : InS P1 p cp M.pend
  rel : Yrel Y M.segs
def MS (P1 : PS) (P2 : PX) (v : Value) (M : Lg) : Prop := ∃ a c p cp Y, MSt P1 P2 v M a c p cp Y
section
variable {σ : World} {R : RL} {F : List Res} {P1 : PS} {P2 : PX} {v : Value} {M : Lg} {a p : Option Addr} {c cp : Nat} {Y : List SegV}
theorem MSt.slx (h : MSt P1 P2 v M a c p cp Y) (h2 : getL R 606 = some (poolX P2)) (hl : M.segs.length ≤ 1000000) : Sl σ (rs R ++ F) encSegV 3 (.slice a Y.length c) Y := h.inx.sl 606 h2 (by rw [h.rel.len]; exact hl)
theorem MSt.slr (h : MSt P1 P2 v M a c p cp Y) (h1 : getL R 605 = some (poolS P1)) (hl : (allR M.segs).length ≤ 1000000) : SlX σ (rs R ++ F) Y := fun x hx => by
  obtain ⟨s, hs, _, _, he⟩ := h.rel.mem hx
  exact (h.ins x hx).sl 605 h1 (by rw [he]; have := recs_le hs; unfold maxLen; omega)
theorem MSt.slp (h : MSt P1 P2 v M a c p cp Y) (h1 : getL R 605 = some (poolS P1)) (hl : M.pend.length ≤ 1000000) : Sl σ (rs R ++ F) encT 1 (.slice p M.pend.length cp) M.pend := h.inp.sl 605 h1 (by unfold maxLen; omega)
end
theorem poolS_nil : poolS [] (fun _ => none) := rfl
theorem poolX_nil : poolX [] (fun _ => none) := rfl
theorem ms_begin : MS [] [] (.agg #[.slice none 0 0, .int .i64 1, .slice none 0 0, .bool true]) newL := ⟨none, 0, none, 0, [], rfl, .nil, fun x hx => by simp at hx, .inl ⟨rfl, rfl, rfl⟩, rfl⟩
structure Sm (L : Lg) : Prop where
  ok : OkL L
  br : L.broken = false
  all : (allR L.segs).length ≤ 100000
  fst : L.first ≤ 100000
  pe : L.pend.length ≤ 200
theorem Sm.segl {L : Lg} (h : Sm L) : L.segs.length ≤ 100000 := by have := segs_le_all h.ok.seg.grp; have := h.all; omega
theorem recB_len' (z n : Int) : (recB z n).length ≤ 39 := by unfold recB; rw [recI_len]; omega
set_option maxHeartbeats 4000000 in
set_option maxRecDepth 100000 in
theorem do_app {σ : World} {F : List Res} {b d : Nat} {nm : RdM.Bs} {L : Lg} {s : DskM.St} {P1 : PS} {P2 : PX} {v : Value} (x : OpL) (hx : (0 ≤ x.k ∧ x.k ≤ 255) ∧ (0 ≤ x.z ∧ x.z ≤ 255) ∧ (0 ≤ x.n ∧ x.n ≤ 255)) (hk : x.k % 8 ≤ 2) (hS : Sm L) (hM : MS P1 P2 v L) :
    FnT Try.prog σ F 27 [.pointer (some ⟨d, 0, none⟩), .pointer (some ⟨b, 0, none⟩), v, .agg (encOpL x).toArray, .string (str nm)] [(601, dkR d s), (611, lgR b d nm L), (605, poolS P1), (606, poolX P2)]
      (fun u ρ => ∃ v' P1', MS P1' P2 v' { L with pend := L.pend ++ [recB x.z x.n] } ∧ u = .tuple #[.pointer (some ⟨b, 0, none⟩), v', .bool true, .bool false] ∧ ρ = [(601, dkR d s), (611, lgR b d nm { L with pend := L.pend ++ [recB x.z x.n] }), (605, poolS P1'), (606, poolX P2)]) := by
  refine fn_of 132 Try.func27 rfl Try.ntmps27 rfl ?_
  obtain ⟨a, c, p, cp, Y, hm⟩ := hM
  have hval := hm.val
  subst hval
  have hb := hS.br
  have hpe := hS.pe
  have hal := hS.all
  have hfs := hS.fst
  have hsg := hS.segl
  obtain ⟨r, hr⟩ : ∃ r, r = recB x.z x.n := ⟨_, rfl⟩
  have hrl : r.length ≤ 39 := by rw [hr]; exact recB_len' _ _
  rw [← hr]
  have happ : appL L r = ((((lastN L + (L.pend.length + 1) : Nat) : Int), 0), { L with pend := L.pend ++ [r] }) := by
    unfold appL; rw [if_neg (by simp [hb]), if_neg (by omega), if_neg (by omega)]
  refine w_seq (w_region (wl_op [] rfl rfl rfl rfl (op_box (T := 52) (l := 7) rfl) ?_))
  rintro _ _ ⟨b7, rfl, rfl⟩
  refine wl_op [] rfl rfl rfl rfl (op_box (T := 41) (l := 8) rfl) ?_
  rintro _ _ ⟨b8, rfl, rfl⟩
  refine za rfl (wl_op [] rfl rfl rfl rfl (op_alloc (l := 11) tN52xe) ?_)
  rintro _ _ ⟨b11, rfl, rfl⟩
  refine za rfl (za rfl (wl_nil (st_tn (w_seq (w_seq (w_region (zd rfl (op_fieldAddr (off := 0) rfl tF41_0xe) (zd rfl (op_load1 rfl tO5xe (Ent.lab (l := 8) rfl (says_cel 0))) (zd rfl (op_remN rfl rfl (by omega) (by omega)) ?_)))))))))
  refine wl_nil (st_tn (w_block (w_seq (w_seq ?_))))
  by_cases h0 : x.k % 8 = 0
  · -- h0+
    refine w_region (zd rfl (op_val (v' := .bool true) (by rw [decide_eq_true h0]) (op_eql rfl rfl)) ?_)
    refine za rfl (wl_nil (st_tn (w_cond_t (rfl) ?_)))
    refine w_skip (st_tn (w_cond_t (rfl) ?_))
    refine w_seq (w_region (zm rfl (zd rfl (op_loadA rfl tA41xe (Ent.lab (l := 8) rfl (says_cel 0)) (Nat.le_of_ble_eq_true rfl)) (zd rfl (op_fn Try.func19 rfl rfl rfl (fn_imp (record_any x.k x.z x.n hx.2.1 hx.2.2) (fun u ρ hu => (by rw [← hr] at hu; exact hu : u = .string (str r) ∧ ρ = [])))) ?_))))
    refine wl_op [611] rfl rfl rfl rfl (op_fn Try.func14 rfl rfl rfl (lappend_to 611 happ hS.ok (by omega))) ?_
    rintro _ _ ⟨rfl, rfl⟩
    refine zm rfl (zd rfl (op_extract rfl rfl) (zd rfl (op_extract rfl rfl) (za rfl (za rfl (wl_nil (st_tn (w_seq (w_region (zd rfl (op_loadA rfl tA52xe (Ent.lab (l := 7) rfl (says_cel 0)) (Nat.le_of_ble_eq_true rfl)) (wl_op0 [11] rfl rfl rfl (op_store rfl rfl tZ52xe (by rfl) (by rfl) (by exact Nat.le_of_ble_eq_true rfl)) ?_))))))))))
    rintro _ _ ⟨rfl, rfl⟩
    refine wl_nil (st_tn (w_seq ?_))
    refine w_drawW (fun β => [⟨35, [], [], [], fun w => DetW _ _, true, [], []⟩, ⟨36, [], [], [], noW (_), false, [], []⟩, ⟨37, [1], [], [], noW (_), false, [], []⟩, ⟨38, [2], [0], [], fun w => DetW _ _, false, [], []⟩, ⟨39, [], [], [], noW (_), false, [], []⟩]) [] [7, 8] [⟨35, [], [], true, [], []⟩, ⟨36, [], [], false, [], []⟩, ⟨37, [1], [], false, [], []⟩, ⟨38, [2], [0], false, [], []⟩, ⟨39, [], [], false, [], []⟩] [[], [], [], [0], []] [[], [], [], [], []] tMixxe (fun _ => by rfl) (fun _ => by rfl) (by kernel_rfl) (by kernel_rfl) (by rfl) (by rfl)
        (fun β => ⟨.px rfl (by intro X; refine OpT.mono (op_lit0 (enc := encT) (lab := 35) tS35xe) ?_; rintro _ _ ⟨a35, c35, rfl, rfl⟩; obtain ⟨w, rfl, rfl⟩ : ∃ w : Wt, w.a = a35 ∧ w.c = c35 := ⟨{ a := a35, c := c35 }, rfl, rfl⟩; exact ⟨w, rfl, rfl⟩),
        ⟨.p rfl (by intro X; exact op_fieldAddr (off := 2) rfl tF52_2xe),
        ⟨.p rfl (by intro X; rintro _ _ ⟨rfl, rfl⟩; exact op_load1 rfl tO35xe (Ent.lab (l := 7) rfl (says_cel 2))),
        ⟨.px rfl (by intro X; rintro _ _ ⟨rfl, rfl⟩ _ _ ⟨rfl, rfl⟩; show OpT _ _ _ _ _ _ [(_, _)] _; refine OpT.mono (op_append (lab := 35) (lab' := 38) rfl rfl tP35xe enc1T (hm.slp rfl (by omega)) (by simp; omega) (by simp; omega)) ?_; rintro _ _ ⟨a38, c38, rfl, rfl⟩; obtain ⟨w, rfl, rfl⟩ : ∃ w : Wt, w.a = a38 ∧ w.c = c38 := ⟨{ a := a38, c := c38 }, rfl, rfl⟩; exact ⟨w, rfl, rfl⟩),
        ⟨.p rfl (by intro X; exact op_loadA rfl tA41xe (Ent.lab (l := 8) rfl (says_cel 0)) (Nat.le_of_ble_eq_true rfl)),
        trivial⟩⟩⟩⟩⟩)
        (fun β β' => ⟨fun _ => by rfl, ⟨fun _ => by rfl, ⟨fun _ => by rfl, ⟨fun h => by first | rfl | (simp only [h 0 (by decide)]), ⟨fun _ => by rfl, trivial⟩⟩⟩⟩⟩) ?_
    intro β
    rintro _ _ ⟨rfl, rfl⟩ _ _ ⟨rfl, rfl⟩ _ _ ⟨rfl, rfl⟩ _ _ ⟨rfl, rfl⟩ _ _ ⟨rfl, rfl⟩
    generalize (β 0).a = a35
    generalize (β 0).c = c35
    generalize (β 3).a = a38
    generalize (β 3).c = c38
    refine wl_norm (e' := [(1, _), (7, _), (11, _), (14, _), (15, _), (38, _), (39, _)]) (.cons rfl (.cons rfl (.cons rfl (.cons rfl (.cons rfl (.cons rfl (.cons rfl (.nil _)))))))) (by dsimp only [cond_false, cond_true, List.nil_append, List.cons_append]) ?_
    refine zd rfl (op_fn Try.func19 rfl rfl rfl (fn_imp (record_any x.k x.z x.n hx.2.1 hx.2.2) (fun u ρ hu => (by rw [← hr] at hu; exact hu : u = .string (str r) ∧ ρ = [])))) ?_
    refine wl_op [] rfl rfl rfl rfl (op_buildSlice (enc := encT) (l := [r]) (lab := 41) tL35_1xe rfl rfl (fun _ => rfl) rfl) ?_
    rintro _ _ ⟨a41, c41, rfl, rfl⟩
    refine wl_op [38] rfl rfl rfl rfl (op_append (lab := 38) (lab' := 42) rfl rfl tP35xe enc1T (Sl.lab 41 rfl (by simp [maxLen])) (by simp; omega) (by simp; omega)) ?_
    rintro _ _ ⟨a42, c42, rfl, rfl⟩
    refine zd rfl (op_fieldAddr (off := 2) rfl tF52_2xe) (wl_op0 [11] rfl rfl rfl (op_store rfl rfl tZ35xe (by rfl) (by rfl) (by exact Nat.le_of_ble_eq_true rfl)) ?_)
    rintro _ _ ⟨rfl, rfl⟩
    refine wl_nil (st_tn (w_seq ?_))
    rw [List.nil_append]
    refine w_star 42 605 605 rfl ?_
    refine w_wk 605 (poolS ((.slice a42 (L.pend ++ [r]).length c42, L.pend ++ [r]) :: P1)) rfl (fun _ h => h) ?_
    have hrec := congrArg List.length hm.rel.recs
    have hpos := hS.ok.seg.pos
    refine w_drawW (fun β => [⟨44, [], [], [], noW (_), false, [], []⟩, ⟨45, [], [], [], noW (_), false, [15], []⟩, ⟨46, [], [], [], noW (_), false, [], []⟩, ⟨47, [2], [], [], noW (_), false, [], []⟩, ⟨48, [3], [], [], noW (_), false, [], []⟩, ⟨49, [], [], [], noW (_), false, [], []⟩, ⟨50, [], [], [], noW (_), false, [], []⟩, ⟨51, [6], [], [], noW (_), false, [], []⟩, ⟨52, [], [], [], noW (_), false, [], []⟩, ⟨53, [8], [], [], noW (_), false, [15], []⟩, ⟨54, [9], [], [], noW (_), false, [], []⟩, ⟨55, [7, 10], [], [], noW (_), false, [], []⟩, ⟨56, [5, 11], [], [], noW (_), false, [], []⟩, ⟨57, [4, 12], [], [], noW (_), false, [], []⟩, ⟨10, [0], [], [], noW (_), false, [], []⟩, ⟨147, [1], [], [(11, _)], noW (_), false, [], []⟩]) [11] [1, 11, 15, 14, 7] [⟨44, [], [], false, [], []⟩, ⟨45, [], [], false, [15], []⟩, ⟨46, [], [], false, [], []⟩, ⟨47, [2], [], false, [], []⟩, ⟨48, [3], [], false, [], []⟩, ⟨49, [], [], false, [], []⟩, ⟨50, [], [], false, [], []⟩, ⟨51, [6], [], false, [], []⟩, ⟨52, [], [], false, [], []⟩, ⟨53, [8], [], false, [15], []⟩, ⟨54, [9], [], false, [], []⟩, ⟨55, [7, 10], [], false, [], []⟩, ⟨56, [5, 11], [], false, [], []⟩, ⟨57, [4, 12], [], false, [], []⟩, ⟨10, [0], [], false, [], []⟩, ⟨147, [1], [], false, [], []⟩] [[], [], [], [], [], [], [], [], [], [], [], [], [], [], [], []] [[], [], [], [], [], [], [], [], [], [], [], [], [], [], [], [(11, _)]] tMixxe (fun _ => by rfl) (fun _ => by rfl) (by kernel_rfl) (by kernel_rfl) (by rfl) (by rfl)
        (fun β => ⟨.p rfl (by intro X; exact op_move rfl),
        ⟨.p rfl (by intro X; exact op_loadA rfl tA52xe (Ent.lab (l := 11) rfl (says_cel 0)) (Nat.le_of_ble_eq_true rfl)),
        ⟨.p rfl (by intro X; exact op_move rfl),
        ⟨.p rfl (by intro X; rintro _ _ ⟨rfl, rfl⟩; exact op_val (v' := .bool true) (by rfl) (op_eql rfl rfl)),
        ⟨.p rfl (by intro X; rintro _ _ ⟨rfl, rfl⟩; exact op_move rfl),
        ⟨.w rfl rfl rfl (by rintro _ _ ⟨rfl, rfl⟩; rfl) (by intro X; exact op_move rfl),
        ⟨.w rfl rfl rfl (by rintro _ _ ⟨rfl, rfl⟩; rfl) (by intro X; exact op_loadA rfl tA52xe (Ent.lab (l := 7) rfl (says_cel 0)) (Nat.le_of_ble_eq_true rfl)),
        ⟨.w rfl rfl rfl (by rintro _ _ ⟨rfl, rfl⟩; rfl) (by intro X; rintro _ _ ⟨rfl, rfl⟩; exact op_fn Try.func29 rfl rfl rfl (mlast_any (hm.slx rfl (by omega)) (fun x hx => (hm.ins x hx).mono (List.subset_cons_self _ _) |>.sl 605 rfl (by have := recs_le' hm.rel hx; unfold maxLen; omega)) (by omega) (by omega))),
        ⟨.w rfl rfl rfl (by rintro _ _ ⟨rfl, rfl⟩; rfl) (by intro X; exact op_fieldAddr (off := 2) rfl tF52_2xe),
        ⟨.w rfl rfl rfl (by rintro _ _ ⟨rfl, rfl⟩; rfl) (by intro X; rintro _ _ ⟨rfl, rfl⟩; exact op_load1 rfl tO35xe (Ent.lab (l := 11) rfl (says_cel 2))),
        ⟨.w rfl rfl rfl (by rintro _ _ ⟨rfl, rfl⟩; rfl) (by intro X; rintro _ _ ⟨rfl, rfl⟩; exact op_lenT (enc := encT) (l := L.pend ++ [r]) rfl tS35xe (Sl.ent (Sl.pool (E := 9) (enc := encT) (k := 1) 605 rfl List.mem_cons_self (by unfold maxLen; simp; omega)))),
        ⟨.w rfl rfl rfl (by rintro _ _ ⟨rfl, rfl⟩; rfl) (by intro X; rintro _ _ ⟨rfl, rfl⟩ _ _ ⟨rfl, rfl⟩; exact op_add' rfl rfl (by simp; omega)),
        ⟨.w rfl rfl rfl (by rintro _ _ ⟨rfl, rfl⟩; rfl) (by intro X; rintro _ _ ⟨rfl, rfl⟩ _ _ ⟨rfl, rfl⟩; exact op_val (v' := .bool true) (by rw [decide_eq_true]; show ((lastN L + (L.pend.length + 1) : Nat) : Int) = _; rw [List.length_append, List.length_singleton]; unfold lastN; omega) (op_eql rfl rfl)),
        ⟨.p rfl (by intro X; rintro _ _ ⟨rfl, rfl⟩ _ _ ⟨rfl, rfl⟩; exact op_pick_t rfl rfl),
        ⟨.p rfl (by intro X; rintro _ _ ⟨rfl, rfl⟩; exact op_assign rfl),
        ⟨.p rfl (by intro X; rintro _ _ ⟨rfl, rfl⟩; exact op_store rfl rfl tZ52xe (by rfl) (by rfl) (by exact Nat.le_of_ble_eq_true rfl)) (hu := by exact .inr fun _ _ h => h.1),
        trivial⟩⟩⟩⟩⟩⟩⟩⟩⟩⟩⟩⟩⟩⟩⟩⟩)
        (fun β β' => ⟨fun _ => by rfl, ⟨fun _ => by rfl, ⟨fun _ => by rfl, ⟨fun _ => by rfl, ⟨fun _ => by rfl, ⟨fun _ => by rfl, ⟨fun _ => by rfl, ⟨fun _ => by rfl, ⟨fun _ => by rfl, ⟨fun _ => by rfl, ⟨fun _ => by rfl, ⟨fun _ => by rfl, ⟨fun _ => by rfl, ⟨fun _ => by rfl, ⟨fun _ => by rfl, ⟨fun _ => by rfl, trivial⟩⟩⟩⟩⟩⟩⟩⟩⟩⟩⟩⟩⟩⟩⟩⟩) ?_
    intro β
    rintro _ _ ⟨rfl, rfl⟩ _ _ ⟨rfl, rfl⟩ _ _ ⟨rfl, rfl⟩ _ _ ⟨rfl, rfl⟩ _ _ ⟨rfl, rfl⟩ _ _ ⟨rfl, rfl⟩ _ _ ⟨rfl, rfl⟩ _ _ ⟨rfl, rfl⟩ _ _ ⟨rfl, rfl⟩ _ _ ⟨rfl, rfl⟩ _ _ ⟨rfl, rfl⟩ _ _ ⟨rfl, rfl⟩ _ _ ⟨rfl, rfl⟩ _ _ ⟨rfl, rfl⟩ _ _ ⟨rfl, rfl⟩ _ _ ⟨rfl, rfl⟩
    refine wl_norm (e' := [(10, _), (11, _), (57, _)]) (.cons rfl (.cons rfl (.cons rfl (.nil _)))) (by dsimp only [cond_false, cond_true, List.nil_append, List.cons_append]) ?_
    refine za rfl (za rfl (wl_nil (st_tn (w_ret (st_br (st_tr (st_ret (vs := [_, _, _, _]) [601, 611, 605, 606] Try.results27 ⟨rfl, ⟨⟨_, rfl, Ent.mono (Ent.lab (l := 11) rfl (says_cel 0)) (fun _ h => run_load_agg tA52xe h (Nat.le_of_ble_eq_true rfl))⟩, ⟨rfl, ⟨rfl, trivial⟩⟩⟩⟩ rfl ?_)))))))
    refine ⟨[(601, _), (611, _), (605, _), (606, _)], rfl, ?_⟩
    exact ⟨_, _, ⟨a, c, a42, c42, Y, rfl, hm.inx, fun x hx => (hm.ins x hx).mono (List.subset_cons_self _ _), .inr List.mem_cons_self, hm.rel⟩, rfl, rfl⟩
  · -- h0-
    refine w_region (zd rfl (op_val (v' := .bool false) (by rw [decide_eq_false h0]) (op_eql rfl rfl)) ?_)
    refine za rfl (wl_nil (st_tn (w_cond_f (rfl) ?_)))
    refine w_seq ?_
    by_cases h1 : x.k % 8 = 1
    · -- h1+
      refine w_region (zd rfl (op_val (v' := .bool true) (by rw [decide_eq_true h1]) (op_eql rfl rfl)) ?_)
      refine za rfl (wl_nil (st_tn (w_cond_t (rfl) ?_)))
      refine w_skip (st_tn (w_cond_t (rfl) ?_))
      refine w_seq (w_region (zm rfl (zd rfl (op_loadA rfl tA41xe (Ent.lab (l := 8) rfl (says_cel 0)) (Nat.le_of_ble_eq_true rfl)) (zd rfl (op_fn Try.func19 rfl rfl rfl (fn_imp (record_any x.k x.z x.n hx.2.1 hx.2.2) (fun u ρ hu => (by rw [← hr] at hu; exact hu : u = .string (str r) ∧ ρ = [])))) ?_))))
      refine wl_op [611] rfl rfl rfl rfl (op_fn Try.func14 rfl rfl rfl (lappend_to 611 happ hS.ok (by omega))) ?_
      rintro _ _ ⟨rfl, rfl⟩
      refine zm rfl (zd rfl (op_extract rfl rfl) (zd rfl (op_extract rfl rfl) (za rfl (za rfl (wl_nil (st_tn (w_seq (w_region (zd rfl (op_loadA rfl tA52xe (Ent.lab (l := 7) rfl (says_cel 0)) (Nat.le_of_ble_eq_true rfl)) (wl_op0 [11] rfl rfl rfl (op_store rfl rfl tZ52xe (by rfl) (by rfl) (by exact Nat.le_of_ble_eq_true rfl)) ?_))))))))))
      rintro _ _ ⟨rfl, rfl⟩
      refine wl_nil (st_tn (w_seq ?_))
      refine w_drawW (fun β => [⟨35, [], [], [], fun w => DetW _ _, true, [], []⟩, ⟨36, [], [], [], noW (_), false, [], []⟩, ⟨37, [1], [], [], noW (_), false, [], []⟩, ⟨38, [2], [0], [], fun w => DetW _ _, false, [], []⟩, ⟨39, [], [], [], noW (_), false, [], []⟩]) [] [7, 8] [⟨35, [], [], true, [], []⟩, ⟨36, [], [], false, [], []⟩, ⟨37, [1], [], false, [], []⟩, ⟨38, [2], [0], false, [], []⟩, ⟨39, [], [], false, [], []⟩] [[], [], [], [0], []] [[], [], [], [], []] tMixxe (fun _ => by rfl) (fun _ => by rfl) (by kernel_rfl) (by kernel_rfl) (by rfl) (by rfl)
          (fun β => ⟨.px rfl (by intro X; refine OpT.mono (op_lit0 (enc := encT) (lab := 35) tS35xe) ?_; rintro _ _ ⟨a35, c35, rfl, rfl⟩; obtain ⟨w, rfl, rfl⟩ : ∃ w : Wt, w.a = a35 ∧ w.c = c35 := ⟨{ a := a35, c := c35 }, rfl, rfl⟩; exact ⟨w, rfl, rfl⟩),
          ⟨.p rfl (by intro X; exact op_fieldAddr (off := 2) rfl tF52_2xe),
          ⟨.p rfl (by intro X; rintro _ _ ⟨rfl, rfl⟩; exact op_load1 rfl tO35xe (Ent.lab (l := 7) rfl (says_cel 2))),
          ⟨.px rfl (by intro X; rintro _ _ ⟨rfl, rfl⟩ _ _ ⟨rfl, rfl⟩; show OpT _ _ _ _ _ _ [(_, _)] _; refine OpT.mono (op_append (lab := 35) (lab' := 38) rfl rfl tP35xe enc1T (hm.slp rfl (by omega)) (by simp; omega) (by simp; omega)) ?_; rintro _ _ ⟨a38, c38, rfl, rfl⟩; obtain ⟨w, rfl, rfl⟩ : ∃ w : Wt, w.a = a38 ∧ w.c = c38 := ⟨{ a := a38, c := c38 }, rfl, rfl⟩; exact ⟨w, rfl, rfl⟩),
          ⟨.p rfl (by intro X; exact op_loadA rfl tA41xe (Ent.lab (l := 8) rfl (says_cel 0)) (Nat.le_of_ble_eq_true rfl)),
          trivial⟩⟩⟩⟩⟩)
          (fun β β' => ⟨fun _ => by rfl, ⟨fun _ => by rfl, ⟨fun _ => by rfl, ⟨fun h => by first | rfl | (simp only [h 0 (by decide)]), ⟨fun _ => by rfl, trivial⟩⟩⟩⟩⟩) ?_
      intro β
      rintro _ _ ⟨rfl, rfl⟩ _ _ ⟨rfl, rfl⟩ _ _ ⟨rfl, rfl⟩ _ _ ⟨rfl, rfl⟩ _ _ ⟨rfl, rfl⟩
      generalize (β 0).a = a35
      generalize (β 0).c = c35
      generalize (β 3).a = a38
      generalize (β 3).c = c38
      refine wl_norm (e' := [(1, _), (7, _), (11, _), (14, _), (15, _), (38, _), (39, _)]) (.cons rfl (.cons rfl (.cons rfl (.cons rfl (.cons rfl (.cons rfl (.cons rfl (.nil _)))))))) (by dsimp only [cond_false, cond_true, List.nil_append, List.cons_append]) ?_
      refine zd rfl (op_fn Try.func19 rfl rfl rfl (fn_imp (record_any x.k x.z x.n hx.2.1 hx.2.2) (fun u ρ hu => (by rw [← hr] at hu; exact hu : u = .string (str r) ∧ ρ = [])))) ?_
      refine wl_op [] rfl rfl rfl rfl (op_buildSlice (enc := encT) (l := [r]) (lab := 41) tL35_1xe rfl rfl (fun _ => rfl) rfl) ?_
      rintro _ _ ⟨a41, c41, rfl, rfl⟩
      refine wl_op [38] rfl rfl rfl rfl (op_append (lab := 38) (lab' := 42) rfl rfl tP35xe enc1T (Sl.lab 41 rfl (by simp [maxLen])) (by simp; omega) (by simp; omega)) ?_
      rintro _ _ ⟨a42, c42, rfl, rfl⟩
      refine zd rfl (op_fieldAddr (off := 2) rfl tF52_2xe) (wl_op0 [11] rfl rfl rfl (op_store rfl rfl tZ35xe (by rfl) (by rfl) (by exact Nat.le_of_ble_eq_true rfl)) ?_)
      rintro _ _ ⟨rfl, rfl⟩
      refine wl_nil (st_tn (w_seq ?_))
      rw [List.nil_append]
      refine w_star 42 605 605 rfl ?_
      refine w_wk 605 (poolS ((.slice a42 (L.pend ++ [r]).length c42, L.pend ++ [r]) :: P1)) rfl (fun _ h => h) ?_
      have hrec := congrArg List.length hm.rel.recs
      have hpos := hS.ok.seg.pos
      refine w_drawW (fun β => [⟨44, [], [], [], noW (_), false, [], []⟩, ⟨45, [], [], [], noW (_), false, [15], []⟩, ⟨46, [], [], [], noW (_), false, [], []⟩, ⟨47, [2], [], [], noW (_), false, [], []⟩, ⟨48, [3], [], [], noW (_), false, [], []⟩, ⟨49, [], [], [], noW (_), false, [], []⟩, ⟨50, [], [], [], noW (_), false, [], []⟩, ⟨51, [6], [], [], noW (_), false, [], []⟩, ⟨52, [], [], [], noW (_), false, [], []⟩, ⟨53, [8], [], [], noW (_), false, [15], []⟩, ⟨54, [9], [], [], noW (_), false, [], []⟩, ⟨55, [7, 10], [], [], noW (_), false, [], []⟩, ⟨56, [5, 11], [], [], noW (_), false, [], []⟩, ⟨57, [4, 12], [], [], noW (_), false, [], []⟩, ⟨10, [0], [], [], noW (_), false, [], []⟩, ⟨147, [1], [], [(11, _)], noW (_), false, [], []⟩]) [11] [1, 11, 15, 14, 7] [⟨44, [], [], false, [], []⟩, ⟨45, [], [], false, [15], []⟩, ⟨46, [], [], false, [], []⟩, ⟨47, [2], [], false, [], []⟩, ⟨48, [3], [], false, [], []⟩, ⟨49, [], [], false, [], []⟩, ⟨50, [], [], false, [], []⟩, ⟨51, [6], [], false, [], []⟩, ⟨52, [], [], false, [], []⟩, ⟨53, [8], [], false, [15], []⟩, ⟨54, [9], [], false, [], []⟩, ⟨55, [7, 10], [], false, [], []⟩, ⟨56, [5, 11], [], false, [], []⟩, ⟨57, [4, 12], [], false, [], []⟩, ⟨10, [0], [], false, [], []⟩, ⟨147, [1], [], false, [], []⟩] [[], [], [], [], [], [], [], [], [], [], [], [], [], [], [], []] [[], [], [], [], [], [], [], [], [], [], [], [], [], [], [], [(11, _)]] tMixxe (fun _ => by rfl) (fun _ => by rfl) (by kernel_rfl) (by kernel_rfl) (by rfl) (by rfl)
          (fun β => ⟨.p rfl (by intro X; exact op_move rfl),
          ⟨.p rfl (by intro X; exact op_loadA rfl tA52xe (Ent.lab (l := 11) rfl (says_cel 0)) (Nat.le_of_ble_eq_true rfl)),
          ⟨.p rfl (by intro X; exact op_move rfl),
          ⟨.p rfl (by intro X; rintro _ _ ⟨rfl, rfl⟩; exact op_val (v' := .bool true) (by rfl) (op_eql rfl rfl)),
          ⟨.p rfl (by intro X; rintro _ _ ⟨rfl, rfl⟩; exact op_move rfl),
          ⟨.w rfl rfl rfl (by rintro _ _ ⟨rfl, rfl⟩; rfl) (by intro X; exact op_move rfl),
          ⟨.w rfl rfl rfl (by rintro _ _ ⟨rfl, rfl⟩; rfl) (by intro X; exact op_loadA rfl tA52xe (Ent.lab (l := 7) rfl (says_cel 0)) (Nat.le_of_ble_eq_true rfl)),
          ⟨.w rfl rfl rfl (by rintro _ _ ⟨rfl, rfl⟩; rfl) (by intro X; rintro _ _ ⟨rfl, rfl⟩; exact op_fn Try.func29 rfl rfl rfl (mlast_any (hm.slx rfl (by omega)) (fun x hx => (hm.ins x hx).mono (List.subset_cons_self _ _) |>.sl 605 rfl (by have := recs_le' hm.rel hx; unfold maxLen; omega)) (by omega) (by omega))),
          ⟨.w rfl rfl rfl (by rintro _ _ ⟨rfl, rfl⟩; rfl) (by intro X; exact op_fieldAddr (off := 2) rfl tF52_2xe),
          ⟨.w rfl rfl rfl (by rintro _ _ ⟨rfl, rfl⟩; rfl) (by intro X; rintro _ _ ⟨rfl, rfl⟩; exact op_load1 rfl tO35xe (Ent.lab (l := 11) rfl (says_cel 2))),
          ⟨.w rfl rfl rfl (by rintro _ _ ⟨rfl, rfl⟩; rfl) (by intro X; rintro _ _ ⟨rfl, rfl⟩; exact op_lenT (enc := encT) (l := L.pend ++ [r]) rfl tS35xe (Sl.ent (Sl.pool (E := 9) (enc := encT) (k := 1) 605 rfl List.mem_cons_self (by unfold maxLen; simp; omega)))),
          ⟨.w rfl rfl rfl (by rintro _ _ ⟨rfl, rfl⟩; rfl) (by intro X; rintro _ _ ⟨rfl, rfl⟩ _ _ ⟨rfl, rfl⟩; exact op_add' rfl rfl (by simp; omega)),
          ⟨.w rfl rfl rfl (by rintro _ _ ⟨rfl, rfl⟩; rfl) (by intro X; rintro _ _ ⟨rfl, rfl⟩ _ _ ⟨rfl, rfl⟩; exact op_val (v' := .bool true) (by rw [decide_eq_true]; show ((lastN L + (L.pend.length + 1) : Nat) : Int) = _; rw [List.length_append, List.length_singleton]; unfold lastN; omega) (op_eql rfl rfl)),
          ⟨.p rfl (by intro X; rintro _ _ ⟨rfl, rfl⟩ _ _ ⟨rfl, rfl⟩; exact op_pick_t rfl rfl),
          ⟨.p rfl (by intro X; rintro _ _ ⟨rfl, rfl⟩; exact op_assign rfl),
          ⟨.p rfl (by intro X; rintro _ _ ⟨rfl, rfl⟩; exact op_store rfl rfl tZ52xe (by rfl) (by rfl) (by exact Nat.le_of_ble_eq_true rfl)) (hu := by exact .inr fun _ _ h => h.1),
          trivial⟩⟩⟩⟩⟩⟩⟩⟩⟩⟩⟩⟩⟩⟩⟩⟩)
          (fun β β' => ⟨fun _ => by rfl, ⟨fun _ => by rfl, ⟨fun _ => by rfl, ⟨fun _ => by rfl, ⟨fun _ => by rfl, ⟨fun _ => by rfl, ⟨fun _ => by rfl, ⟨fun _ => by rfl, ⟨fun _ => by rfl, ⟨fun _ => by rfl, ⟨fun _ => by rfl, ⟨fun _ => by rfl, ⟨fun _ => by rfl, ⟨fun _ => by rfl, ⟨fun _ => by rfl, ⟨fun _ => by rfl, trivial⟩⟩⟩⟩⟩⟩⟩⟩⟩⟩⟩⟩⟩⟩⟩⟩) ?_
      intro β
      rintro _ _ ⟨rfl, rfl⟩ _ _ ⟨rfl, rfl⟩ _ _ ⟨rfl, rfl⟩ _ _ ⟨rfl, rfl⟩ _ _ ⟨rfl, rfl⟩ _ _ ⟨rfl, rfl⟩ _ _ ⟨rfl, rfl⟩ _ _ ⟨rfl, rfl⟩ _ _ ⟨rfl, rfl⟩ _ _ ⟨rfl, rfl⟩ _ _ ⟨rfl, rfl⟩ _ _ ⟨rfl, rfl⟩ _ _ ⟨rfl, rfl⟩ _ _ ⟨rfl, rfl⟩ _ _ ⟨rfl, rfl⟩ _ _ ⟨rfl, rfl⟩
      refine wl_norm (e' := [(10, _), (11, _), (57, _)]) (.cons rfl (.cons rfl (.cons rfl (.nil _)))) (by dsimp only [cond_false, cond_true, List.nil_append, List.cons_append]) ?_
      refine za rfl (za rfl (wl_nil (st_tn (w_ret (st_br (st_tr (st_ret (vs := [_, _, _, _]) [601, 611, 605, 606] Try.results27 ⟨rfl, ⟨⟨_, rfl, Ent.mono (Ent.lab (l := 11) rfl (says_cel 0)) (fun _ h => run_load_agg tA52xe h (Nat.le_of_ble_eq_true rfl))⟩, ⟨rfl, ⟨rfl, trivial⟩⟩⟩⟩ rfl ?_)))))))
      refine ⟨[(601, _), (611, _), (605, _), (606, _)], rfl, ?_⟩
      exact ⟨_, _, ⟨a, c, a42, c42, Y, rfl, hm.inx, fun x hx => (hm.ins x hx).mono (List.subset_cons_self _ _), .inr List.mem_cons_self, hm.rel⟩, rfl, rfl⟩
    · -- h1-
      refine w_region (zd rfl (op_val (v' := .bool false) (by rw [decide_eq_false h1]) (op_eql rfl rfl)) ?_)
      refine za rfl (wl_nil (st_tn (w_cond_f (rfl) ?_)))
      refine w_region (zd rfl (op_val (v' := .bool true) (by rw [decide_eq_true (by omega)]) (op_eql rfl rfl)) ?_)
      refine za rfl (wl_nil (st_tn (w_cond_t (rfl) ?_)))
      refine w_seq (w_region (zm rfl (zd rfl (op_loadA rfl tA41xe (Ent.lab (l := 8) rfl (says_cel 0)) (Nat.le_of_ble_eq_true rfl)) (zd rfl (op_fn Try.func19 rfl rfl rfl (fn_imp (record_any x.k x.z x.n hx.2.1 hx.2.2) (fun u ρ hu => (by rw [← hr] at hu; exact hu : u = .string (str r) ∧ ρ = [])))) ?_))))
      refine wl_op [611] rfl rfl rfl rfl (op_fn Try.func14 rfl rfl rfl (lappend_to 611 happ hS.ok (by omega))) ?_
      rintro _ _ ⟨rfl, rfl⟩
      refine zm rfl (zd rfl (op_extract rfl rfl) (zd rfl (op_extract rfl rfl) (za rfl (za rfl (wl_nil (st_tn (w_seq (w_region (zd rfl (op_loadA rfl tA52xe (Ent.lab (l := 7) rfl (says_cel 0)) (Nat.le_of_ble_eq_true rfl)) (wl_op0 [11] rfl rfl rfl (op_store rfl rfl tZ52xe (by rfl) (by rfl) (by exact Nat.le_of_ble_eq_true rfl)) ?_))))))))))
      rintro _ _ ⟨rfl, rfl⟩
      refine wl_nil (st_tn (w_seq ?_))
      refine w_drawW (fun β => [⟨35, [], [], [], fun w => DetW _ _, true, [], []⟩, ⟨36, [], [], [], noW (_), false, [], []⟩, ⟨37, [1], [], [], noW (_), false, [], []⟩, ⟨38, [2], [0], [], fun w => DetW _ _, false, [], []⟩, ⟨39, [], [], [], noW (_), false, [], []⟩]) [] [7, 8] [⟨35, [], [], true, [], []⟩, ⟨36, [], [], false, [], []⟩, ⟨37, [1], [], false, [], []⟩, ⟨38, [2], [0], false, [], []⟩, ⟨39, [], [], false, [], []⟩] [[], [], [], [0], []] [[], [], [], [], []] tMixxe (fun _ => by rfl) (fun _ => by rfl) (by kernel_rfl) (by kernel_rfl) (by rfl) (by rfl)
          (fun β => ⟨.px rfl (by intro X; refine OpT.mono (op_lit0 (enc := encT) (lab := 35) tS35xe) ?_; rintro _ _ ⟨a35, c35, rfl, rfl⟩; obtain ⟨w, rfl, rfl⟩ : ∃ w : Wt, w.a = a35 ∧ w.c = c35 := ⟨{ a := a35, c := c35 }, rfl, rfl⟩; exact ⟨w, rfl, rfl⟩),
          ⟨.p rfl (by intro X; exact op_fieldAddr (off := 2) rfl tF52_2xe),
          ⟨.p rfl (by intro X; rintro _ _ ⟨rfl, rfl⟩; exact op_load1 rfl tO35xe (Ent.lab (l := 7) rfl (says_cel 2))),
          ⟨.px rfl (by intro X; rintro _ _ ⟨rfl, rfl⟩ _ _ ⟨rfl, rfl⟩; show OpT _ _ _ _ _ _ [(_, _)] _; refine OpT.mono (op_append (lab := 35) (lab' := 38) rfl rfl tP35xe enc1T (hm.slp rfl (by omega)) (by simp; omega) (by simp; omega)) ?_; rintro _ _ ⟨a38, c38, rfl, rfl⟩; obtain ⟨w, rfl, rfl⟩ : ∃ w : Wt, w.a = a38 ∧ w.c = c38 := ⟨{ a := a38, c := c38 }, rfl, rfl⟩; exact ⟨w, rfl, rfl⟩),
          ⟨.p rfl (by intro X; exact op_loadA rfl tA41xe (Ent.lab (l := 8) rfl (says_cel 0)) (Nat.le_of_ble_eq_true rfl)),
          trivial⟩⟩⟩⟩⟩)
          (fun β β' => ⟨fun _ => by rfl, ⟨fun _ => by rfl, ⟨fun _ => by rfl, ⟨fun h => by first | rfl | (simp only [h 0 (by decide)]), ⟨fun _ => by rfl, trivial⟩⟩⟩⟩⟩) ?_
      intro β
      rintro _ _ ⟨rfl, rfl⟩ _ _ ⟨rfl, rfl⟩ _ _ ⟨rfl, rfl⟩ _ _ ⟨rfl, rfl⟩ _ _ ⟨rfl, rfl⟩
      generalize (β 0).a = a35
      generalize (β 0).c = c35
      generalize (β 3).a = a38
      generalize (β 3).c = c38
      refine wl_norm (e' := [(1, _), (7, _), (11, _), (14, _), (15, _), (38, _), (39, _)]) (.cons rfl (.cons rfl (.cons rfl (.cons rfl (.cons rfl (.cons rfl (.cons rfl (.nil _)))))))) (by dsimp only [cond_false, cond_true, List.nil_append, List.cons_append]) ?_
      refine zd rfl (op_fn Try.func19 rfl rfl rfl (fn_imp (record_any x.k x.z x.n hx.2.1 hx.2.2) (fun u ρ hu => (by rw [← hr] at hu; exact hu : u = .string (str r) ∧ ρ = [])))) ?_
      refine wl_op [] rfl rfl rfl rfl (op_buildSlice (enc := encT) (l := [r]) (lab := 41) tL35_1xe rfl rfl (fun _ => rfl) rfl) ?_
      rintro _ _ ⟨a41, c41, rfl, rfl⟩
      refine wl_op [38] rfl rfl rfl rfl (op_append (lab := 38) (lab' := 42) rfl rfl tP35xe enc1T (Sl.lab 41 rfl (by simp [maxLen])) (by simp; omega) (by simp; omega)) ?_
      rintro _ _ ⟨a42, c42, rfl, rfl⟩
      refine zd rfl (op_fieldAddr (off := 2) rfl tF52_2xe) (wl_op0 [11] rfl rfl rfl (op_store rfl rfl tZ35xe (by rfl) (by rfl) (by exact Nat.le_of_ble_eq_true rfl)) ?_)
      rintro _ _ ⟨rfl, rfl⟩
      refine wl_nil (st_tn (w_seq ?_))
      rw [List.nil_append]
      refine w_star 42 605 605 rfl ?_
      refine w_wk 605 (poolS ((.slice a42 (L.pend ++ [r]).length c42, L.pend ++ [r]) :: P1)) rfl (fun _ h => h) ?_
      have hrec := congrArg List.length hm.rel.recs
      have hpos := hS.ok.seg.pos
      refine w_drawW (fun β => [⟨44, [], [], [], noW (_), false, [], []⟩, ⟨45, [], [], [], noW (_), false, [15], []⟩, ⟨46, [], [], [], noW (_), false, [], []⟩, ⟨47, [2], [], [], noW (_), false, [], []⟩, ⟨48, [3], [], [], noW (_), false, [], []⟩, ⟨49, [], [], [], noW (_), false, [], []⟩, ⟨50, [], [], [], noW (_), false, [], []⟩, ⟨51, [6], [], [], noW (_), false, [], []⟩, ⟨52, [], [], [], noW (_), false, [], []⟩, ⟨53, [8], [], [], noW (_), false, [15], []⟩, ⟨54, [9], [], [], noW (_), false, [], []⟩, ⟨55, [7, 10], [], [], noW (_), false, [], []⟩, ⟨56, [5, 11], [], [], noW (_), false, [], []⟩, ⟨57, [4, 12], [], [], noW (_), false, [], []⟩, ⟨10, [0], [], [], noW (_), false, [], []⟩, ⟨147, [1], [], [(11, _)], noW (_), false, [], []⟩]) [11] [1, 11, 15, 14, 7] [⟨44, [], [], false, [], []⟩, ⟨45, [], [], false, [15], []⟩, ⟨46, [], [], false, [], []⟩, ⟨47, [2], [], false, [], []⟩, ⟨48, [3], [], false, [], []⟩, ⟨49, [], [], false, [], []⟩, ⟨50, [], [], false, [], []⟩, ⟨51, [6], [], false, [], []⟩, ⟨52, [], [], false, [], []⟩, ⟨53, [8], [], false, [15], []⟩, ⟨54, [9], [], false, [], []⟩, ⟨55, [7, 10], [], false, [], []⟩, ⟨56, [5, 11], [], false, [], []⟩, ⟨57, [4, 12], [], false, [], []⟩, ⟨10, [0], [], false, [], []⟩, ⟨147, [1], [], false, [], []⟩] [[], [], [], [], [], [], [], [], [], [], [], [], [], [], [], []] [[], [], [], [], [], [], [], [], [], [], [], [], [], [], [], [(11, _)]] tMixxe (fun _ => by rfl) (fun _ => by rfl) (by kernel_rfl) (by kernel_rfl) (by rfl) (by rfl)
          (fun β => ⟨.p rfl (by intro X; exact op_move rfl),
          ⟨.p rfl (by intro X; exact op_loadA rfl tA52xe (Ent.lab (l := 11) rfl (says_cel 0)) (Nat.le_of_ble_eq_true rfl)),
          ⟨.p rfl (by intro X; exact op_move rfl),
          ⟨.p rfl (by intro X; rintro _ _ ⟨rfl, rfl⟩; exact op_val (v' := .bool true) (by rfl) (op_eql rfl rfl)),
          ⟨.p rfl (by intro X; rintro _ _ ⟨rfl, rfl⟩; exact op_move rfl),
          ⟨.w rfl rfl rfl (by rintro _ _ ⟨rfl, rfl⟩; rfl) (by intro X; exact op_move rfl),
          ⟨.w rfl rfl rfl (by rintro _ _ ⟨rfl, rfl⟩; rfl) (by intro X; exact op_loadA rfl tA52xe (Ent.lab (l := 7) rfl (says_cel 0)) (Nat.le_of_ble_eq_true rfl)),
          ⟨.w rfl rfl rfl (by rintro _ _ ⟨rfl, rfl⟩; rfl) (by intro X; rintro _ _ ⟨rfl, rfl⟩; exact op_fn Try.func29 rfl rfl rfl (mlast_any (hm.slx rfl (by omega)) (fun x hx => (hm.ins x hx).mono (List.subset_cons_self _ _) |>.sl 605 rfl (by have := recs_le' hm.rel hx; unfold maxLen; omega)) (by omega) (by omega))),
          ⟨.w rfl rfl rfl (by rintro _ _ ⟨rfl, rfl⟩; rfl) (by intro X; exact op_fieldAddr (off := 2) rfl tF52_2xe),
          ⟨.w rfl rfl rfl (by rintro _ _ ⟨rfl, rfl⟩; rfl) (by intro X; rintro _ _ ⟨rfl, rfl⟩; exact op_load1 rfl tO35xe (Ent.lab (l := 11) rfl (says_cel 2))),
          ⟨.w rfl rfl rfl (by rintro _ _ ⟨rfl, rfl⟩; rfl) (by intro X; rintro _ _ ⟨rfl, rfl⟩; exact op_lenT (enc := encT) (l := L.pend ++ [r]) rfl tS35xe (Sl.ent (Sl.pool (E := 9) (enc := encT) (k := 1) 605 rfl List.mem_cons_self (by unfold maxLen; simp; omega)))),
          ⟨.w rfl rfl rfl (by rintro _ _ ⟨rfl, rfl⟩; rfl) (by intro X; rintro _ _ ⟨rfl, rfl⟩ _ _ ⟨rfl, rfl⟩; exact op_add' rfl rfl (by simp; omega)),
          ⟨.w rfl rfl rfl (by rintro _ _ ⟨rfl, rfl⟩; rfl) (by intro X; rintro _ _ ⟨rfl, rfl⟩ _ _ ⟨rfl, rfl⟩; exact op_val (v' := .bool true) (by rw [decide_eq_true]; show ((lastN L + (L.pend.length + 1) : Nat) : Int) = _; rw [List.length_append, List.length_singleton]; unfold lastN; omega) (op_eql rfl rfl)),
          ⟨.p rfl (by intro X; rintro _ _ ⟨rfl, rfl⟩ _ _ ⟨rfl, rfl⟩; exact op_pick_t rfl rfl),
          ⟨.p rfl (by intro X; rintro _ _ ⟨rfl, rfl⟩; exact op_assign rfl),
          ⟨.p rfl (by intro X; rintro _ _ ⟨rfl, rfl⟩; exact op_store rfl rfl tZ52xe (by rfl) (by rfl) (by exact Nat.le_of_ble_eq_true rfl)) (hu := by exact .inr fun _ _ h => h.1),
          trivial⟩⟩⟩⟩⟩⟩⟩⟩⟩⟩⟩⟩⟩⟩⟩⟩)
          (fun β β' => ⟨fun _ => by rfl, ⟨fun _ => by rfl, ⟨fun _ => by rfl, ⟨fun _ => by rfl, ⟨fun _ => by rfl, ⟨fun _ => by rfl, ⟨fun _ => by rfl, ⟨fun _ => by rfl, ⟨fun _ => by rfl, ⟨fun _ => by rfl, ⟨fun _ => by rfl, ⟨fun _ => by rfl, ⟨fun _ => by rfl, ⟨fun _ => by rfl, ⟨fun _ => by rfl, ⟨fun _ => by rfl, trivial⟩⟩⟩⟩⟩⟩⟩⟩⟩⟩⟩⟩⟩⟩⟩⟩) ?_
      intro β
      rintro _ _ ⟨rfl, rfl⟩ _ _ ⟨rfl, rfl⟩ _ _ ⟨rfl, rfl⟩ _ _ ⟨rfl, rfl⟩ _ _ ⟨rfl, rfl⟩ _ _ ⟨rfl, rfl⟩ _ _ ⟨rfl, rfl⟩ _ _ ⟨rfl, rfl⟩ _ _ ⟨rfl, rfl⟩ _ _ ⟨rfl, rfl⟩ _ _ ⟨rfl, rfl⟩ _ _ ⟨rfl, rfl⟩ _ _ ⟨rfl, rfl⟩ _ _ ⟨rfl, rfl⟩ _ _ ⟨rfl, rfl⟩ _ _ ⟨rfl, rfl⟩
      refine wl_norm (e' := [(10, _), (11, _), (57, _)]) (.cons rfl (.cons rfl (.cons rfl (.nil _)))) (by dsimp only [cond_false, cond_true, List.nil_append, List.cons_append]) ?_
      refine za rfl (za rfl (wl_nil (st_tn (w_ret (st_br (st_tr (st_ret (vs := [_, _, _, _]) [601, 611, 605, 606] Try.results27 ⟨rfl, ⟨⟨_, rfl, Ent.mono (Ent.lab (l := 11) rfl (says_cel 0)) (fun _ h => run_load_agg tA52xe h (Nat.le_of_ble_eq_true rfl))⟩, ⟨rfl, ⟨rfl, trivial⟩⟩⟩⟩ rfl ?_)))))))
      refine ⟨[(601, _), (611, _), (605, _), (606, _)], rfl, ?_⟩
      exact ⟨_, _, ⟨a, c, a42, c42, Y, rfl, hm.inx, fun x hx => (hm.ins x hx).mono (List.subset_cons_self _ _), .inr List.mem_cons_self, hm.rel⟩, rfl, rfl⟩
end Go.Proofs.Ytcbigmgakdanjaa
namespace Go.Proofs.Ytcbigmgakdanjaa
open Go Go.SL Go.RowKit Go.RdM Go.WalM
set_option linter.unusedVariables false
set_option linter.unusedSimpArgs false
theorem tA52xf : aggB Try.prog 52 4 = true := by kernel_rfl
theorem tF41_0xf : fieldB Try.prog 41 0 0 = true := by kernel_rfl
theorem tF52_2xf : fieldB Try.prog 52 2 2 = true := by kernel_rfl
theorem tMixxf : Try.prog.follows .mixedOrders = true := by kernel_rfl
theorem tN52xf : (Try.prog.info? 52).bind (·.zero) = some (Value.agg #[Value.slice none 0 0, Value.int .i64 0, Value.slice none 0 0, Value.bool false]) := by kernel_rfl
theorem tO5xf : oneB Try.prog 5 = true := by kernel_rfl
theorem tZ35xf : (Try.prog.info? 35).map (·.size) = some 1 := by kernel_rfl
theorem tZ52xf : (Try.prog.info? 52).map (·.size) = some 4 := by kernel_rfl
set_option maxHeartbeats 2000000 in
set_option maxRecDepth 100000 in
theorem do_dis {σ : World} {F : List Res} {b d : Nat} {nm : RdM.Bs} {L : Lg} {s : DskM.St} {P1 : PS} {P2 : PX} {v : Value} (x : OpL) (hx : 0 ≤ x.k ∧ x.k ≤ 255) (hk : x.k % 8 = 5) (hS : Sm L) (hM : MS P1 P2 v L) :
    FnT Try.prog σ F 27 [.pointer (some ⟨d, 0, none⟩), .pointer (some ⟨b, 0, none⟩), v, .agg (encOpL x).toArray, .string (str nm)] [(601, dkR d s), (611, lgR b d nm L), (605, poolS P1), (606, poolX P2)]
      (fun u ρ => ∃ v', MS P1 P2 v' { L with pend := [] } ∧ u = .tuple #[.pointer (some ⟨b, 0, none⟩), v', .bool true, .bool false] ∧ ρ = [(601, dkR d s), (611, lgR b d nm { L with pend := [] }), (605, poolS P1), (606, poolX P2)]) := by
  refine fn_of 132 Try.func27 rfl Try.ntmps27 rfl ?_
  obtain ⟨a, c, p, cp, Y, hm⟩ := hM
  have hval := hm.val
  subst hval
  have hb := hS.br
  have hdl : discL L = { L with pend := [] } := by unfold discL; rw [if_neg (by simp [hb])]
  refine w_seq (w_region (wl_op [] rfl rfl rfl rfl (op_box (T := 52) (l := 7) rfl) ?_))
  rintro _ _ ⟨b7, rfl, rfl⟩
  refine wl_op [] rfl rfl rfl rfl (op_box (T := 41) (l := 8) rfl) ?_
  rintro _ _ ⟨b8, rfl, rfl⟩
  refine za rfl (wl_op [] rfl rfl rfl rfl (op_alloc (l := 11) tN52xf) ?_)
  rintro _ _ ⟨b11, rfl, rfl⟩
  refine za rfl (za rfl (wl_nil (st_tn (w_seq (w_seq (w_region (zd rfl (op_fieldAddr (off := 0) rfl tF41_0xf) (zd rfl (op_load1 rfl tO5xf (Ent.lab (l := 8) rfl (says_cel 0))) (zd rfl (op_remN rfl rfl (by omega) (by omega)) ?_)))))))))
  refine wl_nil (st_tn (w_block (w_seq (w_seq (w_region (zd rfl (op_val (v' := .bool false) (by rw [decide_eq_false (by omega)]) (op_eql rfl rfl)) ?_))))))
  refine za rfl (wl_nil (st_tn (w_cond_f (rfl) ?_)))
  refine w_seq (w_region (zd rfl (op_val (v' := .bool false) (by rw [decide_eq_false (by omega)]) (op_eql rfl rfl)) ?_))
  refine za rfl (wl_nil (st_tn (w_cond_f (rfl) ?_)))
  refine w_region (zd rfl (op_val (v' := .bool false) (by rw [decide_eq_false (by omega)]) (op_eql rfl rfl)) ?_)
  refine za rfl (wl_nil (st_tn (w_cond_f (rfl) ?_)))
  refine w_seq (w_seq (w_region (zd rfl (op_val (v' := .bool false) (by rw [decide_eq_false (by omega)]) (op_eql rfl rfl)) ?_)))
  refine za rfl (wl_nil (st_tn (w_cond_f (rfl) ?_)))
  refine w_region (zd rfl (op_val (v' := .bool false) (by rw [decide_eq_false (by omega)]) (op_eql rfl rfl)) ?_)
  refine za rfl (wl_nil (st_tn (w_cond_f (rfl) ?_)))
  refine w_seq (w_region (zd rfl (op_val (v' := .bool true) (by rw [decide_eq_true (by omega)]) (op_eql rfl rfl)) ?_))
  refine za rfl (wl_nil (st_tn (w_cond_t (rfl) ?_)))
  refine w_seq (w_region (zd rfl (op_loadA rfl tA52xf (Ent.lab (l := 7) rfl (says_cel 0)) (Nat.le_of_ble_eq_true rfl)) (wl_op0 [11] rfl rfl rfl (op_store rfl rfl tZ52xf (by rfl) (by rfl) (by exact Nat.le_of_ble_eq_true rfl)) ?_)))
  rintro _ _ ⟨rfl, rfl⟩
  refine wl_nil (st_tn (w_seq (w_region (zd rfl (op_fieldAddr (off := 2) rfl tF52_2xf) (wl_op0 [11] rfl rfl rfl (op_store rfl rfl tZ35xf (by rfl) (by rfl) (by exact Nat.le_of_ble_eq_true rfl)) ?_)))))
  rintro _ _ ⟨rfl, rfl⟩
  refine wl_nil (st_tn (w_seq ?_))
  refine w_drawW (fun β => [⟨88, [], [], [], noW (_), false, [], []⟩, ⟨89, [], [], [], noW (_), false, [6], []⟩, ⟨90, [], [], [], noW (_), false, [], []⟩, ⟨91, [2], [], [(611, _)], noW (_), false, [], []⟩, ⟨92, [3], [], [], noW (_), false, [], []⟩, ⟨10, [0], [], [], noW (_), false, [], []⟩, ⟨138, [1], [], [(11, _)], noW (_), false, [], []⟩]) [611, 11] [1, 11] [⟨88, [], [], false, [], []⟩, ⟨89, [], [], false, [6], []⟩, ⟨90, [], [], false, [], []⟩, ⟨91, [2], [], false, [], []⟩, ⟨92, [3], [], false, [], []⟩, ⟨10, [0], [], false, [], []⟩, ⟨138, [1], [], false, [], []⟩] [[], [], [], [], [], [], []] [[], [], [], [(611, _)], [], [], [(11, _)]] tMixxf (fun _ => by rfl) (fun _ => by rfl) (by kernel_rfl) (by kernel_rfl) (by rfl) (by rfl)
      (fun β => ⟨.p rfl (by intro X; exact op_move rfl),
      ⟨.p rfl (by intro X; exact op_loadA rfl tA52xf (Ent.lab (l := 11) rfl (says_cel 0)) (Nat.le_of_ble_eq_true rfl)),
      ⟨.p rfl (by intro X; exact op_move rfl),
      ⟨.p rfl (by intro X; rintro _ _ ⟨rfl, rfl⟩; exact op_fn Try.func23 rfl rfl rfl (fn_imp (ldiscard_c (L := L) 611) (fun u ρ hu => (⟨by rw [hu.1, if_neg (by simp [hb])], by rw [hu.2, hdl]⟩ : u = .int .i64 0 ∧ ρ = [(611, lgR b d nm { L with pend := [] })])))),
      ⟨.p rfl (by intro X; rintro _ _ ⟨rfl, rfl⟩; exact op_val (v' := .bool true) (by rfl) (op_eql rfl rfl)),
      ⟨.p rfl (by intro X; rintro _ _ ⟨rfl, rfl⟩; exact op_assign rfl),
      ⟨.p rfl (by intro X; rintro _ _ ⟨rfl, rfl⟩; exact op_store rfl rfl tZ52xf (by rfl) (by rfl) (by exact Nat.le_of_ble_eq_true rfl)) (hu := by exact .inr fun _ _ h => h.1),
      trivial⟩⟩⟩⟩⟩⟩⟩)
      (fun β β' => ⟨fun _ => by rfl, ⟨fun _ => by rfl, ⟨fun _ => by rfl, ⟨fun _ => by rfl, ⟨fun _ => by rfl, ⟨fun _ => by rfl, ⟨fun _ => by rfl, trivial⟩⟩⟩⟩⟩⟩⟩) ?_
  intro β
  rintro _ _ ⟨rfl, rfl⟩ _ _ ⟨rfl, rfl⟩ _ _ ⟨rfl, rfl⟩ _ _ ⟨rfl, rfl⟩ _ _ ⟨rfl, rfl⟩ _ _ ⟨rfl, rfl⟩ _ _ ⟨rfl, rfl⟩
  refine wl_norm (e' := [(10, _), (11, _), (92, _)]) (.cons rfl (.cons rfl (.cons rfl (.nil _)))) (by dsimp only [cond_false, cond_true, List.nil_append, List.cons_append]) ?_
  refine za rfl (za rfl (wl_nil (st_tn (w_ret (st_br (st_tr (st_ret (vs := [_, _, _, _]) [601, 611, 605, 606] Try.results27 ⟨rfl, ⟨⟨_, rfl, Ent.mono (Ent.lab (l := 11) rfl (says_cel 0)) (fun _ h => run_load_agg tA52xf h (Nat.le_of_ble_eq_true rfl))⟩, ⟨rfl, ⟨rfl, trivial⟩⟩⟩⟩ rfl ?_)))))))
  refine ⟨[(601, _), (611, _), (605, _), (606, _)], rfl, ?_⟩
  exact ⟨_, ⟨a, c, none, 0, Y, rfl, hm.inx, hm.ins, .inl ⟨rfl, rfl, rfl⟩, hm.rel⟩, rfl, rfl⟩
set_option maxHeartbeats 2000000 in
set_option maxRecDepth 100000 in
theorem do_open {σ : World} {F : List Res} {b d : Nat} {nm : RdM.Bs} {L : Lg} {s : DskM.St} {P1 : PS} {P2 : PX} {v : Value} (x : OpL) (hx : 0 ≤ x.k ∧ x.k ≤ 255) (hk : x.k % 8 = 7) (hS : Sm L) (hM : MS P1 P2 v L) (hok : DskM.nameB nm = true ∧ nm.length ≤ 48) (hdn : s.down = false) (hgD : DskM.Good s) (hO : OnD nm L s) :
    FnT Try.prog σ F 27 [.pointer (some ⟨d, 0, none⟩), .pointer (some ⟨b, 0, none⟩), v, .agg (encOpL x).toArray, .string (str nm)] [(601, dkR d s), (611, lgR b d nm L), (605, poolS P1), (606, poolX P2)]
      (fun u ρ => ∃ b' v', MS P1 P2 v' (openL L) ∧ u = .tuple #[.pointer (some ⟨b', 0, none⟩), v', .bool true, .bool false] ∧ ρ = [(601, dkR d s), (611, lgR b' d nm (openL L)), (605, poolS P1), (606, poolX P2)]) := by
  refine fn_of 132 Try.func27 rfl Try.ntmps27 rfl ?_
  obtain ⟨a, c, p, cp, Y, hm⟩ := hM
  have hval := hm.val
  subst hval
  have hsz := hS.ok.sz
  refine w_seq (w_region (wl_op [] rfl rfl rfl rfl (op_box (T := 52) (l := 7) rfl) ?_))
  rintro _ _ ⟨b7, rfl, rfl⟩
  refine wl_op [] rfl rfl rfl rfl (op_box (T := 41) (l := 8) rfl) ?_
  rintro _ _ ⟨b8, rfl, rfl⟩
  refine za rfl (wl_op [] rfl rfl rfl rfl (op_alloc (l := 11) tN52xf) ?_)
  rintro _ _ ⟨b11, rfl, rfl⟩
  refine za rfl (za rfl (wl_nil (st_tn (w_seq (w_seq (w_region (zd rfl (op_fieldAddr (off := 0) rfl tF41_0xf) (zd rfl (op_load1 rfl tO5xf (Ent.lab (l := 8) rfl (says_cel 0))) (zd rfl (op_remN rfl rfl (by omega) (by omega)) ?_)))))))))
  refine wl_nil (st_tn (w_block (w_seq (w_seq (w_region (zd rfl (op_val (v' := .bool false) (by rw [decide_eq_false (by omega)]) (op_eql rfl rfl)) ?_))))))
  refine za rfl (wl_nil (st_tn (w_cond_f (rfl) ?_)))
  refine w_seq (w_region (zd rfl (op_val (v' := .bool false) (by rw [decide_eq_false (by omega)]) (op_eql rfl rfl)) ?_))
  refine za rfl (wl_nil (st_tn (w_cond_f (rfl) ?_)))
  refine w_region (zd rfl (op_val (v' := .bool false) (by rw [decide_eq_false (by omega)]) (op_eql rfl rfl)) ?_)
  refine za rfl (wl_nil (st_tn (w_cond_f (rfl) ?_)))
  refine w_seq (w_seq (w_region (zd rfl (op_val (v' := .bool false) (by rw [decide_eq_false (by omega)]) (op_eql rfl rfl)) ?_)))
  refine za rfl (wl_nil (st_tn (w_cond_f (rfl) ?_)))
  refine w_region (zd rfl (op_val (v' := .bool false) (by rw [decide_eq_false (by omega)]) (op_eql rfl rfl)) ?_)
  refine za rfl (wl_nil (st_tn (w_cond_f (rfl) ?_)))
  refine w_seq (w_region (zd rfl (op_val (v' := .bool false) (by rw [decide_eq_false (by omega)]) (op_eql rfl rfl)) ?_))
  refine za rfl (wl_nil (st_tn (w_cond_f (rfl) ?_)))
  refine w_seq (w_region (zd rfl (op_val (v' := .bool false) (by rw [decide_eq_false (by omega)]) (op_eql rfl rfl)) ?_))
  refine za rfl (wl_nil (st_tn (w_cond_f (rfl) ?_)))
  refine w_skip (st_bn (st_tn (w_seq (w_region (zm rfl (zm rfl (wl_op [601] rfl rfl rfl rfl (op_fn Try.func16 rfl rfl rfl (lopen_c (s := s) (first := L.first) (segs := L.segs) 601 711 hok hdn hgD hS.ok.seg hO.holds (by omega))) ?_)))))))
  rintro _ _ ⟨b120, rfl, rfl⟩
  refine zm rfl (zd rfl (op_extract rfl rfl) (zd rfl (op_extract rfl rfl) (za rfl (za rfl (wl_nil (st_tn (w_seq (w_region (zm rfl (zd rfl (op_loadA rfl tA52xf (Ent.lab (l := 7) rfl (says_cel 0)) (Nat.le_of_ble_eq_true rfl)) (zd rfl (op_fn Try.func39 rfl rfl rfl mopen_any) (zm rfl (zd rfl (op_val (v' := .bool true) (by rfl) (op_eql rfl rfl)) ?_)))))))))))))
  refine zm rfl (wl_wanted_det rfl rfl rfl rfl rfl rfl rfl (op_move rfl) (wl_wanted_det rfl rfl rfl rfl rfl rfl rfl (op_val (v' := .bool true) (by rfl) (op_nePtr rfl Try.underlying23)) ?_))
  refine zd rfl (op_pick_t rfl rfl) (za rfl (wl_op0 [11] rfl rfl rfl (op_store rfl rfl tZ52xf (by rfl) (by rfl) (by exact Nat.le_of_ble_eq_true rfl)) ?_))
  rintro _ _ ⟨rfl, rfl⟩
  refine za rfl (za rfl (wl_nil (st_tn (w_ret (st_ret (vs := [_, _, _, _]) [601, 711, 605, 606] Try.results27 ⟨rfl, ⟨⟨_, rfl, Ent.mono (Ent.lab (l := 11) rfl (says_cel 0)) (fun _ h => run_load_agg tA52xf h (Nat.le_of_ble_eq_true rfl))⟩, ⟨rfl, ⟨rfl, trivial⟩⟩⟩⟩ rfl ?_)))))
  refine ⟨[(601, _), (611, _), (605, _), (606, _)], rfl, ?_⟩
  exact ⟨_, _, ⟨a, c, none, 0, Y, rfl, hm.inx, hm.ins, .inl ⟨rfl, rfl, rfl⟩, hm.rel⟩, rfl, rfl⟩
theorem noteX_mem {Y : List SegV} {o : Bool} {pend : List RdM.Bs} {q : Option Addr} {cq : Nat} {x : SegV} (h : x ∈ noteX Y o pend q cq) : x ∈ Y ∨ (x.q = q ∧ x.cq = cq ∧ x.recs = recsN Y o pend) := by
  rcases List.eq_nil_or_concat Y with h0 | ⟨S', y, rfl⟩
  · subst h0
    simp [noteX] at h; subst h; exact .inr ⟨rfl, rfl, rfl⟩
  · rw [List.concat_eq_append] at h ⊢
    unfold noteX at h
    unfold recsN
    rw [List.getLast?_concat] at h ⊢
    dsimp only at h ⊢
    split at h
    · rename_i hy
      rw [if_pos hy]
      rcases List.mem_append.1 h with h | h
      · exact .inl h
      · rw [List.mem_singleton] at h; subst h; exact .inr ⟨rfl, rfl, rfl⟩
    · rename_i hy
      rw [if_neg hy]
      rw [List.dropLast_concat] at h
      rcases List.mem_append.1 h with h | h
      · exact .inl (List.mem_append_left _ h)
      · rw [List.mem_singleton] at h; subst h; exact .inr ⟨rfl, rfl, rfl⟩
theorem yrel_note {Y : List SegV} {S : List Sg} {o : Bool} {pend : List RdM.Bs} {q : Option Addr} {cq : Nat} (h : Yrel Y S) : Yrel (noteX Y o pend q cq) (noteS S (nextN S o) pend) := by
  rcases List.eq_nil_or_concat Y with h0 | ⟨Y', y, rfl⟩
  · subst h0
    have hS : S = [] := List.eq_nil_of_length_eq_zero (by rw [← h.len]; rfl)
    subst hS; simp [Yrel, noteX, noteS, nextN, Sg.recs]
  · rcases List.eq_nil_or_concat S with h0 | ⟨S', s, rfl⟩
    · subst h0; have := h.len; simp at this
    · rw [List.concat_eq_append, List.concat_eq_append] at *
      unfold Yrel at h
      rw [List.map_append, List.map_append] at h
      obtain ⟨h1, h2⟩ := List.append_inj' h rfl
      simp only [List.map_cons, List.map_nil, List.cons.injEq, Prod.mk.injEq, and_true] at h2
      obtain ⟨e1, e2, e3⟩ := h2
      by_cases hc : o = true ∨ 8 ≤ s.gs.length
      · have hn : nextN (S' ++ [s]) o = s.num + 1 := by unfold nextN; rw [List.getLast?_concat]; exact if_pos hc
        have hx : noteX (Y' ++ [y]) o pend q cq = Y' ++ [y] ++ [⟨y.num + 1, 1, q, cq, pend⟩] := by
          unfold noteX; rw [List.getLast?_concat]; dsimp only; rw [e2, if_pos hc]
        rw [hn, hx, noteS_new (fun z hz => by rw [List.getLast?_concat] at hz; simp at hz; subst hz; omega)]
        unfold Yrel
        rw [List.map_append, List.map_append, List.map_append, List.map_append, h1]
        simp [e1, e2, e3, Sg.recs]
      · have hn : nextN (S' ++ [s]) o = s.num := by unfold nextN; rw [List.getLast?_concat]; exact if_neg hc
        have hx : noteX (Y' ++ [y]) o pend q cq = Y' ++ [⟨y.num, y.grp + 1, q, cq, y.recs ++ pend⟩] := by
          unfold noteX; rw [List.getLast?_concat]; dsimp only; rw [e2, if_neg hc, List.dropLast_concat]
        obtain ⟨sn, sg⟩ := s
        rw [hn, hx, noteS_old]
        unfold Yrel
        rw [List.map_append, List.map_append, h1]
        simp [e1, e2, e3, Sg.recs]
end Go.Proofs.Ytcbigmgakdanjaa
namespace Go.Proofs.Ytcbigmgakdanjaa
open Go Go.SL Go.RowKit Go.RdM Go.WalM
set_option linter.unusedVariables false
set_option linter.unusedSimpArgs false
theorem tA41xg : aggB Try.prog 41 3 = true := by kernel_rfl
theorem tA52xg : aggB Try.prog 52 4 = true := by kernel_rfl
theorem tF41_0xg : fieldB Try.prog 41 0 0 = true := by kernel_rfl
theorem tF52_0xg : fieldB Try.prog 52 0 0 = true := by kernel_rfl
theorem tMixxg : Try.prog.follows .mixedOrders = true := by kernel_rfl
theorem tN52xg : (Try.prog.info? 52).bind (·.zero) = some (Value.agg #[Value.slice none 0 0, Value.int .i64 0, Value.slice none 0 0, Value.bool false]) := by kernel_rfl
theorem tO5xg : oneB Try.prog 5 = true := by kernel_rfl
theorem tO50xg : oneB Try.prog 50 = true := by kernel_rfl
theorem tS50xg : sliceB Try.prog 50 96 3 = true := by kernel_rfl
theorem tZ52xg : (Try.prog.info? 52).map (·.size) = some 4 := by kernel_rfl
theorem commitL_nil {L : Lg} (h : L.pend = []) : commitL L = L := by unfold commitL; rw [if_pos h]
theorem allR_commit (L : Lg) : allR (commitL L).segs = allR L.segs ++ L.pend := by
  by_cases h : L.pend = []
  · rw [commitL_nil h, h, List.append_nil]
  · rw [lastN_commit h]; exact noteS_all _ _ _
theorem first_commit (L : Lg) : (commitL L).first = L.first := by unfold commitL; split <;> rfl
theorem ms_commit {P1 : PS} {P2 : PX} {v : Value} {L : Lg} {a p : Option Addr} {c cp : Nat} {Y : List SegV} (hm : MSt P1 P2 v L a c p cp Y) (hp : L.pend ≠ []) (a' q : Option Addr) (c' cq : Nat) :
    MSt ((.slice q (recsN Y L.fresh L.pend).length cq, recsN Y L.fresh L.pend) :: P1) ((.slice a' (noteX Y L.fresh L.pend q cq).length c', noteX Y L.fresh L.pend q cq) :: P2) (.agg #[.slice a' (noteX Y L.fresh L.pend q cq).length c', .int .i64 L.first, .slice none 0 0, .bool false]) (commitL L) a' c' none 0 (noteX Y L.fresh L.pend q cq) := by
  rw [lastN_commit hp]
  refine ⟨rfl, .base List.mem_cons_self, fun x hx => ?_, .inl ⟨rfl, rfl, rfl⟩, yrel_note hm.rel⟩
  rcases noteX_mem hx with h | ⟨h1, h2, h3⟩
  · exact (hm.ins x h).mono (List.subset_cons_self _ _)
  · refine .inr ?_
    rw [h1, h2, h3]; exact List.mem_cons_self
set_option maxHeartbeats 4000000 in
set_option maxRecDepth 100000 in
theorem do_com {σ : World} {F : List Res} {b d : Nat} {nm : RdM.Bs} {L L' : Lg} {s s' : DskM.St} {P1 : PS} {P2 : PX} {v : Value} {n e : Int} (x : OpL) (hx : 0 ≤ x.k ∧ x.k ≤ 255) (hk : x.k % 8 = 3 ∨ x.k % 8 = 4) (hS : Sm L) (hM : MS P1 P2 v L) (hc : comO nm L s = ((n, e), L', s')) (he : e = 27 ∨ e = 0 ∧ n = lastN (commitL L)) (hg : DskM.Good s) (hnm : nm.length ≤ 48) (hnx : nextN L.segs L.fresh ≤ 999999) :
    FnT Try.prog σ F 27 [.pointer (some ⟨d, 0, none⟩), .pointer (some ⟨b, 0, none⟩), v, .agg (encOpL x).toArray, .string (str nm)] [(601, dkR d s), (611, lgR b d nm L), (605, poolS P1), (606, poolX P2)]
      (fun u ρ => ∃ v' P1' P2', P1 ⊆ P1' ∧ P2 ⊆ P2' ∧ MS P1' P2' v' (commitL L) ∧ u = .tuple #[.pointer (some ⟨b, 0, none⟩), v', .bool true, .bool (decide (e = 27))] ∧ ρ = [(601, dkR d s'), (611, lgR b d nm L'), (605, poolS P1'), (606, poolX P2')]) := by
  refine fn_of 132 Try.func27 rfl Try.ntmps27 rfl ?_
  obtain ⟨a, c, p, cp, Y, hm⟩ := hM
  have hval := hm.val
  subst hval
  have hb := hS.br
  have hpe := hS.pe
  have hal := hS.all
  have hfs := hS.fst
  have hsg := hS.segl
  have hYl := hm.rel.len
  have hrec := congrArg List.length hm.rel.recs
  have hpos := hS.ok.seg.pos
  have hac := allR_commit L
  have hfc := first_commit L
  have hacl := congrArg List.length hac
  rw [List.length_append] at hacl
  refine w_seq (w_region (wl_op [] rfl rfl rfl rfl (op_box (T := 52) (l := 7) rfl) ?_))
  rintro _ _ ⟨b7, rfl, rfl⟩
  refine wl_op [] rfl rfl rfl rfl (op_box (T := 41) (l := 8) rfl) ?_
  rintro _ _ ⟨b8, rfl, rfl⟩
  refine za rfl (wl_op [] rfl rfl rfl rfl (op_alloc (l := 11) tN52xg) ?_)
  rintro _ _ ⟨b11, rfl, rfl⟩
  refine za rfl (za rfl (wl_nil (st_tn (w_seq (w_seq (w_region (zd rfl (op_fieldAddr (off := 0) rfl tF41_0xg) (zd rfl (op_load1 rfl tO5xg (Ent.lab (l := 8) rfl (says_cel 0))) (zd rfl (op_remN rfl rfl (by omega) (by omega)) ?_)))))))))
  refine wl_nil (st_tn (w_block (w_seq (w_seq (w_region (zd rfl (op_val (v' := .bool false) (by rw [decide_eq_false (by omega)]) (op_eql rfl rfl)) ?_))))))
  refine za rfl (wl_nil (st_tn (w_cond_f (rfl) ?_)))
  refine w_seq (w_region (zd rfl (op_val (v' := .bool false) (by rw [decide_eq_false (by omega)]) (op_eql rfl rfl)) ?_))
  refine za rfl (wl_nil (st_tn (w_cond_f (rfl) ?_)))
  refine w_region (zd rfl (op_val (v' := .bool false) (by rw [decide_eq_false (by omega)]) (op_eql rfl rfl)) ?_)
  refine za rfl (wl_nil (st_tn (w_cond_f (rfl) ?_)))
  refine w_seq (w_seq ?_)
  by_cases h3 : x.k % 8 = 3
  · -- h3+
    refine w_region (zd rfl (op_val (v' := .bool true) (by rw [decide_eq_true (by omega)]) (op_eql rfl rfl)) ?_)
    refine za rfl (wl_nil (st_tn (w_cond_t (rfl) ?_)))
    refine w_skip (st_tn (w_cond_t (rfl) ?_))
    refine w_seq ?_
    by_cases hpd : L.pend.length = 0
    · -- hpd+
      have hp0 : L.pend = [] := List.eq_nil_of_length_eq_zero hpd
      have hcl := commitL_nil hp0
      refine w_region (zd rfl (op_loadA rfl tA52xg (Ent.lab (l := 7) rfl (says_cel 0)) (Nat.le_of_ble_eq_true rfl)) (zd rfl (op_fn Try.func56 rfl rfl rfl (mcommit_nil (hm.slp rfl (by omega)) hpd)) ?_))
      refine wl_op0 [11] rfl rfl rfl (op_store rfl rfl tZ52xg (by rfl) (by rfl) (by exact Nat.le_of_ble_eq_true rfl)) ?_
      rintro _ _ ⟨rfl, rfl⟩
      refine wl_nil (st_tn (w_seq (w_region (zm rfl (wl_op [601, 611] rfl rfl rfl rfl (op_fn Try.func15 rfl rfl rfl (commit_to 601 611 hc hS.ok hg hnm hnx)) ?_)))))
      rintro _ _ ⟨rfl, rfl⟩
      refine zm rfl (zd rfl (op_extract rfl rfl) (zd rfl (op_extract rfl rfl) (za rfl (za rfl (wl_nil (st_tn (w_seq ?_)))))))
      by_cases h27 : e = 27
      · -- h27+
        refine w_drawW (fun β => [⟨68, [], [], [], noW (_), false, [], []⟩, ⟨69, [], [], [], noW (_), false, [17], []⟩, ⟨70, [], [], [], noW (_), false, [], []⟩, ⟨71, [2], [], [], noW (_), false, [], []⟩, ⟨72, [3], [], [], noW (_), false, [], []⟩, ⟨73, [], [], [], noW (Det undef), false, [], []⟩, ⟨74, [], [], [], noW (Det undef), false, [], []⟩, ⟨75, [], [], [], noW (Det undef), false, [], []⟩, ⟨76, [], [], [], noW (Det undef), false, [], []⟩, ⟨77, [], [], [], noW (Det undef), false, [], []⟩, ⟨78, [], [], [], noW (Det undef), false, [], []⟩, ⟨79, [], [], [], noW (Det undef), false, [], []⟩, ⟨80, [], [], [], noW (Det undef), false, [], []⟩, ⟨81, [4, 12], [], [], noW (_), false, [], []⟩, ⟨82, [], [], [], noW (_), false, [], []⟩, ⟨83, [14], [], [], noW (_), false, [], []⟩, ⟨10, [0], [], [], noW (_), false, [], []⟩, ⟨149, [1], [], [(11, _)], noW (_), false, [], []⟩, ⟨12, [13], [], [], noW (_), false, [], []⟩]) [11] [1, 11, 17, 16] [⟨68, [], [], false, [], []⟩, ⟨69, [], [], false, [17], []⟩, ⟨70, [], [], false, [], []⟩, ⟨71, [2], [], false, [], []⟩, ⟨72, [3], [], false, [], []⟩, ⟨73, [], [], false, [], []⟩, ⟨74, [], [], false, [], []⟩, ⟨75, [], [], false, [], []⟩, ⟨76, [], [], false, [], []⟩, ⟨77, [], [], false, [], []⟩, ⟨78, [], [], false, [], []⟩, ⟨79, [], [], false, [], []⟩, ⟨80, [], [], false, [], []⟩, ⟨81, [4, 12], [], false, [], []⟩, ⟨82, [], [], false, [], []⟩, ⟨83, [14], [], false, [], []⟩, ⟨10, [0], [], false, [], []⟩, ⟨149, [1], [], false, [], []⟩, ⟨12, [13], [], false, [], []⟩] [[], [], [], [], [], [], [], [], [], [], [], [], [], [], [], [], [], [], []] [[], [], [], [], [], [], [], [], [], [], [], [], [], [], [], [], [], [(11, _)], []] tMixxg (fun _ => by rfl) (fun _ => by rfl) (by kernel_rfl) (by kernel_rfl) (by rfl) (by rfl)
            (fun β => ⟨.p rfl (by intro X; exact op_move rfl),
            ⟨.p rfl (by intro X; exact op_loadA rfl tA52xg (Ent.lab (l := 11) rfl (says_cel 0)) (Nat.le_of_ble_eq_true rfl)),
            ⟨.p rfl (by intro X; exact op_move rfl),
            ⟨.p rfl (by intro X; rintro _ _ ⟨rfl, rfl⟩; exact op_val (v' := .bool true) (by rw [decide_eq_true h27]) (op_eql rfl rfl)),
            ⟨.p rfl (by intro X; rintro _ _ ⟨rfl, rfl⟩; exact op_move rfl),
            ⟨.u rfl rfl rfl (by rintro _ _ ⟨rfl, rfl⟩; exact congrArg (offB false) (by rfl : _ = Value.bool true)) ⟨rfl, rfl⟩ rfl rfl,
            ⟨.u rfl rfl rfl (by rintro _ _ ⟨rfl, rfl⟩; exact congrArg (offB false) (by rfl : _ = Value.bool true)) ⟨rfl, rfl⟩ rfl rfl,
            ⟨.u rfl rfl rfl (by rintro _ _ ⟨rfl, rfl⟩; exact congrArg (offB false) (by rfl : _ = Value.bool true)) ⟨rfl, rfl⟩ rfl rfl,
            ⟨.u rfl rfl rfl (by rintro _ _ ⟨rfl, rfl⟩; rfl) ⟨rfl, rfl⟩ rfl rfl,
            ⟨.u rfl rfl rfl (by rintro _ _ ⟨rfl, rfl⟩; rfl) ⟨rfl, rfl⟩ rfl rfl,
            ⟨.u rfl rfl rfl (by rintro _ _ ⟨rfl, rfl⟩; rfl) ⟨rfl, rfl⟩ rfl rfl,
            ⟨.u rfl rfl rfl (by rintro _ _ ⟨rfl, rfl⟩; rfl) ⟨rfl, rfl⟩ rfl rfl,
            ⟨.u rfl rfl rfl (by rintro _ _ ⟨rfl, rfl⟩; exact congrArg (offB false) (by rfl : _ = Value.bool true)) ⟨rfl, rfl⟩ rfl rfl,
            ⟨.p rfl (by intro X; rintro _ _ ⟨rfl, rfl⟩ _ _ ⟨rfl, rfl⟩; exact op_pick_t rfl rfl),
            ⟨.p rfl (by intro X; exact op_move rfl),
            ⟨.p rfl (by intro X; rintro _ _ ⟨rfl, rfl⟩; exact op_eql rfl rfl),
            ⟨.p rfl (by intro X; rintro _ _ ⟨rfl, rfl⟩; exact op_assign rfl),
            ⟨.p rfl (by intro X; rintro _ _ ⟨rfl, rfl⟩; exact op_store rfl rfl tZ52xg (by rfl) (by rfl) (by exact Nat.le_of_ble_eq_true rfl)) (hu := by exact .inr fun _ _ h => h.1),
            ⟨.p rfl (by intro X; rintro _ _ ⟨rfl, rfl⟩; exact op_assign rfl),
            trivial⟩⟩⟩⟩⟩⟩⟩⟩⟩⟩⟩⟩⟩⟩⟩⟩⟩⟩⟩)
            (fun β β' => ⟨fun _ => by rfl, ⟨fun _ => by rfl, ⟨fun _ => by rfl, ⟨fun _ => by rfl, ⟨fun _ => by rfl, ⟨fun _ => by rfl, ⟨fun _ => by rfl, ⟨fun _ => by rfl, ⟨fun _ => by rfl, ⟨fun _ => by rfl, ⟨fun _ => by rfl, ⟨fun _ => by rfl, ⟨fun _ => by rfl, ⟨fun _ => by rfl, ⟨fun _ => by rfl, ⟨fun _ => by rfl, ⟨fun _ => by rfl, ⟨fun _ => by rfl, ⟨fun _ => by rfl, trivial⟩⟩⟩⟩⟩⟩⟩⟩⟩⟩⟩⟩⟩⟩⟩⟩⟩⟩⟩) ?_
        intro β
        rintro _ _ ⟨rfl, rfl⟩ _ _ ⟨rfl, rfl⟩ _ _ ⟨rfl, rfl⟩ _ _ ⟨rfl, rfl⟩ _ _ ⟨rfl, rfl⟩ _ _ ⟨rfl, rfl⟩ _ _ ⟨rfl, rfl⟩ _ _ ⟨rfl, rfl⟩ _ _ ⟨rfl, rfl⟩ _ _ ⟨rfl, rfl⟩ _ _ ⟨rfl, rfl⟩ _ _ ⟨rfl, rfl⟩ _ _ ⟨rfl, rfl⟩ _ _ ⟨rfl, rfl⟩ _ _ ⟨rfl, rfl⟩ _ _ ⟨rfl, rfl⟩ _ _ ⟨rfl, rfl⟩ _ _ ⟨rfl, rfl⟩ _ _ ⟨rfl, rfl⟩
        refine wl_norm (e' := [(10, _), (11, _), (12, _), (83, _)]) (.cons rfl (.cons rfl (.cons rfl (.cons rfl (.nil _))))) (by dsimp only [cond_false, cond_true, List.nil_append, List.cons_append]) ?_
        refine za rfl (wl_nil (st_tn (w_ret (st_br (st_tr (st_ret (vs := [_, _, _, _]) [601, 611, 605, 606] Try.results27 ⟨rfl, ⟨⟨_, rfl, Ent.mono (Ent.lab (l := 11) rfl (says_cel 0)) (fun _ h => run_load_agg tA52xg h (Nat.le_of_ble_eq_true rfl))⟩, ⟨rfl, ⟨rfl, trivial⟩⟩⟩⟩ rfl ?_))))))
        refine ⟨[(601, _), (611, _), (605, _), (606, _)], rfl, ?_⟩
        rw [hcl]; exact ⟨_, P1, P2, fun _ h => h, fun _ h => h, ⟨a, c, p, cp, Y, hm⟩, rfl, rfl⟩
      · -- h27-
        obtain ⟨he0, hnl⟩ : e = 0 ∧ n = lastN (commitL L) := he.resolve_left h27
        have hln : (n : Int) = L.first + ((allR L.segs).length + L.pend.length) - 1 := by rw [hnl]; unfold lastN; rw [hfc, hacl]; omega
        refine w_drawW (fun β => [⟨68, [], [], [], noW (_), false, [], []⟩, ⟨69, [], [], [], noW (_), false, [17], []⟩, ⟨70, [], [], [], noW (_), false, [], []⟩, ⟨71, [2], [], [], noW (_), false, [], []⟩, ⟨72, [3], [], [], noW (_), false, [], []⟩, ⟨73, [], [], [], noW (_), false, [], []⟩, ⟨74, [5], [], [], noW (_), false, [], []⟩, ⟨75, [6], [], [], noW (_), false, [], []⟩, ⟨76, [], [], [], noW (_), false, [], []⟩, ⟨77, [], [], [], noW (_), false, [17], []⟩, ⟨78, [9], [], [], noW (_), false, [], []⟩, ⟨79, [8, 10], [], [], noW (_), false, [], []⟩, ⟨80, [7, 11], [], [], noW (_), false, [], []⟩, ⟨81, [4, 12], [], [], noW (_), false, [], []⟩, ⟨82, [], [], [], noW (_), false, [], []⟩, ⟨83, [14], [], [], noW (_), false, [], []⟩, ⟨10, [0], [], [], noW (_), false, [], []⟩, ⟨149, [1], [], [(11, _)], noW (_), false, [], []⟩, ⟨12, [13], [], [], noW (_), false, [], []⟩]) [11] [1, 11, 17, 16] [⟨68, [], [], false, [], []⟩, ⟨69, [], [], false, [17], []⟩, ⟨70, [], [], false, [], []⟩, ⟨71, [2], [], false, [], []⟩, ⟨72, [3], [], false, [], []⟩, ⟨73, [], [], false, [], []⟩, ⟨74, [5], [], false, [], []⟩, ⟨75, [6], [], false, [], []⟩, ⟨76, [], [], false, [], []⟩, ⟨77, [], [], false, [17], []⟩, ⟨78, [9], [], false, [], []⟩, ⟨79, [8, 10], [], false, [], []⟩, ⟨80, [7, 11], [], false, [], []⟩, ⟨81, [4, 12], [], false, [], []⟩, ⟨82, [], [], false, [], []⟩, ⟨83, [14], [], false, [], []⟩, ⟨10, [0], [], false, [], []⟩, ⟨149, [1], [], false, [], []⟩, ⟨12, [13], [], false, [], []⟩] [[], [], [], [], [], [], [], [], [], [], [], [], [], [], [], [], [], [], []] [[], [], [], [], [], [], [], [], [], [], [], [], [], [], [], [], [], [(11, _)], []] tMixxg (fun _ => by rfl) (fun _ => by rfl) (by kernel_rfl) (by kernel_rfl) (by rfl) (by rfl)
            (fun β => ⟨.p rfl (by intro X; exact op_move rfl),
            ⟨.p rfl (by intro X; exact op_loadA rfl tA52xg (Ent.lab (l := 11) rfl (says_cel 0)) (Nat.le_of_ble_eq_true rfl)),
            ⟨.p rfl (by intro X; exact op_move rfl),
            ⟨.p rfl (by intro X; rintro _ _ ⟨rfl, rfl⟩; exact op_val (v' := .bool false) (by rw [decide_eq_false h27]) (op_eql rfl rfl)),
            ⟨.p rfl (by intro X; rintro _ _ ⟨rfl, rfl⟩; exact op_move rfl),
            ⟨.w rfl rfl rfl (by rintro _ _ ⟨rfl, rfl⟩; rfl) (by intro X; exact op_move rfl),
            ⟨.w rfl rfl rfl (by rintro _ _ ⟨rfl, rfl⟩; rfl) (by intro X; rintro _ _ ⟨rfl, rfl⟩; exact op_val (v' := .bool true) (by rw [decide_eq_true he0]) (op_eql rfl rfl)),
            ⟨.w rfl rfl rfl (by rintro _ _ ⟨rfl, rfl⟩; rfl) (by intro X; rintro _ _ ⟨rfl, rfl⟩; exact op_move rfl),
            ⟨.w rfl rfl rfl (by rintro _ _ ⟨rfl, rfl⟩; rfl) (by intro X; exact op_move rfl),
            ⟨.w rfl rfl rfl (by rintro _ _ ⟨rfl, rfl⟩; rfl) (by intro X; exact op_loadA rfl tA52xg (Ent.lab (l := 11) rfl (says_cel 0)) (Nat.le_of_ble_eq_true rfl)),
            ⟨.w rfl rfl rfl (by rintro _ _ ⟨rfl, rfl⟩; rfl) (by intro X; rintro _ _ ⟨rfl, rfl⟩; exact op_fn Try.func29 rfl rfl rfl (mlast_any (hm.slx rfl (by omega)) (hm.slr rfl (by omega)) (by omega) (by omega))),
            ⟨.w rfl rfl rfl (by rintro _ _ ⟨rfl, rfl⟩; rfl) (by intro X; rintro _ _ ⟨rfl, rfl⟩ _ _ ⟨rfl, rfl⟩; exact op_val (v' := .bool true) (by rw [decide_eq_true (by omega)]) (op_eql rfl rfl)),
            ⟨.w rfl rfl rfl (by rintro _ _ ⟨rfl, rfl⟩; rfl) (by intro X; rintro _ _ ⟨rfl, rfl⟩ _ _ ⟨rfl, rfl⟩; exact op_pick_t rfl rfl),
            ⟨.p rfl (by intro X; rintro _ _ ⟨rfl, rfl⟩ _ _ ⟨rfl, rfl⟩; exact op_pick_f rfl rfl),
            ⟨.p rfl (by intro X; exact op_move rfl),
            ⟨.p rfl (by intro X; rintro _ _ ⟨rfl, rfl⟩; exact op_eql rfl rfl),
            ⟨.p rfl (by intro X; rintro _ _ ⟨rfl, rfl⟩; exact op_assign rfl),
            ⟨.p rfl (by intro X; rintro _ _ ⟨rfl, rfl⟩; exact op_store rfl rfl tZ52xg (by rfl) (by rfl) (by exact Nat.le_of_ble_eq_true rfl)) (hu := by exact .inr fun _ _ h => h.1),
            ⟨.p rfl (by intro X; rintro _ _ ⟨rfl, rfl⟩; exact op_assign rfl),
            trivial⟩⟩⟩⟩⟩⟩⟩⟩⟩⟩⟩⟩⟩⟩⟩⟩⟩⟩⟩)
            (fun β β' => ⟨fun _ => by rfl, ⟨fun _ => by rfl, ⟨fun _ => by rfl, ⟨fun _ => by rfl, ⟨fun _ => by rfl, ⟨fun _ => by rfl, ⟨fun _ => by rfl, ⟨fun _ => by rfl, ⟨fun _ => by rfl, ⟨fun _ => by rfl, ⟨fun _ => by rfl, ⟨fun _ => by rfl, ⟨fun _ => by rfl, ⟨fun _ => by rfl, ⟨fun _ => by rfl, ⟨fun _ => by rfl, ⟨fun _ => by rfl, ⟨fun _ => by rfl, ⟨fun _ => by rfl, trivial⟩⟩⟩⟩⟩⟩⟩⟩⟩⟩⟩⟩⟩⟩⟩⟩⟩⟩⟩) ?_
        intro β
        rintro _ _ ⟨rfl, rfl⟩ _ _ ⟨rfl, rfl⟩ _ _ ⟨rfl, rfl⟩ _ _ ⟨rfl, rfl⟩ _ _ ⟨rfl, rfl⟩ _ _ ⟨rfl, rfl⟩ _ _ ⟨rfl, rfl⟩ _ _ ⟨rfl, rfl⟩ _ _ ⟨rfl, rfl⟩ _ _ ⟨rfl, rfl⟩ _ _ ⟨rfl, rfl⟩ _ _ ⟨rfl, rfl⟩ _ _ ⟨rfl, rfl⟩ _ _ ⟨rfl, rfl⟩ _ _ ⟨rfl, rfl⟩ _ _ ⟨rfl, rfl⟩ _ _ ⟨rfl, rfl⟩ _ _ ⟨rfl, rfl⟩ _ _ ⟨rfl, rfl⟩
        refine wl_norm (e' := [(10, _), (11, _), (12, _), (83, _)]) (.cons rfl (.cons rfl (.cons rfl (.cons rfl (.nil _))))) (by dsimp only [cond_false, cond_true, List.nil_append, List.cons_append]) ?_
        refine za rfl (wl_nil (st_tn (w_ret (st_br (st_tr (st_ret (vs := [_, _, _, _]) [601, 611, 605, 606] Try.results27 ⟨rfl, ⟨⟨_, rfl, Ent.mono (Ent.lab (l := 11) rfl (says_cel 0)) (fun _ h => run_load_agg tA52xg h (Nat.le_of_ble_eq_true rfl))⟩, ⟨rfl, ⟨rfl, trivial⟩⟩⟩⟩ rfl ?_))))))
        refine ⟨[(601, _), (611, _), (605, _), (606, _)], rfl, ?_⟩
        rw [hcl]; exact ⟨_, P1, P2, fun _ h => h, fun _ h => h, ⟨a, c, p, cp, Y, hm⟩, rfl, rfl⟩
    · -- hpd-
      have hp0 : L.pend ≠ [] := fun h => hpd (by rw [h]; rfl)
      refine w_region (zd rfl (op_loadA rfl tA52xg (Ent.lab (l := 7) rfl (says_cel 0)) (Nat.le_of_ble_eq_true rfl)) (wl_op [] rfl rfl rfl rfl (op_fn Try.func56 rfl rfl rfl (mcommit_go 162 163 (hm.slx rfl (by omega)) (hm.slr rfl (by omega)) (hm.slp rfl (by omega)) (by omega) (by omega) (by omega) (fun y hy => by obtain ⟨z, hz, e1, e2, e3⟩ := hm.rel.mem hy; have h4 := hS.ok.seg.num z hz; have h5 := gs_le (hS.ok.seg.grp z hz); have h6 := recs_le hz; rw [e1, e2, e3]; omega))) ?_))
      rintro _ _ ⟨a62, c62, q62, cq62, rfl, rfl⟩
      refine wl_op0 [11] rfl rfl rfl (op_store rfl rfl tZ52xg (by rfl) (by rfl) (by exact Nat.le_of_ble_eq_true rfl)) ?_
      rintro _ _ ⟨rfl, rfl⟩
      refine wl_nil (st_tn (w_seq (w_star 163 605 605 rfl ?_)))
      refine w_wk 605 (poolS ((.slice q62 (recsN Y L.fresh L.pend).length cq62, recsN Y L.fresh L.pend) :: P1)) rfl (fun _ h => h) ?_
      refine w_star 162 606 606 rfl ?_
      refine w_wk 606 (poolX ((.slice a62 (noteX Y L.fresh L.pend q62 cq62).length c62, noteX Y L.fresh L.pend q62 cq62) :: P2)) rfl (fun _ h => h) ?_
      have hm2 := ms_commit hm hp0 a62 q62 c62 cq62
      have hYl2 := hm2.rel.len
      have hseg2 := segs_le_all (segs := (commitL L).segs) (by rw [lastN_commit hp0]; exact (oks_note hS.ok.seg rfl ⟨hp0, hS.ok.pl, hS.ok.pc⟩ hnx).grp)
      have hrec2 := congrArg List.length hm2.rel.recs
      refine w_region (zm rfl (wl_op [601, 611] rfl rfl rfl rfl (op_fn Try.func15 rfl rfl rfl (commit_to 601 611 hc hS.ok hg hnm hnx)) ?_))
      rintro _ _ ⟨rfl, rfl⟩
      refine zm rfl (zd rfl (op_extract rfl rfl) (zd rfl (op_extract rfl rfl) (za rfl (za rfl (wl_nil (st_tn (w_seq ?_)))))))
      by_cases h27 : e = 27
      · -- h27+
        refine w_drawW (fun β => [⟨68, [], [], [], noW (_), false, [], []⟩, ⟨69, [], [], [], noW (_), false, [17], []⟩, ⟨70, [], [], [], noW (_), false, [], []⟩, ⟨71, [2], [], [], noW (_), false, [], []⟩, ⟨72, [3], [], [], noW (_), false, [], []⟩, ⟨73, [], [], [], noW (Det undef), false, [], []⟩, ⟨74, [], [], [], noW (Det undef), false, [], []⟩, ⟨75, [], [], [], noW (Det undef), false, [], []⟩, ⟨76, [], [], [], noW (Det undef), false, [], []⟩, ⟨77, [], [], [], noW (Det undef), false, [], []⟩, ⟨78, [], [], [], noW (Det undef), false, [], []⟩, ⟨79, [], [], [], noW (Det undef), false, [], []⟩, ⟨80, [], [], [], noW (Det undef), false, [], []⟩, ⟨81, [4, 12], [], [], noW (_), false, [], []⟩, ⟨82, [], [], [], noW (_), false, [], []⟩, ⟨83, [14], [], [], noW (_), false, [], []⟩, ⟨10, [0], [], [], noW (_), false, [], []⟩, ⟨149, [1], [], [(11, _)], noW (_), false, [], []⟩, ⟨12, [13], [], [], noW (_), false, [], []⟩]) [11] [1, 11, 17, 16] [⟨68, [], [], false, [], []⟩, ⟨69, [], [], false, [17], []⟩, ⟨70, [], [], false, [], []⟩, ⟨71, [2], [], false, [], []⟩, ⟨72, [3], [], false, [], []⟩, ⟨73, [], [], false, [], []⟩, ⟨74, [], [], false, [], []⟩, ⟨75, [], [], false, [], []⟩, ⟨76, [], [], false, [], []⟩, ⟨77, [], [], false, [], []⟩, ⟨78, [], [], false, [], []⟩, ⟨79, [], [], false, [], []⟩, ⟨80, [], [], false, [], []⟩, ⟨81, [4, 12], [], false, [], []⟩, ⟨82, [], [], false, [], []⟩, ⟨83, [14], [], false, [], []⟩, ⟨10, [0], [], false, [], []⟩, ⟨149, [1], [], false, [], []⟩, ⟨12, [13], [], false, [], []⟩] [[], [], [], [], [], [], [], [], [], [], [], [], [], [], [], [], [], [], []] [[], [], [], [], [], [], [], [], [], [], [], [], [], [], [], [], [], [(11, _)], []] tMixxg (fun _ => by rfl) (fun _ => by rfl) (by kernel_rfl) (by kernel_rfl) (by rfl) (by rfl)
            (fun β => ⟨.p rfl (by intro X; exact op_move rfl),
            ⟨.p rfl (by intro X; exact op_loadA rfl tA52xg (Ent.lab (l := 11) rfl (says_cel 0)) (Nat.le_of_ble_eq_true rfl)),
            ⟨.p rfl (by intro X; exact op_move rfl),
            ⟨.p rfl (by intro X; rintro _ _ ⟨rfl, rfl⟩; exact op_val (v' := .bool true) (by rw [decide_eq_true h27]) (op_eql rfl rfl)),
            ⟨.p rfl (by intro X; rintro _ _ ⟨rfl, rfl⟩; exact op_move rfl),
            ⟨.u rfl rfl rfl (by rintro _ _ ⟨rfl, rfl⟩; exact congrArg (offB false) (by rfl : _ = Value.bool true)) ⟨rfl, rfl⟩ rfl rfl,
            ⟨.u rfl rfl rfl (by rintro _ _ ⟨rfl, rfl⟩; exact congrArg (offB false) (by rfl : _ = Value.bool true)) ⟨rfl, rfl⟩ rfl rfl,
            ⟨.u rfl rfl rfl (by rintro _ _ ⟨rfl, rfl⟩; exact congrArg (offB false) (by rfl : _ = Value.bool true)) ⟨rfl, rfl⟩ rfl rfl,
            ⟨.u rfl rfl rfl (by rintro _ _ ⟨rfl, rfl⟩; rfl) ⟨rfl, rfl⟩ rfl rfl,
            ⟨.u rfl rfl rfl (by rintro _ _ ⟨rfl, rfl⟩; rfl) ⟨rfl, rfl⟩ rfl rfl,
            ⟨.u rfl rfl rfl (by rintro _ _ ⟨rfl, rfl⟩; rfl) ⟨rfl, rfl⟩ rfl rfl,
            ⟨.u rfl rfl rfl (by rintro _ _ ⟨rfl, rfl⟩; rfl) ⟨rfl, rfl⟩ rfl rfl,
            ⟨.u rfl rfl rfl (by rintro _ _ ⟨rfl, rfl⟩; exact congrArg (offB false) (by rfl : _ = Value.bool true)) ⟨rfl, rfl⟩ rfl rfl,
            ⟨.p rfl (by intro X; rintro _ _ ⟨rfl, rfl⟩ _ _ ⟨rfl, rfl⟩; exact op_pick_t rfl rfl),
            ⟨.p rfl (by intro X; exact op_move rfl),
            ⟨.p rfl (by intro X; rintro _ _ ⟨rfl, rfl⟩; exact op_eql rfl rfl),
            ⟨.p rfl (by intro X; rintro _ _ ⟨rfl, rfl⟩; exact op_assign rfl),
            ⟨.p rfl (by intro X; rintro _ _ ⟨rfl, rfl⟩; exact op_store rfl rfl tZ52xg (by rfl) (by rfl) (by exact Nat.le_of_ble_eq_true rfl)) (hu := by exact .inr fun _ _ h => h.1),
            ⟨.p rfl (by intro X; rintro _ _ ⟨rfl, rfl⟩; exact op_assign rfl),
            trivial⟩⟩⟩⟩⟩⟩⟩⟩⟩⟩⟩⟩⟩⟩⟩⟩⟩⟩⟩)
            (fun β β' => ⟨fun _ => by rfl, ⟨fun _ => by rfl, ⟨fun _ => by rfl, ⟨fun _ => by rfl, ⟨fun _ => by rfl, ⟨fun _ => by rfl, ⟨fun _ => by rfl, ⟨fun _ => by rfl, ⟨fun _ => by rfl, ⟨fun _ => by rfl, ⟨fun _ => by rfl, ⟨fun _ => by rfl, ⟨fun _ => by rfl, ⟨fun _ => by rfl, ⟨fun _ => by rfl, ⟨fun _ => by rfl, ⟨fun _ => by rfl, ⟨fun _ => by rfl, ⟨fun _ => by rfl, trivial⟩⟩⟩⟩⟩⟩⟩⟩⟩⟩⟩⟩⟩⟩⟩⟩⟩⟩⟩) ?_
        intro β
        rintro _ _ ⟨rfl, rfl⟩ _ _ ⟨rfl, rfl⟩ _ _ ⟨rfl, rfl⟩ _ _ ⟨rfl, rfl⟩ _ _ ⟨rfl, rfl⟩ _ _ ⟨rfl, rfl⟩ _ _ ⟨rfl, rfl⟩ _ _ ⟨rfl, rfl⟩ _ _ ⟨rfl, rfl⟩ _ _ ⟨rfl, rfl⟩ _ _ ⟨rfl, rfl⟩ _ _ ⟨rfl, rfl⟩ _ _ ⟨rfl, rfl⟩ _ _ ⟨rfl, rfl⟩ _ _ ⟨rfl, rfl⟩ _ _ ⟨rfl, rfl⟩ _ _ ⟨rfl, rfl⟩ _ _ ⟨rfl, rfl⟩ _ _ ⟨rfl, rfl⟩
        refine wl_norm (e' := [(10, _), (11, _), (12, _), (83, _)]) (.cons rfl (.cons rfl (.cons rfl (.cons rfl (.nil _))))) (by dsimp only [cond_false, cond_true, List.nil_append, List.cons_append]) ?_
        refine za rfl (wl_nil (st_tn (w_ret (st_br (st_tr (st_ret (vs := [_, _, _, _]) [601, 611, 605, 606] Try.results27 ⟨rfl, ⟨⟨_, rfl, Ent.mono (Ent.lab (l := 11) rfl (says_cel 0)) (fun _ h => run_load_agg tA52xg h (Nat.le_of_ble_eq_true rfl))⟩, ⟨rfl, ⟨rfl, trivial⟩⟩⟩⟩ rfl ?_))))))
        refine ⟨[(601, _), (611, _), (605, _), (606, _)], rfl, ?_⟩
        exact ⟨_, _, _, List.subset_cons_self _ _, List.subset_cons_self _ _, ⟨_, _, _, _, _, hm2⟩, rfl, rfl⟩
      · -- h27-
        obtain ⟨he0, hnl⟩ : e = 0 ∧ n = lastN (commitL L) := he.resolve_left h27
        have hln : (n : Int) = L.first + ((allR L.segs).length + L.pend.length) - 1 := by rw [hnl]; unfold lastN; rw [hfc, hacl]; omega
        refine w_drawW (fun β => [⟨68, [], [], [], noW (_), false, [], []⟩, ⟨69, [], [], [], noW (_), false, [17], []⟩, ⟨70, [], [], [], noW (_), false, [], []⟩, ⟨71, [2], [], [], noW (_), false, [], []⟩, ⟨72, [3], [], [], noW (_), false, [], []⟩, ⟨73, [], [], [], noW (_), false, [], []⟩, ⟨74, [5], [], [], noW (_), false, [], []⟩, ⟨75, [6], [], [], noW (_), false, [], []⟩, ⟨76, [], [], [], noW (_), false, [], []⟩, ⟨77, [], [], [], noW (_), false, [17], []⟩, ⟨78, [9], [], [], noW (_), false, [], []⟩, ⟨79, [8, 10], [], [], noW (_), false, [], []⟩, ⟨80, [7, 11], [], [], noW (_), false, [], []⟩, ⟨81, [4, 12], [], [], noW (_), false, [], []⟩, ⟨82, [], [], [], noW (_), false, [], []⟩, ⟨83, [14], [], [], noW (_), false, [], []⟩, ⟨10, [0], [], [], noW (_), false, [], []⟩, ⟨149, [1], [], [(11, _)], noW (_), false, [], []⟩, ⟨12, [13], [], [], noW (_), false, [], []⟩]) [11] [1, 11, 17, 16] [⟨68, [], [], false, [], []⟩, ⟨69, [], [], false, [17], []⟩, ⟨70, [], [], false, [], []⟩, ⟨71, [2], [], false, [], []⟩, ⟨72, [3], [], false, [], []⟩, ⟨73, [], [], false, [], []⟩, ⟨74, [5], [], false, [], []⟩, ⟨75, [6], [], false, [], []⟩, ⟨76, [], [], false, [], []⟩, ⟨77, [], [], false, [17], []⟩, ⟨78, [9], [], false, [], []⟩, ⟨79, [8, 10], [], false, [], []⟩, ⟨80, [7, 11], [], false, [], []⟩, ⟨81, [4, 12], [], false, [], []⟩, ⟨82, [], [], false, [], []⟩, ⟨83, [14], [], false, [], []⟩, ⟨10, [0], [], false, [], []⟩, ⟨149, [1], [], false, [], []⟩, ⟨12, [13], [], false, [], []⟩] [[], [], [], [], [], [], [], [], [], [], [], [], [], [], [], [], [], [], []] [[], [], [], [], [], [], [], [], [], [], [], [], [], [], [], [], [], [(11, _)], []] tMixxg (fun _ => by rfl) (fun _ => by rfl) (by kernel_rfl) (by kernel_rfl) (by rfl) (by rfl)
            (fun β => ⟨.p rfl (by intro X; exact op_move rfl),
            ⟨.p rfl (by intro X; exact op_loadA rfl tA52xg (Ent.lab (l := 11) rfl (says_cel 0)) (Nat.le_of_ble_eq_true rfl)),
            ⟨.p rfl (by intro X; exact op_move rfl),
            ⟨.p rfl (by intro X; rintro _ _ ⟨rfl, rfl⟩; exact op_val (v' := .bool false) (by rw [decide_eq_false h27]) (op_eql rfl rfl)),
            ⟨.p rfl (by intro X; rintro _ _ ⟨rfl, rfl⟩; exact op_move rfl),
            ⟨.w rfl rfl rfl (by rintro _ _ ⟨rfl, rfl⟩; rfl) (by intro X; exact op_move rfl),
            ⟨.w rfl rfl rfl (by rintro _ _ ⟨rfl, rfl⟩; rfl) (by intro X; rintro _ _ ⟨rfl, rfl⟩; exact op_val (v' := .bool true) (by rw [decide_eq_true he0]) (op_eql rfl rfl)),
            ⟨.w rfl rfl rfl (by rintro _ _ ⟨rfl, rfl⟩; rfl) (by intro X; rintro _ _ ⟨rfl, rfl⟩; exact op_move rfl),
            ⟨.w rfl rfl rfl (by rintro _ _ ⟨rfl, rfl⟩; rfl) (by intro X; exact op_move rfl),
            ⟨.w rfl rfl rfl (by rintro _ _ ⟨rfl, rfl⟩; rfl) (by intro X; exact op_loadA rfl tA52xg (Ent.lab (l := 11) rfl (says_cel 0)) (Nat.le_of_ble_eq_true rfl)),
            ⟨.w rfl rfl rfl (by rintro _ _ ⟨rfl, rfl⟩; rfl) (by intro X; rintro _ _ ⟨rfl, rfl⟩; exact op_fn Try.func29 rfl rfl rfl (mlast_any (hm2.slx rfl (by omega)) (hm2.slr rfl (by omega)) (by omega) (by omega))),
            ⟨.w rfl rfl rfl (by rintro _ _ ⟨rfl, rfl⟩; rfl) (by intro X; rintro _ _ ⟨rfl, rfl⟩ _ _ ⟨rfl, rfl⟩; exact op_val (v' := .bool true) (by rw [decide_eq_true (by omega)]) (op_eql rfl rfl)),
            ⟨.w rfl rfl rfl (by rintro _ _ ⟨rfl, rfl⟩; rfl) (by intro X; rintro _ _ ⟨rfl, rfl⟩ _ _ ⟨rfl, rfl⟩; exact op_pick_t rfl rfl),
            ⟨.p rfl (by intro X; rintro _ _ ⟨rfl, rfl⟩ _ _ ⟨rfl, rfl⟩; exact op_pick_f rfl rfl),
            ⟨.p rfl (by intro X; exact op_move rfl),
            ⟨.p rfl (by intro X; rintro _ _ ⟨rfl, rfl⟩; exact op_eql rfl rfl),
            ⟨.p rfl (by intro X; rintro _ _ ⟨rfl, rfl⟩; exact op_assign rfl),
            ⟨.p rfl (by intro X; rintro _ _ ⟨rfl, rfl⟩; exact op_store rfl rfl tZ52xg (by rfl) (by rfl) (by exact Nat.le_of_ble_eq_true rfl)) (hu := by exact .inr fun _ _ h => h.1),
            ⟨.p rfl (by intro X; rintro _ _ ⟨rfl, rfl⟩; exact op_assign rfl),
            trivial⟩⟩⟩⟩⟩⟩⟩⟩⟩⟩⟩⟩⟩⟩⟩⟩⟩⟩⟩)
            (fun β β' => ⟨fun _ => by rfl, ⟨fun _ => by rfl, ⟨fun _ => by rfl, ⟨fun _ => by rfl, ⟨fun _ => by rfl, ⟨fun _ => by rfl, ⟨fun _ => by rfl, ⟨fun _ => by rfl, ⟨fun _ => by rfl, ⟨fun _ => by rfl, ⟨fun _ => by rfl, ⟨fun _ => by rfl, ⟨fun _ => by rfl, ⟨fun _ => by rfl, ⟨fun _ => by rfl, ⟨fun _ => by rfl, ⟨fun _ => by rfl, ⟨fun _ => by rfl, ⟨fun _ => by rfl, trivial⟩⟩⟩⟩⟩⟩⟩⟩⟩⟩⟩⟩⟩⟩⟩⟩⟩⟩⟩) ?_
        intro β
        rintro _ _ ⟨rfl, rfl⟩ _ _ ⟨rfl, rfl⟩ _ _ ⟨rfl, rfl⟩ _ _ ⟨rfl, rfl⟩ _ _ ⟨rfl, rfl⟩ _ _ ⟨rfl, rfl⟩ _ _ ⟨rfl, rfl⟩ _ _ ⟨rfl, rfl⟩ _ _ ⟨rfl, rfl⟩ _ _ ⟨rfl, rfl⟩ _ _ ⟨rfl, rfl⟩ _ _ ⟨rfl, rfl⟩ _ _ ⟨rfl, rfl⟩ _ _ ⟨rfl, rfl⟩ _ _ ⟨rfl, rfl⟩ _ _ ⟨rfl, rfl⟩ _ _ ⟨rfl, rfl⟩ _ _ ⟨rfl, rfl⟩ _ _ ⟨rfl, rfl⟩
        refine wl_norm (e' := [(10, _), (11, _), (12, _), (83, _)]) (.cons rfl (.cons rfl (.cons rfl (.cons rfl (.nil _))))) (by dsimp only [cond_false, cond_true, List.nil_append, List.cons_append]) ?_
        refine za rfl (wl_nil (st_tn (w_ret (st_br (st_tr (st_ret (vs := [_, _, _, _]) [601, 611, 605, 606] Try.results27 ⟨rfl, ⟨⟨_, rfl, Ent.mono (Ent.lab (l := 11) rfl (says_cel 0)) (fun _ h => run_load_agg tA52xg h (Nat.le_of_ble_eq_true rfl))⟩, ⟨rfl, ⟨rfl, trivial⟩⟩⟩⟩ rfl ?_))))))
        refine ⟨[(601, _), (611, _), (605, _), (606, _)], rfl, ?_⟩
        exact ⟨_, _, _, List.subset_cons_self _ _, List.subset_cons_self _ _, ⟨_, _, _, _, _, hm2⟩, rfl, rfl⟩
  · -- h3-
    refine w_region (zd rfl (op_val (v' := .bool false) (by rw [decide_eq_false (by omega)]) (op_eql rfl rfl)) ?_)
    refine za rfl (wl_nil (st_tn (w_cond_f (rfl) ?_)))
    refine w_region (zd rfl (op_val (v' := .bool true) (by rw [decide_eq_true (by omega)]) (op_eql rfl rfl)) ?_)
    refine za rfl (wl_nil (st_tn (w_cond_t (rfl) ?_)))
    refine w_seq ?_
    by_cases hpd : L.pend.length = 0
    · -- hpd+
      have hp0 : L.pend = [] := List.eq_nil_of_length_eq_zero hpd
      have hcl := commitL_nil hp0
      refine w_region (zd rfl (op_loadA rfl tA52xg (Ent.lab (l := 7) rfl (says_cel 0)) (Nat.le_of_ble_eq_true rfl)) (zd rfl (op_fn Try.func56 rfl rfl rfl (mcommit_nil (hm.slp rfl (by omega)) hpd)) ?_))
      refine wl_op0 [11] rfl rfl rfl (op_store rfl rfl tZ52xg (by rfl) (by rfl) (by exact Nat.le_of_ble_eq_true rfl)) ?_
      rintro _ _ ⟨rfl, rfl⟩
      refine wl_nil (st_tn (w_seq (w_region (zm rfl (wl_op [601, 611] rfl rfl rfl rfl (op_fn Try.func15 rfl rfl rfl (commit_to 601 611 hc hS.ok hg hnm hnx)) ?_)))))
      rintro _ _ ⟨rfl, rfl⟩
      refine zm rfl (zd rfl (op_extract rfl rfl) (zd rfl (op_extract rfl rfl) (za rfl (za rfl (wl_nil (st_tn (w_seq ?_)))))))
      by_cases h27 : e = 27
      · -- h27+
        refine w_drawW (fun β => [⟨68, [], [], [], noW (_), false, [], []⟩, ⟨69, [], [], [], noW (_), false, [17], []⟩, ⟨70, [], [], [], noW (_), false, [], []⟩, ⟨71, [2], [], [], noW (_), false, [], []⟩, ⟨72, [3], [], [], noW (_), false, [], []⟩, ⟨73, [], [], [], noW (Det undef), false, [], []⟩, ⟨74, [], [], [], noW (Det undef), false, [], []⟩, ⟨75, [], [], [], noW (Det undef), false, [], []⟩, ⟨76, [], [], [], noW (Det undef), false, [], []⟩, ⟨77, [], [], [], noW (Det undef), false, [], []⟩, ⟨78, [], [], [], noW (Det undef), false, [], []⟩, ⟨79, [], [], [], noW (Det undef), false, [], []⟩, ⟨80, [], [], [], noW (Det undef), false, [], []⟩, ⟨81, [4, 12], [], [], noW (_), false, [], []⟩, ⟨82, [], [], [], noW (_), false, [], []⟩, ⟨83, [14], [], [], noW (_), false, [], []⟩, ⟨10, [0], [], [], noW (_), false, [], []⟩, ⟨149, [1], [], [(11, _)], noW (_), false, [], []⟩, ⟨12, [13], [], [], noW (_), false, [], []⟩]) [11] [1, 11, 17, 16] [⟨68, [], [], false, [], []⟩, ⟨69, [], [], false, [17], []⟩, ⟨70, [], [], false, [], []⟩, ⟨71, [2], [], false, [], []⟩, ⟨72, [3], [], false, [], []⟩, ⟨73, [], [], false, [], []⟩, ⟨74, [], [], false, [], []⟩, ⟨75, [], [], false, [], []⟩, ⟨76, [], [], false, [], []⟩, ⟨77, [], [], false, [], []⟩, ⟨78, [], [], false, [], []⟩, ⟨79, [], [], false, [], []⟩, ⟨80, [], [], false, [], []⟩, ⟨81, [4, 12], [], false, [], []⟩, ⟨82, [], [], false, [], []⟩, ⟨83, [14], [], false, [], []⟩, ⟨10, [0], [], false, [], []⟩, ⟨149, [1], [], false, [], []⟩, ⟨12, [13], [], false, [], []⟩] [[], [], [], [], [], [], [], [], [], [], [], [], [], [], [], [], [], [], []] [[], [], [], [], [], [], [], [], [], [], [], [], [], [], [], [], [], [(11, _)], []] tMixxg (fun _ => by rfl) (fun _ => by rfl) (by kernel_rfl) (by kernel_rfl) (by rfl) (by rfl)
            (fun β => ⟨.p rfl (by intro X; exact op_move rfl),
            ⟨.p rfl (by intro X; exact op_loadA rfl tA52xg (Ent.lab (l := 11) rfl (says_cel 0)) (Nat.le_of_ble_eq_true rfl)),
            ⟨.p rfl (by intro X; exact op_move rfl),
            ⟨.p rfl (by intro X; rintro _ _ ⟨rfl, rfl⟩; exact op_val (v' := .bool true) (by rw [decide_eq_true h27]) (op_eql rfl rfl)),
            ⟨.p rfl (by intro X; rintro _ _ ⟨rfl, rfl⟩; exact op_move rfl),
            ⟨.u rfl rfl rfl (by rintro _ _ ⟨rfl, rfl⟩; exact congrArg (offB false) (by rfl : _ = Value.bool true)) ⟨rfl, rfl⟩ rfl rfl,
            ⟨.u rfl rfl rfl (by rintro _ _ ⟨rfl, rfl⟩; exact congrArg (offB false) (by rfl : _ = Value.bool true)) ⟨rfl, rfl⟩ rfl rfl,
            ⟨.u rfl rfl rfl (by rintro _ _ ⟨rfl, rfl⟩; exact congrArg (offB false) (by rfl : _ = Value.bool true)) ⟨rfl, rfl⟩ rfl rfl,
            ⟨.u rfl rfl rfl (by rintro _ _ ⟨rfl, rfl⟩; rfl) ⟨rfl, rfl⟩ rfl rfl,
            ⟨.u rfl rfl rfl (by rintro _ _ ⟨rfl, rfl⟩; rfl) ⟨rfl, rfl⟩ rfl rfl,
            ⟨.u rfl rfl rfl (by rintro _ _ ⟨rfl, rfl⟩; rfl) ⟨rfl, rfl⟩ rfl rfl,
            ⟨.u rfl rfl rfl (by rintro _ _ ⟨rfl, rfl⟩; rfl) ⟨rfl, rfl⟩ rfl rfl,
            ⟨.u rfl rfl rfl (by rintro _ _ ⟨rfl, rfl⟩; exact congrArg (offB false) (by rfl : _ = Value.bool true)) ⟨rfl, rfl⟩ rfl rfl,
            ⟨.p rfl (by intro X; rintro _ _ ⟨rfl, rfl⟩ _ _ ⟨rfl, rfl⟩; exact op_pick_t rfl rfl),
            ⟨.p rfl (by intro X; exact op_move rfl),
            ⟨.p rfl (by intro X; rintro _ _ ⟨rfl, rfl⟩; exact op_eql rfl rfl),
            ⟨.p rfl (by intro X; rintro _ _ ⟨rfl, rfl⟩; exact op_assign rfl),
            ⟨.p rfl (by intro X; rintro _ _ ⟨rfl, rfl⟩; exact op_store rfl rfl tZ52xg (by rfl) (by rfl) (by exact Nat.le_of_ble_eq_true rfl)) (hu := by exact .inr fun _ _ h => h.1),
            ⟨.p rfl (by intro X; rintro _ _ ⟨rfl, rfl⟩; exact op_assign rfl),
            trivial⟩⟩⟩⟩⟩⟩⟩⟩⟩⟩⟩⟩⟩⟩⟩⟩⟩⟩⟩)
            (fun β β' => ⟨fun _ => by rfl, ⟨fun _ => by rfl, ⟨fun _ => by rfl, ⟨fun _ => by rfl, ⟨fun _ => by rfl, ⟨fun _ => by rfl, ⟨fun _ => by rfl, ⟨fun _ => by rfl, ⟨fun _ => by rfl, ⟨fun _ => by rfl, ⟨fun _ => by rfl, ⟨fun _ => by rfl, ⟨fun _ => by rfl, ⟨fun _ => by rfl, ⟨fun _ => by rfl, ⟨fun _ => by rfl, ⟨fun _ => by rfl, ⟨fun _ => by rfl, ⟨fun _ => by rfl, trivial⟩⟩⟩⟩⟩⟩⟩⟩⟩⟩⟩⟩⟩⟩⟩⟩⟩⟩⟩) ?_
        intro β
        rintro _ _ ⟨rfl, rfl⟩ _ _ ⟨rfl, rfl⟩ _ _ ⟨rfl, rfl⟩ _ _ ⟨rfl, rfl⟩ _ _ ⟨rfl, rfl⟩ _ _ ⟨rfl, rfl⟩ _ _ ⟨rfl, rfl⟩ _ _ ⟨rfl, rfl⟩ _ _ ⟨rfl, rfl⟩ _ _ ⟨rfl, rfl⟩ _ _ ⟨rfl, rfl⟩ _ _ ⟨rfl, rfl⟩ _ _ ⟨rfl, rfl⟩ _ _ ⟨rfl, rfl⟩ _ _ ⟨rfl, rfl⟩ _ _ ⟨rfl, rfl⟩ _ _ ⟨rfl, rfl⟩ _ _ ⟨rfl, rfl⟩ _ _ ⟨rfl, rfl⟩
        refine wl_norm (e' := [(10, _), (11, _), (12, _), (83, _)]) (.cons rfl (.cons rfl (.cons rfl (.cons rfl (.nil _))))) (by dsimp only [cond_false, cond_true, List.nil_append, List.cons_append]) ?_
        refine za rfl (wl_nil (st_tn (w_ret (st_br (st_tr (st_ret (vs := [_, _, _, _]) [601, 611, 605, 606] Try.results27 ⟨rfl, ⟨⟨_, rfl, Ent.mono (Ent.lab (l := 11) rfl (says_cel 0)) (fun _ h => run_load_agg tA52xg h (Nat.le_of_ble_eq_true rfl))⟩, ⟨rfl, ⟨rfl, trivial⟩⟩⟩⟩ rfl ?_))))))
        refine ⟨[(601, _), (611, _), (605, _), (606, _)], rfl, ?_⟩
        rw [hcl]; exact ⟨_, P1, P2, fun _ h => h, fun _ h => h, ⟨a, c, p, cp, Y, hm⟩, rfl, rfl⟩
      · -- h27-
        obtain ⟨he0, hnl⟩ : e = 0 ∧ n = lastN (commitL L) := he.resolve_left h27
        have hln : (n : Int) = L.first + ((allR L.segs).length + L.pend.length) - 1 := by rw [hnl]; unfold lastN; rw [hfc, hacl]; omega
        refine w_drawW (fun β => [⟨68, [], [], [], noW (_), false, [], []⟩, ⟨69, [], [], [], noW (_), false, [17], []⟩, ⟨70, [], [], [], noW (_), false, [], []⟩, ⟨71, [2], [], [], noW (_), false, [], []⟩, ⟨72, [3], [], [], noW (_), false, [], []⟩, ⟨73, [], [], [], noW (_), false, [], []⟩, ⟨74, [5], [], [], noW (_), false, [], []⟩, ⟨75, [6], [], [], noW (_), false, [], []⟩, ⟨76, [], [], [], noW (_), false, [], []⟩, ⟨77, [], [], [], noW (_), false, [17], []⟩, ⟨78, [9], [], [], noW (_), false, [], []⟩, ⟨79, [8, 10], [], [], noW (_), false, [], []⟩, ⟨80, [7, 11], [], [], noW (_), false, [], []⟩, ⟨81, [4, 12], [], [], noW (_), false, [], []⟩, ⟨82, [], [], [], noW (_), false, [], []⟩, ⟨83, [14], [], [], noW (_), false, [], []⟩, ⟨10, [0], [], [], noW (_), false, [], []⟩, ⟨149, [1], [], [(11, _)], noW (_), false, [], []⟩, ⟨12, [13], [], [], noW (_), false, [], []⟩]) [11] [1, 11, 17, 16] [⟨68, [], [], false, [], []⟩, ⟨69, [], [], false, [17], []⟩, ⟨70, [], [], false, [], []⟩, ⟨71, [2], [], false, [], []⟩, ⟨72, [3], [], false, [], []⟩, ⟨73, [], [], false, [], []⟩, ⟨74, [5], [], false, [], []⟩, ⟨75, [6], [], false, [], []⟩, ⟨76, [], [], false, [], []⟩, ⟨77, [], [], false, [17], []⟩, ⟨78, [9], [], false, [], []⟩, ⟨79, [8, 10], [], false, [], []⟩, ⟨80, [7, 11], [], false, [], []⟩, ⟨81, [4, 12], [], false, [], []⟩, ⟨82, [], [], false, [], []⟩, ⟨83, [14], [], false, [], []⟩, ⟨10, [0], [], false, [], []⟩, ⟨149, [1], [], false, [], []⟩, ⟨12, [13], [], false, [], []⟩] [[], [], [], [], [], [], [], [], [], [], [], [], [], [], [], [], [], [], []] [[], [], [], [], [], [], [], [], [], [], [], [], [], [], [], [], [], [(11, _)], []] tMixxg (fun _ => by rfl) (fun _ => by rfl) (by kernel_rfl) (by kernel_rfl) (by rfl) (by rfl)
            (fun β => ⟨.p rfl (by intro X; exact op_move rfl),
            ⟨.p rfl (by intro X; exact op_loadA rfl tA52xg (Ent.lab (l := 11) rfl (says_cel 0)) (Nat.le_of_ble_eq_true rfl)),
            ⟨.p rfl (by intro X; exact op_move rfl),
            ⟨.p rfl (by intro X; rintro _ _ ⟨rfl, rfl⟩; exact op_val (v' := .bool false) (by rw [decide_eq_false h27]) (op_eql rfl rfl)),
            ⟨.p rfl (by intro X; rintro _ _ ⟨rfl, rfl⟩; exact op_move rfl),
            ⟨.w rfl rfl rfl (by rintro _ _ ⟨rfl, rfl⟩; rfl) (by intro X; exact op_move rfl),
            ⟨.w rfl rfl rfl (by rintro _ _ ⟨rfl, rfl⟩; rfl) (by intro X; rintro _ _ ⟨rfl, rfl⟩; exact op_val (v' := .bool true) (by rw [decide_eq_true he0]) (op_eql rfl rfl)),
            ⟨.w rfl rfl rfl (by rintro _ _ ⟨rfl, rfl⟩; rfl) (by intro X; rintro _ _ ⟨rfl, rfl⟩; exact op_move rfl),
            ⟨.w rfl rfl rfl (by rintro _ _ ⟨rfl, rfl⟩; rfl) (by intro X; exact op_move rfl),
            ⟨.w rfl rfl rfl (by rintro _ _ ⟨rfl, rfl⟩; rfl) (by intro X; exact op_loadA rfl tA52xg (Ent.lab (l := 11) rfl (says_cel 0)) (Nat.le_of_ble_eq_true rfl)),
            ⟨.w rfl rfl rfl (by rintro _ _ ⟨rfl, rfl⟩; rfl) (by intro X; rintro _ _ ⟨rfl, rfl⟩; exact op_fn Try.func29 rfl rfl rfl (mlast_any (hm.slx rfl (by omega)) (hm.slr rfl (by omega)) (by omega) (by omega))),
            ⟨.w rfl rfl rfl (by rintro _ _ ⟨rfl, rfl⟩; rfl) (by intro X; rintro _ _ ⟨rfl, rfl⟩ _ _ ⟨rfl, rfl⟩; exact op_val (v' := .bool true) (by rw [decide_eq_true (by omega)]) (op_eql rfl rfl)),
            ⟨.w rfl rfl rfl (by rintro _ _ ⟨rfl, rfl⟩; rfl) (by intro X; rintro _ _ ⟨rfl, rfl⟩ _ _ ⟨rfl, rfl⟩; exact op_pick_t rfl rfl),
            ⟨.p rfl (by intro X; rintro _ _ ⟨rfl, rfl⟩ _ _ ⟨rfl, rfl⟩; exact op_pick_f rfl rfl),
            ⟨.p rfl (by intro X; exact op_move rfl),
            ⟨.p rfl (by intro X; rintro _ _ ⟨rfl, rfl⟩; exact op_eql rfl rfl),
            ⟨.p rfl (by intro X; rintro _ _ ⟨rfl, rfl⟩; exact op_assign rfl),
            ⟨.p rfl (by intro X; rintro _ _ ⟨rfl, rfl⟩; exact op_store rfl rfl tZ52xg (by rfl) (by rfl) (by exact Nat.le_of_ble_eq_true rfl)) (hu := by exact .inr fun _ _ h => h.1),
            ⟨.p rfl (by intro X; rintro _ _ ⟨rfl, rfl⟩; exact op_assign rfl),
            trivial⟩⟩⟩⟩⟩⟩⟩⟩⟩⟩⟩⟩⟩⟩⟩⟩⟩⟩⟩)
            (fun β β' => ⟨fun _ => by rfl, ⟨fun _ => by rfl, ⟨fun _ => by rfl, ⟨fun _ => by rfl, ⟨fun _ => by rfl, ⟨fun _ => by rfl, ⟨fun _ => by rfl, ⟨fun _ => by rfl, ⟨fun _ => by rfl, ⟨fun _ => by rfl, ⟨fun _ => by rfl, ⟨fun _ => by rfl, ⟨fun _ => by rfl, ⟨fun _ => by rfl, ⟨fun _ => by rfl, ⟨fun _ => by rfl, ⟨fun _ => by rfl, ⟨fun _ => by rfl, ⟨fun _ => by rfl, trivial⟩⟩⟩⟩⟩⟩⟩⟩⟩⟩⟩⟩⟩⟩⟩⟩⟩⟩⟩) ?_
        intro β
        rintro _ _ ⟨rfl, rfl⟩ _ _ ⟨rfl, rfl⟩ _ _ ⟨rfl, rfl⟩ _ _ ⟨rfl, rfl⟩ _ _ ⟨rfl, rfl⟩ _ _ ⟨rfl, rfl⟩ _ _ ⟨rfl, rfl⟩ _ _ ⟨rfl, rfl⟩ _ _ ⟨rfl, rfl⟩ _ _ ⟨rfl, rfl⟩ _ _ ⟨rfl, rfl⟩ _ _ ⟨rfl, rfl⟩ _ _ ⟨rfl, rfl⟩ _ _ ⟨rfl, rfl⟩ _ _ ⟨rfl, rfl⟩ _ _ ⟨rfl, rfl⟩ _ _ ⟨rfl, rfl⟩ _ _ ⟨rfl, rfl⟩ _ _ ⟨rfl, rfl⟩
        refine wl_norm (e' := [(10, _), (11, _), (12, _), (83, _)]) (.cons rfl (.cons rfl (.cons rfl (.cons rfl (.nil _))))) (by dsimp only [cond_false, cond_true, List.nil_append, List.cons_append]) ?_
        refine za rfl (wl_nil (st_tn (w_ret (st_br (st_tr (st_ret (vs := [_, _, _, _]) [601, 611, 605, 606] Try.results27 ⟨rfl, ⟨⟨_, rfl, Ent.mono (Ent.lab (l := 11) rfl (says_cel 0)) (fun _ h => run_load_agg tA52xg h (Nat.le_of_ble_eq_true rfl))⟩, ⟨rfl, ⟨rfl, trivial⟩⟩⟩⟩ rfl ?_))))))
        refine ⟨[(601, _), (611, _), (605, _), (606, _)], rfl, ?_⟩
        rw [hcl]; exact ⟨_, P1, P2, fun _ h => h, fun _ h => h, ⟨a, c, p, cp, Y, hm⟩, rfl, rfl⟩
    · -- hpd-
      have hp0 : L.pend ≠ [] := fun h => hpd (by rw [h]; rfl)
      refine w_region (zd rfl (op_loadA rfl tA52xg (Ent.lab (l := 7) rfl (says_cel 0)) (Nat.le_of_ble_eq_true rfl)) (wl_op [] rfl rfl rfl rfl (op_fn Try.func56 rfl rfl rfl (mcommit_go 162 163 (hm.slx rfl (by omega)) (hm.slr rfl (by omega)) (hm.slp rfl (by omega)) (by omega) (by omega) (by omega) (fun y hy => by obtain ⟨z, hz, e1, e2, e3⟩ := hm.rel.mem hy; have h4 := hS.ok.seg.num z hz; have h5 := gs_le (hS.ok.seg.grp z hz); have h6 := recs_le hz; rw [e1, e2, e3]; omega))) ?_))
      rintro _ _ ⟨a62, c62, q62, cq62, rfl, rfl⟩
      refine wl_op0 [11] rfl rfl rfl (op_store rfl rfl tZ52xg (by rfl) (by rfl) (by exact Nat.le_of_ble_eq_true rfl)) ?_
      rintro _ _ ⟨rfl, rfl⟩
      refine wl_nil (st_tn (w_seq (w_star 163 605 605 rfl ?_)))
      refine w_wk 605 (poolS ((.slice q62 (recsN Y L.fresh L.pend).length cq62, recsN Y L.fresh L.pend) :: P1)) rfl (fun _ h => h) ?_
      refine w_star 162 606 606 rfl ?_
      refine w_wk 606 (poolX ((.slice a62 (noteX Y L.fresh L.pend q62 cq62).length c62, noteX Y L.fresh L.pend q62 cq62) :: P2)) rfl (fun _ h => h) ?_
      have hm2 := ms_commit hm hp0 a62 q62 c62 cq62
      have hYl2 := hm2.rel.len
      have hseg2 := segs_le_all (segs := (commitL L).segs) (by rw [lastN_commit hp0]; exact (oks_note hS.ok.seg rfl ⟨hp0, hS.ok.pl, hS.ok.pc⟩ hnx).grp)
      have hrec2 := congrArg List.length hm2.rel.recs
      refine w_region (zm rfl (wl_op [601, 611] rfl rfl rfl rfl (op_fn Try.func15 rfl rfl rfl (commit_to 601 611 hc hS.ok hg hnm hnx)) ?_))
      rintro _ _ ⟨rfl, rfl⟩
      refine zm rfl (zd rfl (op_extract rfl rfl) (zd rfl (op_extract rfl rfl) (za rfl (za rfl (wl_nil (st_tn (w_seq ?_)))))))
      by_cases h27 : e = 27
      · -- h27+
        refine w_drawW (fun β => [⟨68, [], [], [], noW (_), false, [], []⟩, ⟨69, [], [], [], noW (_), false, [17], []⟩, ⟨70, [], [], [], noW (_), false, [], []⟩, ⟨71, [2], [], [], noW (_), false, [], []⟩, ⟨72, [3], [], [], noW (_), false, [], []⟩, ⟨73, [], [], [], noW (Det undef), false, [], []⟩, ⟨74, [], [], [], noW (Det undef), false, [], []⟩, ⟨75, [], [], [], noW (Det undef), false, [], []⟩, ⟨76, [], [], [], noW (Det undef), false, [], []⟩, ⟨77, [], [], [], noW (Det undef), false, [], []⟩, ⟨78, [], [], [], noW (Det undef), false, [], []⟩, ⟨79, [], [], [], noW (Det undef), false, [], []⟩, ⟨80, [], [], [], noW (Det undef), false, [], []⟩, ⟨81, [4, 12], [], [], noW (_), false, [], []⟩, ⟨82, [], [], [], noW (_), false, [], []⟩, ⟨83, [14], [], [], noW (_), false, [], []⟩, ⟨10, [0], [], [], noW (_), false, [], []⟩, ⟨149, [1], [], [(11, _)], noW (_), false, [], []⟩, ⟨12, [13], [], [], noW (_), false, [], []⟩]) [11] [1, 11, 17, 16] [⟨68, [], [], false, [], []⟩, ⟨69, [], [], false, [17], []⟩, ⟨70, [], [], false, [], []⟩, ⟨71, [2], [], false, [], []⟩, ⟨72, [3], [], false, [], []⟩, ⟨73, [], [], false, [], []⟩, ⟨74, [], [], false, [], []⟩, ⟨75, [], [], false, [], []⟩, ⟨76, [], [], false, [], []⟩, ⟨77, [], [], false, [], []⟩, ⟨78, [], [], false, [], []⟩, ⟨79, [], [], false, [], []⟩, ⟨80, [], [], false, [], []⟩, ⟨81, [4, 12], [], false, [], []⟩, ⟨82, [], [], false, [], []⟩, ⟨83, [14], [], false, [], []⟩, ⟨10, [0], [], false, [], []⟩, ⟨149, [1], [], false, [], []⟩, ⟨12, [13], [], false, [], []⟩] [[], [], [], [], [], [], [], [], [], [], [], [], [], [], [], [], [], [], []] [[], [], [], [], [], [], [], [], [], [], [], [], [], [], [], [], [], [(11, _)], []] tMixxg (fun _ => by rfl) (fun _ => by rfl) (by kernel_rfl) (by kernel_rfl) (by rfl) (by rfl)
            (fun β => ⟨.p rfl (by intro X; exact op_move rfl),
            ⟨.p rfl (by intro X; exact op_loadA rfl tA52xg (Ent.lab (l := 11) rfl (says_cel 0)) (Nat.le_of_ble_eq_true rfl)),
            ⟨.p rfl (by intro X; exact op_move rfl),
            ⟨.p rfl (by intro X; rintro _ _ ⟨rfl, rfl⟩; exact op_val (v' := .bool true) (by rw [decide_eq_true h27]) (op_eql rfl rfl)),
            ⟨.p rfl (by intro X; rintro _ _ ⟨rfl, rfl⟩; exact op_move rfl),
            ⟨.u rfl rfl rfl (by rintro _ _ ⟨rfl, rfl⟩; exact congrArg (offB false) (by rfl : _ = Value.bool true)) ⟨rfl, rfl⟩ rfl rfl,
            ⟨.u rfl rfl rfl (by rintro _ _ ⟨rfl, rfl⟩; exact congrArg (offB false) (by rfl : _ = Value.bool true)) ⟨rfl, rfl⟩ rfl rfl,
            ⟨.u rfl rfl rfl (by rintro _ _ ⟨rfl, rfl⟩; exact congrArg (offB false) (by rfl : _ = Value.bool true)) ⟨rfl, rfl⟩ rfl rfl,
            ⟨.u rfl rfl rfl (by rintro _ _ ⟨rfl, rfl⟩; rfl) ⟨rfl, rfl⟩ rfl rfl,
            ⟨.u rfl rfl rfl (by rintro _ _ ⟨rfl, rfl⟩; rfl) ⟨rfl, rfl⟩ rfl rfl,
            ⟨.u rfl rfl rfl (by rintro _ _ ⟨rfl, rfl⟩; rfl) ⟨rfl, rfl⟩ rfl rfl,
            ⟨.u rfl rfl rfl (by rintro _ _ ⟨rfl, rfl⟩; rfl) ⟨rfl, rfl⟩ rfl rfl,
            ⟨.u rfl rfl rfl (by rintro _ _ ⟨rfl, rfl⟩; exact congrArg (offB false) (by rfl : _ = Value.bool true)) ⟨rfl, rfl⟩ rfl rfl,
            ⟨.p rfl (by intro X; rintro _ _ ⟨rfl, rfl⟩ _ _ ⟨rfl, rfl⟩; exact op_pick_t rfl rfl),
            ⟨.p rfl (by intro X; exact op_move rfl),
            ⟨.p rfl (by intro X; rintro _ _ ⟨rfl, rfl⟩; exact op_eql rfl rfl),
            ⟨.p rfl (by intro X; rintro _ _ ⟨rfl, rfl⟩; exact op_assign rfl),
            ⟨.p rfl (by intro X; rintro _ _ ⟨rfl, rfl⟩; exact op_store rfl rfl tZ52xg (by rfl) (by rfl) (by exact Nat.le_of_ble_eq_true rfl)) (hu := by exact .inr fun _ _ h => h.1),
            ⟨.p rfl (by intro X; rintro _ _ ⟨rfl, rfl⟩; exact op_assign rfl),
            trivial⟩⟩⟩⟩⟩⟩⟩⟩⟩⟩⟩⟩⟩⟩⟩⟩⟩⟩⟩)
            (fun β β' => ⟨fun _ => by rfl, ⟨fun _ => by rfl, ⟨fun _ => by rfl, ⟨fun _ => by rfl, ⟨fun _ => by rfl, ⟨fun _ => by rfl, ⟨fun _ => by rfl, ⟨fun _ => by rfl, ⟨fun _ => by rfl, ⟨fun _ => by rfl, ⟨fun _ => by rfl, ⟨fun _ => by rfl, ⟨fun _ => by rfl, ⟨fun _ => by rfl, ⟨fun _ => by rfl, ⟨fun _ => by rfl, ⟨fun _ => by rfl, ⟨fun _ => by rfl, ⟨fun _ => by rfl, trivial⟩⟩⟩⟩⟩⟩⟩⟩⟩⟩⟩⟩⟩⟩⟩⟩⟩⟩⟩) ?_
        intro β
        rintro _ _ ⟨rfl, rfl⟩ _ _ ⟨rfl, rfl⟩ _ _ ⟨rfl, rfl⟩ _ _ ⟨rfl, rfl⟩ _ _ ⟨rfl, rfl⟩ _ _ ⟨rfl, rfl⟩ _ _ ⟨rfl, rfl⟩ _ _ ⟨rfl, rfl⟩ _ _ ⟨rfl, rfl⟩ _ _ ⟨rfl, rfl⟩ _ _ ⟨rfl, rfl⟩ _ _ ⟨rfl, rfl⟩ _ _ ⟨rfl, rfl⟩ _ _ ⟨rfl, rfl⟩ _ _ ⟨rfl, rfl⟩ _ _ ⟨rfl, rfl⟩ _ _ ⟨rfl, rfl⟩ _ _ ⟨rfl, rfl⟩ _ _ ⟨rfl, rfl⟩
        refine wl_norm (e' := [(10, _), (11, _), (12, _), (83, _)]) (.cons rfl (.cons rfl (.cons rfl (.cons rfl (.nil _))))) (by dsimp only [cond_false, cond_true, List.nil_append, List.cons_append]) ?_
        refine za rfl (wl_nil (st_tn (w_ret (st_br (st_tr (st_ret (vs := [_, _, _, _]) [601, 611, 605, 606] Try.results27 ⟨rfl, ⟨⟨_, rfl, Ent.mono (Ent.lab (l := 11) rfl (says_cel 0)) (fun _ h => run_load_agg tA52xg h (Nat.le_of_ble_eq_true rfl))⟩, ⟨rfl, ⟨rfl, trivial⟩⟩⟩⟩ rfl ?_))))))
        refine ⟨[(601, _), (611, _), (605, _), (606, _)], rfl, ?_⟩
        exact ⟨_, _, _, List.subset_cons_self _ _, List.subset_cons_self _ _, ⟨_, _, _, _, _, hm2⟩, rfl, rfl⟩
      · -- h27-
        obtain ⟨he0, hnl⟩ : e = 0 ∧ n = lastN (commitL L) := he.resolve_left h27
        have hln : (n : Int) = L.first + ((allR L.segs).length + L.pend.length) - 1 := by rw [hnl]; unfold lastN; rw [hfc, hacl]; omega
        refine w_drawW (fun β => [⟨68, [], [], [], noW (_), false, [], []⟩, ⟨69, [], [], [], noW (_), false, [17], []⟩, ⟨70, [], [], [], noW (_), false, [], []⟩, ⟨71, [2], [], [], noW (_), false, [], []⟩, ⟨72, [3], [], [], noW (_), false, [], []⟩, ⟨73, [], [], [], noW (_), false, [], []⟩, ⟨74, [5], [], [], noW (_), false, [], []⟩, ⟨75, [6], [], [], noW (_), false, [], []⟩, ⟨76, [], [], [], noW (_), false, [], []⟩, ⟨77, [], [], [], noW (_), false, [17], []⟩, ⟨78, [9], [], [], noW (_), false, [], []⟩, ⟨79, [8, 10], [], [], noW (_), false, [], []⟩, ⟨80, [7, 11], [], [], noW (_), false, [], []⟩, ⟨81, [4, 12], [], [], noW (_), false, [], []⟩, ⟨82, [], [], [], noW (_), false, [], []⟩, ⟨83, [14], [], [], noW (_), false, [], []⟩, ⟨10, [0], [], [], noW (_), false, [], []⟩, ⟨149, [1], [], [(11, _)], noW (_), false, [], []⟩, ⟨12, [13], [], [], noW (_), false, [], []⟩]) [11] [1, 11, 17, 16] [⟨68, [], [], false, [], []⟩, ⟨69, [], [], false, [17], []⟩, ⟨70, [], [], false, [], []⟩, ⟨71, [2], [], false, [], []⟩, ⟨72, [3], [], false, [], []⟩, ⟨73, [], [], false, [], []⟩, ⟨74, [5], [], false, [], []⟩, ⟨75, [6], [], false, [], []⟩, ⟨76, [], [], false, [], []⟩, ⟨77, [], [], false, [17], []⟩, ⟨78, [9], [], false, [], []⟩, ⟨79, [8, 10], [], false, [], []⟩, ⟨80, [7, 11], [], false, [], []⟩, ⟨81, [4, 12], [], false, [], []⟩, ⟨82, [], [], false, [], []⟩, ⟨83, [14], [], false, [], []⟩, ⟨10, [0], [], false, [], []⟩, ⟨149, [1], [], false, [], []⟩, ⟨12, [13], [], false, [], []⟩] [[], [], [], [], [], [], [], [], [], [], [], [], [], [], [], [], [], [], []] [[], [], [], [], [], [], [], [], [], [], [], [], [], [], [], [], [], [(11, _)], []] tMixxg (fun _ => by rfl) (fun _ => by rfl) (by kernel_rfl) (by kernel_rfl) (by rfl) (by rfl)
            (fun β => ⟨.p rfl (by intro X; exact op_move rfl),
            ⟨.p rfl (by intro X; exact op_loadA rfl tA52xg (Ent.lab (l := 11) rfl (says_cel 0)) (Nat.le_of_ble_eq_true rfl)),
            ⟨.p rfl (by intro X; exact op_move rfl),
            ⟨.p rfl (by intro X; rintro _ _ ⟨rfl, rfl⟩; exact op_val (v' := .bool false) (by rw [decide_eq_false h27]) (op_eql rfl rfl)),
            ⟨.p rfl (by intro X; rintro _ _ ⟨rfl, rfl⟩; exact op_move rfl),
            ⟨.w rfl rfl rfl (by rintro _ _ ⟨rfl, rfl⟩; rfl) (by intro X; exact op_move rfl),
            ⟨.w rfl rfl rfl (by rintro _ _ ⟨rfl, rfl⟩; rfl) (by intro X; rintro _ _ ⟨rfl, rfl⟩; exact op_val (v' := .bool true) (by rw [decide_eq_true he0]) (op_eql rfl rfl)),
            ⟨.w rfl rfl rfl (by rintro _ _ ⟨rfl, rfl⟩; rfl) (by intro X; rintro _ _ ⟨rfl, rfl⟩; exact op_move rfl),
            ⟨.w rfl rfl rfl (by rintro _ _ ⟨rfl, rfl⟩; rfl) (by intro X; exact op_move rfl),
            ⟨.w rfl rfl rfl (by rintro _ _ ⟨rfl, rfl⟩; rfl) (by intro X; exact op_loadA rfl tA52xg (Ent.lab (l := 11) rfl (says_cel 0)) (Nat.le_of_ble_eq_true rfl)),
            ⟨.w rfl rfl rfl (by rintro _ _ ⟨rfl, rfl⟩; rfl) (by intro X; rintro _ _ ⟨rfl, rfl⟩; exact op_fn Try.func29 rfl rfl rfl (mlast_any (hm2.slx rfl (by omega)) (hm2.slr rfl (by omega)) (by omega) (by omega))),
            ⟨.w rfl rfl rfl (by rintro _ _ ⟨rfl, rfl⟩; rfl) (by intro X; rintro _ _ ⟨rfl, rfl⟩ _ _ ⟨rfl, rfl⟩; exact op_val (v' := .bool true) (by rw [decide_eq_true (by omega)]) (op_eql rfl rfl)),
            ⟨.w rfl rfl rfl (by rintro _ _ ⟨rfl, rfl⟩; rfl) (by intro X; rintro _ _ ⟨rfl, rfl⟩ _ _ ⟨rfl, rfl⟩; exact op_pick_t rfl rfl),
            ⟨.p rfl (by intro X; rintro _ _ ⟨rfl, rfl⟩ _ _ ⟨rfl, rfl⟩; exact op_pick_f rfl rfl),
            ⟨.p rfl (by intro X; exact op_move rfl),
            ⟨.p rfl (by intro X; rintro _ _ ⟨rfl, rfl⟩; exact op_eql rfl rfl),
            ⟨.p rfl (by intro X; rintro _ _ ⟨rfl, rfl⟩; exact op_assign rfl),
            ⟨.p rfl (by intro X; rintro _ _ ⟨rfl, rfl⟩; exact op_store rfl rfl tZ52xg (by rfl) (by rfl) (by exact Nat.le_of_ble_eq_true rfl)) (hu := by exact .inr fun _ _ h => h.1),
            ⟨.p rfl (by intro X; rintro _ _ ⟨rfl, rfl⟩; exact op_assign rfl),
            trivial⟩⟩⟩⟩⟩⟩⟩⟩⟩⟩⟩⟩⟩⟩⟩⟩⟩⟩⟩)
            (fun β β' => ⟨fun _ => by rfl, ⟨fun _ => by rfl, ⟨fun _ => by rfl, ⟨fun _ => by rfl, ⟨fun _ => by rfl, ⟨fun _ => by rfl, ⟨fun _ => by rfl, ⟨fun _ => by rfl, ⟨fun _ => by rfl, ⟨fun _ => by rfl, ⟨fun _ => by rfl, ⟨fun _ => by rfl, ⟨fun _ => by rfl, ⟨fun _ => by rfl, ⟨fun _ => by rfl, ⟨fun _ => by rfl, ⟨fun _ => by rfl, ⟨fun _ => by rfl, ⟨fun _ => by rfl, trivial⟩⟩⟩⟩⟩⟩⟩⟩⟩⟩⟩⟩⟩⟩⟩⟩⟩⟩⟩) ?_
        intro β
        rintro _ _ ⟨rfl, rfl⟩ _ _ ⟨rfl, rfl⟩ _ _ ⟨rfl, rfl⟩ _ _ ⟨rfl, rfl⟩ _ _ ⟨rfl, rfl⟩ _ _ ⟨rfl, rfl⟩ _ _ ⟨rfl, rfl⟩ _ _ ⟨rfl, rfl⟩ _ _ ⟨rfl, rfl⟩ _ _ ⟨rfl, rfl⟩ _ _ ⟨rfl, rfl⟩ _ _ ⟨rfl, rfl⟩ _ _ ⟨rfl, rfl⟩ _ _ ⟨rfl, rfl⟩ _ _ ⟨rfl, rfl⟩ _ _ ⟨rfl, rfl⟩ _ _ ⟨rfl, rfl⟩ _ _ ⟨rfl, rfl⟩ _ _ ⟨rfl, rfl⟩
        refine wl_norm (e' := [(10, _), (11, _), (12, _), (83, _)]) (.cons rfl (.cons rfl (.cons rfl (.cons rfl (.nil _))))) (by dsimp only [cond_false, cond_true, List.nil_append, List.cons_append]) ?_
        refine za rfl (wl_nil (st_tn (w_ret (st_br (st_tr (st_ret (vs := [_, _, _, _]) [601, 611, 605, 606] Try.results27 ⟨rfl, ⟨⟨_, rfl, Ent.mono (Ent.lab (l := 11) rfl (says_cel 0)) (fun _ h => run_load_agg tA52xg h (Nat.le_of_ble_eq_true rfl))⟩, ⟨rfl, ⟨rfl, trivial⟩⟩⟩⟩ rfl ?_))))))
        refine ⟨[(601, _), (611, _), (605, _), (606, _)], rfl, ?_⟩
        exact ⟨_, _, _, List.subset_cons_self _ _, List.subset_cons_self _ _, ⟨_, _, _, _, _, hm2⟩, rfl, rfl⟩
def trS : Nat → List Sg → Int → Nat → Nat
  | f, x :: y :: l, n, k + 1 => if (f : Int) + x.recs.length - 1 ≤ n then trS (f + x.recs.length) (y :: l) n k + 1 else 0
  | _, _, _, _ => 0
theorem trJ_S {n : Int} : ∀ {k f : Nat} {Y : List SegV} {S : List Sg}, Yrel Y S → trJ f Y n k = trS f S n k
  | k, f, [], S, h => by
    have : S = [] := List.eq_nil_of_length_eq_zero (by rw [← h.len]; rfl)
    subst this; cases k <;> rfl
  | k, f, [y], S, h => by
    match S, h.len with
    | [s], _ => cases k <;> rfl
  | 0, f, y :: z :: Y, S, h => by
    match S, h.len with
    | s :: t :: S, _ => rfl
  | k + 1, f, y :: z :: Y, S, h => by
    match S, h.len, h with
    | s :: t :: S, _, h =>
      unfold Yrel at h
      rw [List.map_cons, List.map_cons (l := t :: S)] at h
      simp only [List.cons.injEq, Prod.mk.injEq] at h
      obtain ⟨⟨_, _, e3⟩, h2⟩ := h
      rw [trJ, trS, e3, trJ_S (k := k) (f := f + s.recs.length) (Y := z :: Y) (S := t :: S) h2]
theorem yrel_drop {Y : List SegV} {S : List Sg} (h : Yrel Y S) (j : Nat) : Yrel (Y.drop j) (S.drop j) := by
  unfold Yrel at h ⊢; rw [List.map_drop, List.map_drop, h]
theorem yrel_take {Y : List SegV} {S : List Sg} (h : Yrel Y S) (j : Nat) : Yrel (Y.take j) (S.take j) := by
  unfold Yrel at h ⊢; rw [List.map_take, List.map_take, h]
def dropL (L : Lg) (j : Nat) : Lg := { L with first := L.first + (allR (L.segs.take j)).length, segs := L.segs.drop j }
set_option maxHeartbeats 4000000 in
set_option maxRecDepth 100000 in
theorem do_tru {σ : World} {F : List Res} {b d : Nat} {nm : RdM.Bs} {L L' : Lg} {s s' : DskM.St} {P1 : PS} {P2 : PX} {v : Value} {e : Int} (x : OpL) (hx : (0 ≤ x.k ∧ x.k ≤ 255) ∧ 0 ≤ x.n ∧ x.n ≤ 255) (hk : x.k % 8 = 6) (hS : Sm L) (hM : MS P1 P2 v L) (hc : truncO nm L s (L.first + x.n % 12 - 2) = (e, L', s')) (he : e = 27 ∨ e = 0) (hg : DskM.Good s) (hnm : nm.length ≤ 48) :
    FnT Try.prog σ F 27 [.pointer (some ⟨d, 0, none⟩), .pointer (some ⟨b, 0, none⟩), v, .agg (encOpL x).toArray, .string (str nm)] [(601, dkR d s), (611, lgR b d nm L), (605, poolS P1), (606, poolX P2)]
      (fun u ρ => ∃ v', MS P1 P2 v' (dropL L (trS L.first L.segs (L.first + x.n % 12 - 2) L.segs.length)) ∧ u = .tuple #[.pointer (some ⟨b, 0, none⟩), v', .bool true, .bool (decide (e = 27))] ∧ ρ = [(601, dkR d s'), (611, lgR b d nm L'), (605, poolS P1), (606, poolX P2)]) := by
  refine fn_of 132 Try.func27 rfl Try.ntmps27 rfl ?_
  obtain ⟨a, c, p, cp, Y, hm⟩ := hM
  have hval := hm.val
  subst hval
  have hb := hS.br
  have hal := hS.all
  have hfs := hS.fst
  have hsg := hS.segl
  have hYl := hm.rel.len
  have hrec := congrArg List.length hm.rel.recs
  obtain ⟨n, hn⟩ : ∃ n : Int, n = L.first + x.n % 12 - 2 := ⟨_, rfl⟩
  rw [← hn] at hc ⊢
  have htj := trJ_S (n := n) (k := Y.length) (f := L.first) hm.rel
  have htl := trJ_lt Y.length L.first Y n
  obtain ⟨j, hj⟩ : ∃ j, j = trJ L.first Y n Y.length := ⟨_, rfl⟩
  rw [← hj] at htl
  refine w_seq (w_region (wl_op [] rfl rfl rfl rfl (op_box (T := 52) (l := 7) rfl) ?_))
  rintro _ _ ⟨b7, rfl, rfl⟩
  refine wl_op [] rfl rfl rfl rfl (op_box (T := 41) (l := 8) rfl) ?_
  rintro _ _ ⟨b8, rfl, rfl⟩
  refine za rfl (wl_op [] rfl rfl rfl rfl (op_alloc (l := 11) tN52xg) ?_)
  rintro _ _ ⟨b11, rfl, rfl⟩
  refine za rfl (za rfl (wl_nil (st_tn (w_seq (w_seq (w_region (zd rfl (op_fieldAddr (off := 0) rfl tF41_0xg) (zd rfl (op_load1 rfl tO5xg (Ent.lab (l := 8) rfl (says_cel 0))) (zd rfl (op_remN rfl rfl (by omega) (by omega)) ?_)))))))))
  refine wl_nil (st_tn (w_block (w_seq (w_seq (w_region (zd rfl (op_val (v' := .bool false) (by rw [decide_eq_false (by omega)]) (op_eql rfl rfl)) ?_))))))
  refine za rfl (wl_nil (st_tn (w_cond_f (rfl) ?_)))
  refine w_seq (w_region (zd rfl (op_val (v' := .bool false) (by rw [decide_eq_false (by omega)]) (op_eql rfl rfl)) ?_))
  refine za rfl (wl_nil (st_tn (w_cond_f (rfl) ?_)))
  refine w_region (zd rfl (op_val (v' := .bool false) (by rw [decide_eq_false (by omega)]) (op_eql rfl rfl)) ?_)
  refine za rfl (wl_nil (st_tn (w_cond_f (rfl) ?_)))
  refine w_seq (w_seq (w_region (zd rfl (op_val (v' := .bool false) (by rw [decide_eq_false (by omega)]) (op_eql rfl rfl)) ?_)))
  refine za rfl (wl_nil (st_tn (w_cond_f (rfl) ?_)))
  refine w_region (zd rfl (op_val (v' := .bool false) (by rw [decide_eq_false (by omega)]) (op_eql rfl rfl)) ?_)
  refine za rfl (wl_nil (st_tn (w_cond_f (rfl) ?_)))
  refine w_seq (w_region (zd rfl (op_val (v' := .bool false) (by rw [decide_eq_false (by omega)]) (op_eql rfl rfl)) ?_))
  refine za rfl (wl_nil (st_tn (w_cond_f (rfl) ?_)))
  refine w_seq (w_region (zd rfl (op_val (v' := .bool true) (by rw [decide_eq_true (by omega)]) (op_eql rfl rfl)) ?_))
  refine za rfl (wl_nil (st_tn (w_cond_t (rfl) ?_)))
  refine w_seq (w_region (zm rfl (zd rfl (op_loadA rfl tA41xg (Ent.lab (l := 8) rfl (says_cel 0)) (Nat.le_of_ble_eq_true rfl)) (zd rfl (op_loadA rfl tA52xg (Ent.lab (l := 7) rfl (says_cel 0)) (Nat.le_of_ble_eq_true rfl)) (zd rfl (op_fn Try.func41 rfl rfl rfl (fn_imp (mnumber_any x hx.2 (by omega)) (fun u ρ hu => (by rw [← hn] at hu; exact hu : u = .int .i64 n ∧ ρ = [])))) ?_)))))
  refine wl_op [601, 611] rfl rfl rfl rfl (op_fn Try.func34 rfl rfl rfl (ltrunc_c 601 611 n (by omega) hc hS.ok hg hnm)) ?_
  rintro _ _ ⟨rfl, rfl⟩
  refine za rfl (wl_nil (st_tn (w_seq ?_)))
  by_cases h27 : e = 27
  · -- h27+
    refine w_drawW (fun β => [⟨100, [], [], [], noW (_), false, [], []⟩, ⟨101, [], [], [], noW (_), false, [], []⟩, ⟨102, [], [], [], noW (_), false, [], []⟩, ⟨103, [], [], [], noW (_), false, [], []⟩, ⟨104, [2, 3], [], [], noW (_), false, [], []⟩, ⟨105, [], [], [], noW (_), false, [], []⟩, ⟨106, [5], [], [], noW (_), false, [], []⟩, ⟨107, [6], [], [], noW (_), false, [], []⟩, ⟨108, [1, 4, 7], [], [], noW (_), false, [], []⟩, ⟨109, [], [], [], noW (_), false, [], []⟩, ⟨110, [9], [], [], noW (_), false, [], []⟩, ⟨111, [10], [], [], noW (_), false, [], []⟩, ⟨112, [], [], [], noW (_), false, [], []⟩, ⟨113, [12], [], [], noW (_), false, [], []⟩, ⟨114, [11, 13], [], [], noW (_), false, [], []⟩, ⟨115, [], [], [], noW (_), false, [], []⟩, ⟨116, [15], [], [], noW (_), false, [], []⟩, ⟨10, [0], [], [], noW (_), false, [], []⟩, ⟨150, [8], [], [(11, _)], noW (_), false, [], []⟩, ⟨12, [14], [], [], noW (_), false, [], []⟩]) [11] [1, 7, 8, 18, 11] [⟨100, [], [], false, [], []⟩, ⟨101, [], [], false, [], []⟩, ⟨102, [], [], false, [], []⟩, ⟨103, [], [], false, [], []⟩, ⟨104, [2, 3], [], false, [], []⟩, ⟨105, [], [], false, [], []⟩, ⟨106, [5], [], false, [], []⟩, ⟨107, [6], [], false, [], []⟩, ⟨108, [1, 4, 7], [], false, [], []⟩, ⟨109, [], [], false, [], []⟩, ⟨110, [9], [], false, [], []⟩, ⟨111, [10], [], false, [], []⟩, ⟨112, [], [], false, [], []⟩, ⟨113, [12], [], false, [], []⟩, ⟨114, [11, 13], [], false, [], []⟩, ⟨115, [], [], false, [], []⟩, ⟨116, [15], [], false, [], []⟩, ⟨10, [0], [], false, [], []⟩, ⟨150, [8], [], false, [], []⟩, ⟨12, [14], [], false, [], []⟩] [[], [], [], [], [], [], [], [], [], [], [], [], [], [], [], [], [], [], [], []] [[], [], [], [], [], [], [], [], [], [], [], [], [], [], [], [], [], [], [(11, _)], []] tMixxg (fun _ => by rfl) (fun _ => by rfl) (by kernel_rfl) (by kernel_rfl) (by rfl) (by rfl)
        (fun β => ⟨.p rfl (by intro X; exact op_move rfl),
        ⟨.p rfl (by intro X; exact op_loadA rfl tA52xg (Ent.lab (l := 7) rfl (says_cel 0)) (Nat.le_of_ble_eq_true rfl)),
        ⟨.p rfl (by intro X; exact op_loadA rfl tA41xg (Ent.lab (l := 8) rfl (says_cel 0)) (Nat.le_of_ble_eq_true rfl)),
        ⟨.p rfl (by intro X; exact op_loadA rfl tA52xg (Ent.lab (l := 7) rfl (says_cel 0)) (Nat.le_of_ble_eq_true rfl)),
        ⟨.p rfl (by intro X; rintro _ _ ⟨rfl, rfl⟩ _ _ ⟨rfl, rfl⟩; exact op_fn Try.func41 rfl rfl rfl (fn_imp (mnumber_any x hx.2 (by omega)) (fun u ρ hu => (by rw [← hn] at hu; exact hu : u = .int .i64 n ∧ ρ = [])))),
        ⟨.p rfl (by intro X; exact op_fieldAddr (off := 0) rfl tF52_0xg),
        ⟨.p rfl (by intro X; rintro _ _ ⟨rfl, rfl⟩; exact op_load1 rfl tO50xg (Ent.lab (l := 7) rfl (says_cel 0))),
        ⟨.p rfl (by intro X; rintro _ _ ⟨rfl, rfl⟩; exact op_lenT (enc := encSegV) (l := Y) rfl tS50xg (Sl.ent (hm.slx rfl (by omega)))),
        ⟨.p rfl (by intro X; rintro _ _ ⟨rfl, rfl⟩ _ _ ⟨rfl, rfl⟩ _ _ ⟨rfl, rfl⟩; exact op_fn Try.func40 rfl rfl rfl (fn_imp (mtrunc_any n Y.length (by omega) (by omega) (hm.slx rfl (by omega)) (hm.slr rfl (by omega)) (by omega)) (fun u ρ hu => (by rw [← hj] at hu; exact hu : u = .agg #[.slice (subJ a c j).1 (Y.drop j).length (subJ a c j).2, .int .i64 ((L.first + (recsX (Y.take j)).length : Nat) : Int), .slice p L.pend.length cp, .bool L.fresh] ∧ ρ = [])))),
        ⟨.p rfl (by intro X; exact op_move rfl),
        ⟨.p rfl (by intro X; rintro _ _ ⟨rfl, rfl⟩; exact op_val (v' := .bool false) (by rw [decide_eq_false (by omega)]) (op_eql rfl rfl)),
        ⟨.p rfl (by intro X; rintro _ _ ⟨rfl, rfl⟩; exact op_move rfl),
        ⟨.w rfl rfl rfl (by rintro _ _ ⟨rfl, rfl⟩; rfl) (by intro X; exact op_move rfl),
        ⟨.w rfl rfl rfl (by rintro _ _ ⟨rfl, rfl⟩; rfl) (by intro X; rintro _ _ ⟨rfl, rfl⟩; exact op_val (v' := .bool true) (by rw [decide_eq_true h27]) (op_eql rfl rfl)),
        ⟨.p rfl (by intro X; rintro _ _ ⟨rfl, rfl⟩ _ _ ⟨rfl, rfl⟩; exact op_pick_f rfl rfl),
        ⟨.p rfl (by intro X; exact op_move rfl),
        ⟨.p rfl (by intro X; rintro _ _ ⟨rfl, rfl⟩; exact op_eql rfl rfl),
        ⟨.p rfl (by intro X; rintro _ _ ⟨rfl, rfl⟩; exact op_assign rfl),
        ⟨.p rfl (by intro X; rintro _ _ ⟨rfl, rfl⟩; exact op_store rfl rfl tZ52xg (by rfl) (by rfl) (by exact Nat.le_of_ble_eq_true rfl)) (hu := by exact .inr fun _ _ h => h.1),
        ⟨.p rfl (by intro X; rintro _ _ ⟨rfl, rfl⟩; exact op_assign rfl),
        trivial⟩⟩⟩⟩⟩⟩⟩⟩⟩⟩⟩⟩⟩⟩⟩⟩⟩⟩⟩⟩)
        (fun β β' => ⟨fun _ => by rfl, ⟨fun _ => by rfl, ⟨fun _ => by rfl, ⟨fun _ => by rfl, ⟨fun _ => by rfl, ⟨fun _ => by rfl, ⟨fun _ => by rfl, ⟨fun _ => by rfl, ⟨fun _ => by rfl, ⟨fun _ => by rfl, ⟨fun _ => by rfl, ⟨fun _ => by rfl, ⟨fun _ => by rfl, ⟨fun _ => by rfl, ⟨fun _ => by rfl, ⟨fun _ => by rfl, ⟨fun _ => by rfl, ⟨fun _ => by rfl, ⟨fun _ => by rfl, ⟨fun _ => by rfl, trivial⟩⟩⟩⟩⟩⟩⟩⟩⟩⟩⟩⟩⟩⟩⟩⟩⟩⟩⟩⟩) ?_
    intro β
    rintro _ _ ⟨rfl, rfl⟩ _ _ ⟨rfl, rfl⟩ _ _ ⟨rfl, rfl⟩ _ _ ⟨rfl, rfl⟩ _ _ ⟨rfl, rfl⟩ _ _ ⟨rfl, rfl⟩ _ _ ⟨rfl, rfl⟩ _ _ ⟨rfl, rfl⟩ _ _ ⟨rfl, rfl⟩ _ _ ⟨rfl, rfl⟩ _ _ ⟨rfl, rfl⟩ _ _ ⟨rfl, rfl⟩ _ _ ⟨rfl, rfl⟩ _ _ ⟨rfl, rfl⟩ _ _ ⟨rfl, rfl⟩ _ _ ⟨rfl, rfl⟩ _ _ ⟨rfl, rfl⟩ _ _ ⟨rfl, rfl⟩ _ _ ⟨rfl, rfl⟩ _ _ ⟨rfl, rfl⟩
    refine wl_norm (e' := [(10, _), (11, _), (12, _), (116, _)]) (.cons rfl (.cons rfl (.cons rfl (.cons rfl (.nil _))))) (by dsimp only [cond_false, cond_true, List.nil_append, List.cons_append]) ?_
    refine za rfl (wl_nil (st_tn (w_ret (st_br (st_tr (st_ret (vs := [_, _, _, _]) [601, 611, 605, 606] Try.results27 ⟨rfl, ⟨⟨_, rfl, Ent.mono (Ent.lab (l := 11) rfl (says_cel 0)) (fun _ h => run_load_agg tA52xg h (Nat.le_of_ble_eq_true rfl))⟩, ⟨rfl, ⟨rfl, trivial⟩⟩⟩⟩ rfl ?_))))))
    refine ⟨[(601, _), (611, _), (605, _), (606, _)], rfl, ?_⟩
    refine ⟨_, ⟨(subJ a c j).1, (subJ a c j).2, p, cp, Y.drop j, ?_⟩, rfl, rfl⟩
    rw [← hYl, ← htj, ← hj]
    refine ⟨?_, .sub j hm.inx (by omega), fun x hx => hm.ins x (List.mem_of_mem_drop hx), hm.inp, yrel_drop hm.rel j⟩
    have h3 := congrArg List.length (yrel_take hm.rel j).recs
    unfold dropL
    dsimp only
    rw [← h3]; rfl
  · -- h27-
    refine w_drawW (fun β => [⟨100, [], [], [], noW (_), false, [], []⟩, ⟨101, [], [], [], noW (_), false, [], []⟩, ⟨102, [], [], [], noW (_), false, [], []⟩, ⟨103, [], [], [], noW (_), false, [], []⟩, ⟨104, [2, 3], [], [], noW (_), false, [], []⟩, ⟨105, [], [], [], noW (_), false, [], []⟩, ⟨106, [5], [], [], noW (_), false, [], []⟩, ⟨107, [6], [], [], noW (_), false, [], []⟩, ⟨108, [1, 4, 7], [], [], noW (_), false, [], []⟩, ⟨109, [], [], [], noW (_), false, [], []⟩, ⟨110, [9], [], [], noW (_), false, [], []⟩, ⟨111, [10], [], [], noW (_), false, [], []⟩, ⟨112, [], [], [], noW (Det undef), false, [], []⟩, ⟨113, [], [], [], noW (Det undef), false, [], []⟩, ⟨114, [11, 13], [], [], noW (_), false, [], []⟩, ⟨115, [], [], [], noW (_), false, [], []⟩, ⟨116, [15], [], [], noW (_), false, [], []⟩, ⟨10, [0], [], [], noW (_), false, [], []⟩, ⟨150, [8], [], [(11, _)], noW (_), false, [], []⟩, ⟨12, [14], [], [], noW (_), false, [], []⟩]) [11] [1, 7, 8, 18, 11] [⟨100, [], [], false, [], []⟩, ⟨101, [], [], false, [], []⟩, ⟨102, [], [], false, [], []⟩, ⟨103, [], [], false, [], []⟩, ⟨104, [2, 3], [], false, [], []⟩, ⟨105, [], [], false, [], []⟩, ⟨106, [5], [], false, [], []⟩, ⟨107, [6], [], false, [], []⟩, ⟨108, [1, 4, 7], [], false, [], []⟩, ⟨109, [], [], false, [], []⟩, ⟨110, [9], [], false, [], []⟩, ⟨111, [10], [], false, [], []⟩, ⟨112, [], [], false, [], []⟩, ⟨113, [], [], false, [], []⟩, ⟨114, [11, 13], [], false, [], []⟩, ⟨115, [], [], false, [], []⟩, ⟨116, [15], [], false, [], []⟩, ⟨10, [0], [], false, [], []⟩, ⟨150, [8], [], false, [], []⟩, ⟨12, [14], [], false, [], []⟩] [[], [], [], [], [], [], [], [], [], [], [], [], [], [], [], [], [], [], [], []] [[], [], [], [], [], [], [], [], [], [], [], [], [], [], [], [], [], [], [(11, _)], []] tMixxg (fun _ => by rfl) (fun _ => by rfl) (by kernel_rfl) (by kernel_rfl) (by rfl) (by rfl)
        (fun β => ⟨.p rfl (by intro X; exact op_move rfl),
        ⟨.p rfl (by intro X; exact op_loadA rfl tA52xg (Ent.lab (l := 7) rfl (says_cel 0)) (Nat.le_of_ble_eq_true rfl)),
        ⟨.p rfl (by intro X; exact op_loadA rfl tA41xg (Ent.lab (l := 8) rfl (says_cel 0)) (Nat.le_of_ble_eq_true rfl)),
        ⟨.p rfl (by intro X; exact op_loadA rfl tA52xg (Ent.lab (l := 7) rfl (says_cel 0)) (Nat.le_of_ble_eq_true rfl)),
        ⟨.p rfl (by intro X; rintro _ _ ⟨rfl, rfl⟩ _ _ ⟨rfl, rfl⟩; exact op_fn Try.func41 rfl rfl rfl (fn_imp (mnumber_any x hx.2 (by omega)) (fun u ρ hu => (by rw [← hn] at hu; exact hu : u = .int .i64 n ∧ ρ = [])))),
        ⟨.p rfl (by intro X; exact op_fieldAddr (off := 0) rfl tF52_0xg),
        ⟨.p rfl (by intro X; rintro _ _ ⟨rfl, rfl⟩; exact op_load1 rfl tO50xg (Ent.lab (l := 7) rfl (says_cel 0))),
        ⟨.p rfl (by intro X; rintro _ _ ⟨rfl, rfl⟩; exact op_lenT (enc := encSegV) (l := Y) rfl tS50xg (Sl.ent (hm.slx rfl (by omega)))),
        ⟨.p rfl (by intro X; rintro _ _ ⟨rfl, rfl⟩ _ _ ⟨rfl, rfl⟩ _ _ ⟨rfl, rfl⟩; exact op_fn Try.func40 rfl rfl rfl (fn_imp (mtrunc_any n Y.length (by omega) (by omega) (hm.slx rfl (by omega)) (hm.slr rfl (by omega)) (by omega)) (fun u ρ hu => (by rw [← hj] at hu; exact hu : u = .agg #[.slice (subJ a c j).1 (Y.drop j).length (subJ a c j).2, .int .i64 ((L.first + (recsX (Y.take j)).length : Nat) : Int), .slice p L.pend.length cp, .bool L.fresh] ∧ ρ = [])))),
        ⟨.p rfl (by intro X; exact op_move rfl),
        ⟨.p rfl (by intro X; rintro _ _ ⟨rfl, rfl⟩; exact op_val (v' := .bool true) (by rw [decide_eq_true (he.resolve_left h27)]) (op_eql rfl rfl)),
        ⟨.p rfl (by intro X; rintro _ _ ⟨rfl, rfl⟩; exact op_move rfl),
        ⟨.u rfl rfl rfl (by rintro _ _ ⟨rfl, rfl⟩; exact congrArg (offB false) (by rfl : _ = Value.bool true)) ⟨rfl, rfl⟩ rfl rfl,
        ⟨.u rfl rfl rfl (by rintro _ _ ⟨rfl, rfl⟩; exact congrArg (offB false) (by rfl : _ = Value.bool true)) ⟨rfl, rfl⟩ rfl rfl,
        ⟨.p rfl (by intro X; rintro _ _ ⟨rfl, rfl⟩ _ _ ⟨rfl, rfl⟩; exact op_pick_t rfl rfl),
        ⟨.p rfl (by intro X; exact op_move rfl),
        ⟨.p rfl (by intro X; rintro _ _ ⟨rfl, rfl⟩; exact op_eql rfl rfl),
        ⟨.p rfl (by intro X; rintro _ _ ⟨rfl, rfl⟩; exact op_assign rfl),
        ⟨.p rfl (by intro X; rintro _ _ ⟨rfl, rfl⟩; exact op_store rfl rfl tZ52xg (by rfl) (by rfl) (by exact Nat.le_of_ble_eq_true rfl)) (hu := by exact .inr fun _ _ h => h.1),
        ⟨.p rfl (by intro X; rintro _ _ ⟨rfl, rfl⟩; exact op_assign rfl),
        trivial⟩⟩⟩⟩⟩⟩⟩⟩⟩⟩⟩⟩⟩⟩⟩⟩⟩⟩⟩⟩)
        (fun β β' => ⟨fun _ => by rfl, ⟨fun _ => by rfl, ⟨fun _ => by rfl, ⟨fun _ => by rfl, ⟨fun _ => by rfl, ⟨fun _ => by rfl, ⟨fun _ => by rfl, ⟨fun _ => by rfl, ⟨fun _ => by rfl, ⟨fun _ => by rfl, ⟨fun _ => by rfl, ⟨fun _ => by rfl, ⟨fun _ => by rfl, ⟨fun _ => by rfl, ⟨fun _ => by rfl, ⟨fun _ => by rfl, ⟨fun _ => by rfl, ⟨fun _ => by rfl, ⟨fun _ => by rfl, ⟨fun _ => by rfl, trivial⟩⟩⟩⟩⟩⟩⟩⟩⟩⟩⟩⟩⟩⟩⟩⟩⟩⟩⟩⟩) ?_
    intro β
    rintro _ _ ⟨rfl, rfl⟩ _ _ ⟨rfl, rfl⟩ _ _ ⟨rfl, rfl⟩ _ _ ⟨rfl, rfl⟩ _ _ ⟨rfl, rfl⟩ _ _ ⟨rfl, rfl⟩ _ _ ⟨rfl, rfl⟩ _ _ ⟨rfl, rfl⟩ _ _ ⟨rfl, rfl⟩ _ _ ⟨rfl, rfl⟩ _ _ ⟨rfl, rfl⟩ _ _ ⟨rfl, rfl⟩ _ _ ⟨rfl, rfl⟩ _ _ ⟨rfl, rfl⟩ _ _ ⟨rfl, rfl⟩ _ _ ⟨rfl, rfl⟩ _ _ ⟨rfl, rfl⟩ _ _ ⟨rfl, rfl⟩ _ _ ⟨rfl, rfl⟩ _ _ ⟨rfl, rfl⟩
    refine wl_norm (e' := [(10, _), (11, _), (12, _), (116, _)]) (.cons rfl (.cons rfl (.cons rfl (.cons rfl (.nil _))))) (by dsimp only [cond_false, cond_true, List.nil_append, List.cons_append]) ?_
    refine za rfl (wl_nil (st_tn (w_ret (st_br (st_tr (st_ret (vs := [_, _, _, _]) [601, 611, 605, 606] Try.results27 ⟨rfl, ⟨⟨_, rfl, Ent.mono (Ent.lab (l := 11) rfl (says_cel 0)) (fun _ h => run_load_agg tA52xg h (Nat.le_of_ble_eq_true rfl))⟩, ⟨rfl, ⟨rfl, trivial⟩⟩⟩⟩ rfl ?_))))))
    refine ⟨[(601, _), (611, _), (605, _), (606, _)], rfl, ?_⟩
    refine ⟨_, ⟨(subJ a c j).1, (subJ a c j).2, p, cp, Y.drop j, ?_⟩, rfl, rfl⟩
    rw [← hYl, ← htj, ← hj]
    refine ⟨?_, .sub j hm.inx (by omega), fun x hx => hm.ins x (List.mem_of_mem_drop hx), hm.inp, yrel_drop hm.rel j⟩
    have h3 := congrArg List.length (yrel_take hm.rel j).recs
    unfold dropL
    dsimp only
    rw [← h3]; rfl
end Go.Proofs.Ytcbigmgakdanjaa
namespace Go.Proofs.Ytcbigmgakdanjaa
open Go Go.SL Go.RowKit Go.RdM Go.WalM
set_option linter.unusedVariables false
set_option linter.unusedSimpArgs false
theorem tA52xh : aggB Try.prog 52 4 = true := by kernel_rfl
theorem tF52_0xh : fieldB Try.prog 52 0 0 = true := by kernel_rfl
theorem tF52_1xh : fieldB Try.prog 52 1 1 = true := by kernel_rfl
theorem tF52_2xh : fieldB Try.prog 52 2 2 = true := by kernel_rfl
theorem tF96_0xh : fieldB Try.prog 96 0 0 = true := by kernel_rfl
theorem tMixxh : Try.prog.follows .mixedOrders = true := by kernel_rfl
theorem tO3xh : oneB Try.prog 3 = true := by kernel_rfl
theorem tO35xh : oneB Try.prog 35 = true := by kernel_rfl
theorem tO50xh : oneB Try.prog 50 = true := by kernel_rfl
theorem tO9xh : oneB Try.prog 9 = true := by kernel_rfl
theorem tS35xh : sliceB Try.prog 35 9 1 = true := by kernel_rfl
theorem tS50xh : sliceB Try.prog 50 96 3 = true := by kernel_rfl
theorem rep_all {L : Lg} (hS : OkS L.first L.segs) (hb : L.broken = false) : repS (rawL L) (allR L.segs) L.first = allR L.segs ∧ repE (rawL L) L.first = 0 := by
  have h1 := firstV_raw hS
  have h2 := lastV_raw hS
  rw [if_neg (by simp [hb])] at h1 h2
  have hp := hS.pos
  have h3 : repE (rawL L) L.first = 0 := by
    unfold repE
    rw [if_neg (by show ¬ L.broken = true; simp [hb]), h1, h2, if_neg (by unfold lastN; omega), if_neg (by omega)]
  refine ⟨?_, h3⟩
  unfold repS
  rw [if_pos h3, h1]; simp
set_option maxHeartbeats 400000 in
set_option maxRecDepth 100000 in
theorem agrees_any {σ : World} {F : List Res} {b d m c0 cp0 : Nat} {a0 p0 : Option Addr} {l : List (Int × List UInt8)} {nm : RdM.Bs} {L : Lg} {P1 : PS} {P2 : PX} {v : Value} (hS : Sm L) (hM : MS P1 P2 v L) (hnm : nm.length ≤ 48) (hmap : IsMap l L.first (allR L.segs)) :
    FnT Try.prog σ F 31 [v, .pointer (some ⟨b, 0, none⟩), .string (str nm)] [(611, cel b (cellL d nm (rawL L) m a0 c0 p0 cp0) 76), (612, slW 87 encRow 4 (.slice a0 (rowsOf L.first L.segs).length c0) (rowsOf L.first L.segs)), (613, mp KZ encSV m l), (614, slW 9 encT 1 (.slice p0 L.pend.length cp0) L.pend), (605, poolS P1), (606, poolX P2)]
      (fun u ρ => u = .bool true ∧ ρ = [(611, cel b (cellL d nm (rawL L) m a0 c0 p0 cp0) 76), (612, slW 87 encRow 4 (.slice a0 (rowsOf L.first L.segs).length c0) (rowsOf L.first L.segs)), (613, mp KZ encSV m l), (614, slW 9 encT 1 (.slice p0 L.pend.length cp0) L.pend), (605, poolS P1), (606, poolX P2)]) := by
  refine fn_of 80 Try.func31 rfl Try.ntmps31 rfl ?_
  obtain ⟨a, c, p, cp, Y, hm⟩ := hM
  have hval := hm.val
  subst hval
  have hb := hS.br
  have hbf : ¬ L.broken = true := by simp [hb]
  have hal := hS.all
  have hfs := hS.fst
  have hsg := hS.segl
  have hpe := hS.pe
  have hYl := hm.rel.len
  have hrec := hm.rel.recs
  have hrl := congrArg List.length hrec
  have hpos := hS.ok.seg.pos
  obtain ⟨hra, hre⟩ := rep_all hS.ok.seg hb
  have hrw := hS.ok.rowl
  have hlv := lastV_raw hS.ok.seg
  have hfv := firstV_raw hS.ok.seg
  rw [if_neg hbf] at hlv hfv
  have hmaps : L.segs.map (fun x => fileN nm x.num) = (rowsOf L.first L.segs).map fun r => fileN nm r.1 := by
    have e : ∀ (f : Nat) (S : List Sg), (rowsOf f S).map (fun r => fileN nm r.1) = S.map fun x => fileN nm x.num := fun f S => by
      induction S generalizing f with
      | nil => rfl
      | cons x S ih => rw [rowsOf, List.map_cons, List.map_cons, ih]
    exact (e _ _).symm
  obtain ⟨fl, hfl⟩ : ∃ fl, fl = L.segs.map fun x => fileN nm x.num := ⟨_, rfl⟩
  have hfll : fl.length = L.segs.length := by rw [hfl]; exact List.length_map ..
  rw [← hfl] at hmaps
  refine w_seq (w_region (wl_op [] rfl rfl rfl rfl (op_box (T := 52) (l := 3) rfl) ?_))
  rintro _ _ ⟨b3, rfl, rfl⟩
  refine za rfl (wl_nil (st_tn (w_seq (w_seq ?_))))
  refine w_draw (D := [⟨11, [], [], [], _, false, [], []⟩, ⟨12, [0], [], [], _, false, [], []⟩, ⟨13, [1], [], [], _, false, [], []⟩, ⟨14, [], [], [], _, false, [], []⟩, ⟨15, [3], [], [], _, false, [], []⟩, ⟨16, [], [], [], _, false, [], []⟩, ⟨17, [5], [], [], _, false, [], []⟩, ⟨18, [4, 6], [], [], _, false, [], []⟩, ⟨19, [2, 7], [], [], _, false, [], []⟩, ⟨20, [8], [], [], _, false, [], []⟩, ⟨21, [], [], [], _, false, [], []⟩, ⟨22, [10], [], [], _, false, [], []⟩, ⟨23, [], [], [], _, false, [], []⟩, ⟨24, [12], [], [], _, false, [], []⟩, ⟨25, [11, 13], [], [], _, false, [], []⟩, ⟨26, [9, 14], [], [], _, false, [], []⟩, ⟨27, [15], [], [], _, false, [], []⟩, ⟨28, [], [], [], _, false, [], []⟩, ⟨29, [17], [], [], _, false, [], []⟩, ⟨30, [], [], [], _, false, [], []⟩, ⟨31, [19], [], [], _, false, [], []⟩, ⟨32, [20], [], [], _, false, [], []⟩, ⟨33, [18, 21], [], [], _, false, [], []⟩, ⟨34, [16, 22], [], [], _, false, [], []⟩]) [] [1, 3] [⟨11, [], [], false, [], []⟩, ⟨12, [0], [], false, [], []⟩, ⟨13, [1], [], false, [], []⟩, ⟨14, [], [], false, [], []⟩, ⟨15, [3], [], false, [], []⟩, ⟨16, [], [], false, [], []⟩, ⟨17, [5], [], false, [], []⟩, ⟨18, [4, 6], [], false, [], []⟩, ⟨19, [2, 7], [], false, [], []⟩, ⟨20, [8], [], false, [], []⟩, ⟨21, [], [], false, [], []⟩, ⟨22, [10], [], false, [], []⟩, ⟨23, [], [], false, [], []⟩, ⟨24, [12], [], false, [], []⟩, ⟨25, [11, 13], [], false, [], []⟩, ⟨26, [9, 14], [], false, [], []⟩, ⟨27, [15], [], false, [], []⟩, ⟨28, [], [], false, [], []⟩, ⟨29, [17], [], false, [], []⟩, ⟨30, [], [], false, [], []⟩, ⟨31, [19], [], false, [], []⟩, ⟨32, [20], [], false, [], []⟩, ⟨33, [18, 21], [], false, [], []⟩, ⟨34, [16, 22], [], false, [], []⟩] tMixxh (by rfl) (by kernel_rfl) (by rfl) (by rfl)
      ⟨.plain rfl (by intro X; exact op_move rfl),
      ⟨.plain rfl (by intro X; rintro _ _ ⟨rfl, rfl⟩; exact op_val (v' := .bool false) (by rfl) (op_eqPtr rfl Try.underlying23)),
      ⟨.plain rfl (by intro X; rintro _ _ ⟨rfl, rfl⟩; exact op_move rfl),
      ⟨.wanted rfl rfl rfl (by rintro _ _ ⟨rfl, rfl⟩; rfl) (by intro X; exact op_move rfl),
      ⟨.wanted rfl rfl rfl (by rintro _ _ ⟨rfl, rfl⟩; rfl) (by intro X; rintro _ _ ⟨rfl, rfl⟩; exact op_fn Try.func35 rfl rfl rfl (first_any (v := rawL L) (celLg 611 rfl) (Sl.lab 612 rfl (by show (rowsOf L.first L.segs).length ≤ _; unfold maxLen; omega)))),
      ⟨.wanted rfl rfl rfl (by rintro _ _ ⟨rfl, rfl⟩; rfl) (by intro X; exact op_fieldAddr (off := 1) rfl tF52_1xh),
      ⟨.wanted rfl rfl rfl (by rintro _ _ ⟨rfl, rfl⟩; rfl) (by intro X; rintro _ _ ⟨rfl, rfl⟩; exact op_load1 rfl tO3xh (Ent.lab (l := 3) rfl (says_cel 1))),
      ⟨.wanted rfl rfl rfl (by rintro _ _ ⟨rfl, rfl⟩; rfl) (by intro X; rintro _ _ ⟨rfl, rfl⟩ _ _ ⟨rfl, rfl⟩; exact op_val (v' := .bool false) (by rw [hfv]; simp) (op_neq rfl rfl)),
      ⟨.plain rfl (by intro X; rintro _ _ ⟨rfl, rfl⟩ _ _ ⟨rfl, rfl⟩; exact op_pick_f rfl rfl),
      ⟨.plain rfl (by intro X; rintro _ _ ⟨rfl, rfl⟩; exact op_move rfl),
      ⟨.wanted rfl rfl rfl (by rintro _ _ ⟨rfl, rfl⟩; rfl) (by intro X; exact op_move rfl),
      ⟨.wanted rfl rfl rfl (by rintro _ _ ⟨rfl, rfl⟩; rfl) (by intro X; rintro _ _ ⟨rfl, rfl⟩; exact op_fn Try.func17 rfl rfl rfl (last_any (v := rawL L) (celLg 611 rfl) (Sl.lab 612 rfl (by show (rowsOf L.first L.segs).length ≤ _; unfold maxLen; omega)))),
      ⟨.wanted rfl rfl rfl (by rintro _ _ ⟨rfl, rfl⟩; rfl) (by intro X; exact op_loadA rfl tA52xh (Ent.lab (l := 3) rfl (says_cel 0)) (Nat.le_of_ble_eq_true rfl)),
      ⟨.wanted rfl rfl rfl (by rintro _ _ ⟨rfl, rfl⟩; rfl) (by intro X; rintro _ _ ⟨rfl, rfl⟩; exact op_fn Try.func29 rfl rfl rfl (mlast_any (hm.slx rfl (by omega)) (hm.slr rfl (by omega)) (by omega) (by omega))),
      ⟨.wanted rfl rfl rfl (by rintro _ _ ⟨rfl, rfl⟩; rfl) (by intro X; rintro _ _ ⟨rfl, rfl⟩ _ _ ⟨rfl, rfl⟩; exact op_val (v' := .bool false) (by rw [hlv, decide_eq_false]; intro h; apply h; unfold lastN; omega) (op_neq rfl rfl)),
      ⟨.plain rfl (by intro X; rintro _ _ ⟨rfl, rfl⟩ _ _ ⟨rfl, rfl⟩; exact op_pick_f rfl rfl),
      ⟨.plain rfl (by intro X; rintro _ _ ⟨rfl, rfl⟩; exact op_move rfl),
      ⟨.wanted rfl rfl rfl (by rintro _ _ ⟨rfl, rfl⟩; rfl) (by intro X; exact op_move rfl),
      ⟨.wanted rfl rfl rfl (by rintro _ _ ⟨rfl, rfl⟩; rfl) (by intro X; rintro _ _ ⟨rfl, rfl⟩; exact op_fn Try.func21 rfl rfl rfl (pending_any (v := rawL L) (celLg 611 rfl) (Sl.lab 614 rfl (by show L.pend.length ≤ _; unfold maxLen; omega)))),
      ⟨.wanted rfl rfl rfl (by rintro _ _ ⟨rfl, rfl⟩; rfl) (by intro X; exact op_fieldAddr (off := 2) rfl tF52_2xh),
      ⟨.wanted rfl rfl rfl (by rintro _ _ ⟨rfl, rfl⟩; rfl) (by intro X; rintro _ _ ⟨rfl, rfl⟩; exact op_load1 rfl tO35xh (Ent.lab (l := 3) rfl (says_cel 2))),
      ⟨.wanted rfl rfl rfl (by rintro _ _ ⟨rfl, rfl⟩; rfl) (by intro X; rintro _ _ ⟨rfl, rfl⟩; exact op_lenT (enc := encT) (l := L.pend) rfl tS35xh (Sl.ent (hm.slp rfl (by omega)))),
      ⟨.wanted rfl rfl rfl (by rintro _ _ ⟨rfl, rfl⟩; rfl) (by intro X; rintro _ _ ⟨rfl, rfl⟩ _ _ ⟨rfl, rfl⟩; exact op_val (v' := .bool false) (by rw [if_neg (show ¬ (rawL L).broken = true from hbf)]; show Value.bool (decide (¬ (L.pend.length : Int) = L.pend.length)) = _; simp) (op_neq rfl rfl)),
      ⟨.plain rfl (by intro X; rintro _ _ ⟨rfl, rfl⟩ _ _ ⟨rfl, rfl⟩; exact op_pick_f rfl rfl),
      trivial⟩⟩⟩⟩⟩⟩⟩⟩⟩⟩⟩⟩⟩⟩⟩⟩⟩⟩⟩⟩⟩⟩⟩⟩ ?_
  rintro _ _ ⟨rfl, rfl⟩ _ _ ⟨rfl, rfl⟩ _ _ ⟨rfl, rfl⟩ _ _ ⟨rfl, rfl⟩ _ _ ⟨rfl, rfl⟩ _ _ ⟨rfl, rfl⟩ _ _ ⟨rfl, rfl⟩ _ _ ⟨rfl, rfl⟩ _ _ ⟨rfl, rfl⟩ _ _ ⟨rfl, rfl⟩ _ _ ⟨rfl, rfl⟩ _ _ ⟨rfl, rfl⟩ _ _ ⟨rfl, rfl⟩ _ _ ⟨rfl, rfl⟩ _ _ ⟨rfl, rfl⟩ _ _ ⟨rfl, rfl⟩ _ _ ⟨rfl, rfl⟩ _ _ ⟨rfl, rfl⟩ _ _ ⟨rfl, rfl⟩ _ _ ⟨rfl, rfl⟩ _ _ ⟨rfl, rfl⟩ _ _ ⟨rfl, rfl⟩ _ _ ⟨rfl, rfl⟩ _ _ ⟨rfl, rfl⟩
  refine wl_norm (e' := [(1, _), (2, _), (3, _), (34, _)]) (.cons rfl (.cons rfl (.cons rfl (.cons rfl (.nil _))))) (by dsimp only [cond_false, cond_true, List.nil_append, List.cons_append]) ?_
  refine wl_nil (st_tn (w_cond_f (rfl) ?_))
  refine w_skip (st_tn (w_seq (w_region (zm rfl (zd rfl (op_fieldAddr (off := 1) rfl tF52_1xh) (zd rfl (op_load1 rfl tO3xh (Ent.lab (l := 3) rfl (says_cel 1))) (wl_op [] rfl rfl rfl rfl (op_fn Try.func24 rfl rfl rfl (fn_imp (replay_any (v := rawL L) (all := allR L.segs) 39 (L.first : Int) (by omega) (recs_raw hS.ok.seg hmap) (by rw [hlv]; unfold lastN; omega) (celLg 611 rfl) (Sl.lab 612 rfl (by show (rowsOf L.first L.segs).length ≤ _; unfold maxLen; omega)) (Mr.lab 613 rfl)) (fun u ρ hu => (by rw [hra, hre] at hu; exact hu : ∃ a' c', u = .tuple #[.slice a' (allR L.segs).length c', .int .i64 0] ∧ ρ = [(39, slW 9 encT 1 (.slice a' (allR L.segs).length c') (allR L.segs))])))) ?_)))))))
  rintro _ _ ⟨a39, c39, rfl, rfl⟩
  refine zm rfl (zd rfl (op_extract rfl rfl) (zd rfl (op_extract rfl rfl) (za rfl (za rfl (wl_nil (st_tn (w_seq (w_region (zm rfl (wl_op [] rfl rfl rfl rfl (op_fn Try.func18 rfl rfl rfl (fn_imp (segm_any (v := rawL L) 43 (celLg 611 rfl) (Sl.lab 612 rfl (by show (rowsOf L.first L.segs).length ≤ _; unfold maxLen; omega)) (fun r hr => (hS.ok.rown r hr).1) (by show (rowsOf L.first L.segs).length ≤ _; omega) (by omega)) (fun u ρ hu => (by rw [if_neg (show ¬ (rawL L).broken = true from hbf)] at hu; rw [hmaps]; exact hu : ∃ a' c', u = .slice a' fl.length c' ∧ ρ = [(43, slW 9 encT 1 (.slice a' fl.length c') fl)])))) ?_))))))))))
  rintro _ _ ⟨a43, c43, rfl, rfl⟩
  refine za rfl (wl_nil (st_tn (w_seq (w_seq (w_region (zm rfl (zd rfl (op_val (v' := .bool false) (by rfl) (op_neq rfl rfl)) ?_)))))))
  refine zm rfl (wl_wanted_det rfl rfl rfl rfl rfl rfl rfl (op_move rfl) (wl_wanted_det rfl rfl rfl rfl rfl rfl rfl (op_loadA rfl tA52xh (Ent.lab (l := 3) rfl (says_cel 0)) (Nat.le_of_ble_eq_true rfl)) (wl_wanted [] rfl rfl rfl rfl rfl rfl rfl rfl (op_fn Try.func28 rfl rfl rfl (mall_any 49 (hm.slx rfl (by omega)) (hm.slr rfl (by omega)) (by omega))) ?_)))
  rintro _ _ ⟨a49, c49, rfl, rfl⟩
  refine wl_wanted_det rfl rfl rfl rfl rfl rfl rfl (op_fn Try.func25 rfl rfl rfl (fn_imp (same_any (Sl.lab 39 rfl (by unfold maxLen; omega)) (Sl.lab 49 rfl (by unfold maxLen; omega))) (fun u ρ hu => (⟨by rw [hu.1, decide_eq_true hrec.symm], hu.2⟩ : u = .bool true ∧ ρ = [])))) ?_
  refine wl_wanted_det rfl rfl rfl rfl rfl rfl rfl (op_not_t rfl) (zd rfl (op_pick_f rfl rfl) (zm rfl (wl_wanted_det rfl rfl rfl rfl rfl rfl rfl (op_move rfl) (wl_wanted_det rfl rfl rfl rfl rfl rfl rfl (op_lenT (enc := encT) (l := fl) rfl tS35xh (Sl.ent (Sl.lab (E := 9) (enc := encT) (l := fl) 43 rfl (by rw [hfll]; unfold maxLen; omega)))) ?_))))
  refine wl_wanted_det rfl rfl rfl rfl rfl rfl rfl (op_fieldAddr (off := 0) rfl tF52_0xh) (wl_wanted_det rfl rfl rfl rfl rfl rfl rfl (op_load1 rfl tO50xh (Ent.lab (l := 3) rfl (says_cel 0))) (wl_wanted_det rfl rfl rfl rfl rfl rfl rfl (op_lenT (enc := encSegV) (l := Y) rfl tS50xh (Sl.ent (hm.slx rfl (by omega)))) ?_))
  refine wl_wanted_det rfl rfl rfl rfl rfl rfl rfl (op_val (v' := .bool false) (by rw [decide_eq_false]; intro h; apply h; rw [hfll, hYl]) (op_neq rfl rfl)) ?_
  refine zd rfl (op_pick_f rfl rfl) (wl_nil (st_tn (w_cond_f (rfl) ?_)))
  refine w_skip (st_tn (w_seq (w_seq (w_region (za rfl (wl_nil (st_tn (w_block ?_))))))))
  refine w_loopQ (X := Nat) (fun z => z ≤ L.segs.length) (fun z => [(10, .int .i64 (z))]) (fun _ => []) (fun z => L.segs.length - z) (0) [(2, _), (3, _), (9, _)] [(611, _), (612, _), (613, _), (614, _), (605, _), (606, _), (3, _), (39, _), (43, _), (49, _)] [611, 612, 613, 614, 605, 606, 3, 39, 43, 49] rfl (rfl) (.cons rfl (.nil _)) (.cons rfl (.cons rfl (.cons rfl (.nil _)))) (by
      try dsimp only
      exact Nat.zero_le _) ?_
  rintro i hi
  refine w_norm2 (by dsimp only [List.cons_append, List.nil_append]) (by dsimp only [List.cons_append, List.nil_append]) ?_
  try dsimp only at hi ⊢
  refine w_seq (w_seq (w_region (zm rfl (zm rfl (zd rfl (op_lenT (enc := encT) (l := fl) rfl tS35xh (Sl.ent (Sl.lab (E := 9) (enc := encT) (l := fl) 43 rfl (by rw [hfll]; unfold maxLen; omega)))) ?_)))))
  refine zd rfl (op_lss rfl rfl) (wl_nil (st_tn (w_cond_d rfl (fun hc64 => ?_) (fun hc64 => ?_))))
  · -- c64.t
    obtain ⟨x, hx⟩ := getE (l := L.segs) (i := i) (by omega)
    obtain ⟨y, hy⟩ := getE (l := Y) (i := i) (by omega)
    have hfx : fl[i]? = some (fileN nm x.num) := by rw [hfl, List.getElem?_map, hx]; rfl
    have hyn : y.num = x.num := by
      have h1 := congrArg (fun l : List (Nat × Nat × List RdM.Bs) => l[i]?) hm.rel
      simp only [List.getElem?_map, hx, hy, Option.map_some, Option.some.injEq, Prod.mk.injEq] at h1
      exact h1.1
    have hxn := hS.ok.seg.num x (List.mem_of_getElem? hx)
    refine w_skip (st_tn (w_seq (w_block (w_seq ?_))))
    refine w_draw (D := [⟨67, [], [], [], _, false, [], []⟩, ⟨68, [], [], [], _, false, [], []⟩, ⟨69, [0, 1], [], [], _, false, [], []⟩, ⟨70, [2], [], [], _, false, [], []⟩, ⟨71, [], [], [], _, false, [], []⟩, ⟨72, [], [], [], _, false, [], []⟩, ⟨73, [5], [], [], _, false, [], []⟩, ⟨74, [], [], [], _, false, [], []⟩, ⟨75, [6, 7], [], [], _, false, [], []⟩, ⟨76, [8], [], [], _, false, [], []⟩, ⟨77, [9], [], [], _, false, [], []⟩, ⟨78, [4, 10], [], [], _, false, [], []⟩]) [] [9, 10, 2, 3] [⟨67, [], [], false, [], []⟩, ⟨68, [], [], false, [], []⟩, ⟨69, [0, 1], [], false, [], []⟩, ⟨70, [2], [], false, [], []⟩, ⟨71, [], [], false, [], []⟩, ⟨72, [], [], false, [], []⟩, ⟨73, [5], [], false, [], []⟩, ⟨74, [], [], false, [], []⟩, ⟨75, [6, 7], [], false, [], []⟩, ⟨76, [8], [], false, [], []⟩, ⟨77, [9], [], false, [], []⟩, ⟨78, [4, 10], [], false, [], []⟩] tMixxh (by rfl) (by kernel_rfl) (by rfl) (by rfl)
        ⟨.plain rfl (by intro X; exact op_move rfl),
        ⟨.plain rfl (by intro X; exact op_move rfl),
        ⟨.plain rfl (by intro X; rintro _ _ ⟨rfl, rfl⟩ _ _ ⟨rfl, rfl⟩; exact op_idx (l := fl) rfl rfl tS35xh (Sl.ent (Sl.lab (E := 9) (enc := encT) (l := fl) 43 rfl (by rw [hfll]; unfold maxLen; omega))) (by omega)),
        ⟨.plain rfl (by intro X; rintro _ _ ⟨rfl, rfl⟩; exact op_ldx rfl tO9xh (Sl.lab (E := 9) (enc := encT) (l := fl) 43 rfl (by rw [hfll]; unfold maxLen; omega)) hfx (by rfl)),
        ⟨.plain rfl (by intro X; exact op_move rfl),
        ⟨.plain rfl (by intro X; exact op_fieldAddr (off := 0) rfl tF52_0xh),
        ⟨.plain rfl (by intro X; rintro _ _ ⟨rfl, rfl⟩; exact op_load1 rfl tO50xh (Ent.lab (l := 3) rfl (says_cel 0))),
        ⟨.plain rfl (by intro X; exact op_move rfl),
        ⟨.plain rfl (by intro X; rintro _ _ ⟨rfl, rfl⟩ _ _ ⟨rfl, rfl⟩; exact op_idx (l := Y) rfl rfl tS50xh (Sl.ent (hm.slx rfl (by omega))) (by omega)),
        ⟨.plain rfl (by intro X; rintro _ _ ⟨rfl, rfl⟩; exact op_fieldAddr (off := 0) rfl tF96_0xh),
        ⟨.plain rfl (by intro X; rintro _ _ ⟨rfl, rfl⟩; exact op_ldxf rfl tO3xh (hm.slx rfl (by omega)) hy (by rfl)),
        ⟨.plain rfl (by intro X; rintro _ _ ⟨rfl, rfl⟩ _ _ ⟨rfl, rfl⟩; exact op_fn Try.func57 rfl rfl rfl (fn_imp (mname_any nm y.num (by omega) (by omega)) (fun u ρ hu => (by rw [hyn] at hu; exact hu : u = .string (str (fileN nm x.num)) ∧ ρ = [])))),
        trivial⟩⟩⟩⟩⟩⟩⟩⟩⟩⟩⟩⟩ ?_
    rintro _ _ ⟨rfl, rfl⟩ _ _ ⟨rfl, rfl⟩ _ _ ⟨rfl, rfl⟩ _ _ ⟨rfl, rfl⟩ _ _ ⟨rfl, rfl⟩ _ _ ⟨rfl, rfl⟩ _ _ ⟨rfl, rfl⟩ _ _ ⟨rfl, rfl⟩ _ _ ⟨rfl, rfl⟩ _ _ ⟨rfl, rfl⟩ _ _ ⟨rfl, rfl⟩ _ _ ⟨rfl, rfl⟩
    refine wl_norm (e' := [(2, _), (3, _), (9, _), (10, _), (70, _), (78, _)]) (.cons rfl (.cons rfl (.cons rfl (.cons rfl (.cons rfl (.cons rfl (.nil _))))))) (by dsimp only [cond_false, cond_true, List.nil_append, List.cons_append]) ?_
    refine zd rfl (op_neBs rfl rfl) (wl_nil (st_tn (w_cond_d rfl (fun hc79 => ?_) (fun hc79 => ?_))))
    · -- c79.t
      exact absurd rfl hc79
    · -- c79.f
      refine w_skip (st_bn (st_tn (w_region (zm rfl (zd rfl (op_add' rfl rfl (by omega)) ?_)))))
      refine za rfl (wl_nil ?_)
      refine st_roundQ (x := i) (i + 1) [611, 612, 613, 614, 605, 606, 3, 39, 43, 49] rfl (rfl) (.cons rfl (.nil _)) (.cons rfl (.cons rfl (.cons rfl (.nil _)))) (by
          try dsimp only
          omega) (by
          try dsimp only
          omega)
  · -- c64.f
    refine w_exit (st_te ?_)
    refine st_te ?_
    refine st_be (st_tn (w_seq (w_region (za rfl (wl_nil (st_tn (w_ret (st_ret (vs := [_]) [611, 612, 613, 614, 605, 606] Try.results31 ⟨rfl, trivial⟩ rfl ?_))))))))
    refine ⟨[(611, _), (612, _), (613, _), (614, _), (605, _), (606, _)], rfl, ?_⟩
    exact ⟨rfl, rfl⟩
theorem agrees_c {σ : World} {F : List Res} {b d : Nat} {nm : RdM.Bs} {L : Lg} {P1 : PS} {P2 : PX} {v : Value} (lab : Nat) (hS : Sm L) (hM : MS P1 P2 v L) (hnm : nm.length ≤ 48) :
    FnT Try.prog σ F 31 [v, .pointer (some ⟨b, 0, none⟩), .string (str nm)] [(lab, lgR b d nm L), (605, poolS P1), (606, poolX P2)] (fun u ρ => u = .bool true ∧ ρ = [(lab, lgR b d nm L), (605, poolS P1), (606, poolX P2)]) :=
  fn_oc ((lg_opens b d nm L).app (opens_id [poolS P1, poolX P2])) rfl (R := fun i => cL b d nm L i.1.1 ++ [(605, poolS P1), (606, poolX P2)]) (fun i => rfl) (fun i => agrees_any (d := d) (m := i.1.1.1) (a0 := i.1.1.2.1) (c0 := i.1.1.2.2.1) (p0 := i.1.1.2.2.2.1) (cp0 := i.1.1.2.2.2.2.1) hS hM hnm i.1.2)
    fun i u ρ ⟨h1, h2⟩ => ⟨[(lab, lgR b d nm L), (605, poolS P1), (606, poolX P2)], ⟨h1, rfl⟩, by rw [h2]; exact Closes.app (lg_closes i.1.1 i.1.2) (Closes.refl [poolS P1, poolX P2])⟩
end Go.Proofs.Ytcbigmgakdanjaa
namespace Go.Proofs.Ytcbigmgakdanjaa
open Go Go.SL Go.RowKit Go.RdM Go.WalM
set_option linter.unusedVariables false
set_option linter.unusedSimpArgs false
def Clean (fs : DskM.Files) : Prop := ∀ p ∈ fs, p.2.dur = true ∧ p.2.syn = p.2.data.length
structure Rn (nm : RdM.Bs) (i : Nat) (L : Lg) (s : DskM.St) : Prop where
  ok : OkL L
  br : L.broken = false
  on : OnD nm L s
  good : DskM.Good s
  dn : s.down = false
  lm : s.lim = false
  cap : s.cap = 262144
  tot : L.first + (allR L.segs).length + L.pend.length ≤ i + 1
  pr : ∀ r ∈ L.pend, r.length ≤ 39
  num : ∀ x ∈ L.segs, x.num ≤ i
  cnt : s.fs.length ≤ i
  us : DskM.used s.fs + 48 * L.pend.length ≤ 84 * i
  cl : Clean s.fs
theorem Rn.sm {nm : RdM.Bs} {i : Nat} {L : Lg} {s : DskM.St} (h : Rn nm i L s) (hi : i ≤ 100) : Sm L := ⟨h.ok, h.br, by have := h.tot; omega, by have := h.tot; omega, by have := h.tot; have := h.ok.seg.pos; omega⟩
theorem rn_new (nm : RdM.Bs) : Rn nm 0 newL (newS 262144) := ⟨okl_new, rfl, onD_new nm _, good_new (by decide), rfl, rfl, rfl, by simp [newL, allR], fun r hr => by simp [newL] at hr, fun x hx => by simp [newL] at hx, by simp [newS], by simp [newS, newL, DskM.used], fun p hp => by simp [newS] at hp⟩
theorem Rn.app {nm : RdM.Bs} {i : Nat} {L : Lg} {s : DskM.St} (h : Rn nm i L s) (hi : i ≤ 100) {r : RdM.Bs} (hr : r.length ≤ 39) : Rn nm (i + 1) { L with pend := L.pend ++ [r] } s := by
  have ht := h.tot
  have hu := h.us
  have hp := h.ok.seg.pos
  refine ⟨⟨h.ok.seg, fun q hq => ?_, by show (L.pend ++ [r]).length ≤ _; rw [List.length_append, List.length_singleton]; omega, h.ok.sz⟩, h.br, ⟨h.on.holds, h.on.tail⟩, h.good, h.dn, h.lm, h.cap, by show L.first + (allR L.segs).length + (L.pend ++ [r]).length ≤ _; rw [List.length_append, List.length_singleton]; omega, fun q hq => ?_, fun x hx => by have := h.num x hx; omega, by have := h.cnt; omega, by show _ + 48 * (L.pend ++ [r]).length ≤ _; rw [List.length_append, List.length_singleton]; omega, h.cl⟩
  · rcases List.mem_append.1 hq with hq | hq
    · exact h.ok.pc q hq
    · rw [List.mem_singleton] at hq; subst hq; omega
  · rcases List.mem_append.1 hq with hq | hq
    · exact h.pr q hq
    · rw [List.mem_singleton] at hq; subst hq; exact hr
theorem Rn.mono {nm : RdM.Bs} {i : Nat} {L : Lg} {s : DskM.St} (h : Rn nm i L s) : Rn nm (i + 1) L s := ⟨h.ok, h.br, h.on, h.good, h.dn, h.lm, h.cap, by have := h.tot; omega, h.pr, fun x hx => by have := h.num x hx; omega, by have := h.cnt; omega, by have := h.us; omega, h.cl⟩
theorem Rn.dis {nm : RdM.Bs} {i : Nat} {L : Lg} {s : DskM.St} (h : Rn nm i L s) : Rn nm (i + 1) { L with pend := [] } s := ⟨⟨h.ok.seg, fun r hr => by simp at hr, by simp, h.ok.sz⟩, h.br, ⟨h.on.holds, h.on.tail⟩, h.good, h.dn, h.lm, h.cap, by have := h.tot; show L.first + (allR L.segs).length + 0 ≤ _; omega, fun r hr => by simp at hr, fun x hx => by have := h.num x hx; omega, by have := h.cnt; omega, by have := h.us; show _ + 48 * 0 ≤ _; omega, h.cl⟩
theorem Rn.opn {nm : RdM.Bs} {i : Nat} {L : Lg} {s : DskM.St} (h : Rn nm i L s) : Rn nm (i + 1) (openL L) s := ⟨⟨h.ok.seg, fun r hr => by simp [openL] at hr, by simp [openL], h.ok.sz⟩, rfl, ⟨h.on.holds, fun hh => by simp [openL] at hh⟩, h.good, h.dn, h.lm, h.cap, by have := h.tot; show L.first + (allR L.segs).length + 0 ≤ _; omega, fun r hr => by simp [openL] at hr, fun x hx => by have := h.num x hx; omega, by have := h.cnt; omega, by have := h.us; show _ + 48 * 0 ≤ _; omega, h.cl⟩
theorem sum_le {g : List RdM.Bs} (h : ∀ r ∈ g, r.length ≤ 39) : (g.map List.length).sum ≤ 39 * g.length := by
  induction g with
  | nil => simp
  | cons x g ih =>
    have h1 := ih fun r hr => h r (by simp [hr])
    have h2 := h x (by simp)
    simp only [List.map_cons, List.sum_cons, List.length_cons]; omega
theorem mem_set' {k : RdM.Bs} {f : DskM.Fl} {fs : DskM.Files} {q : RdM.Bs × DskM.Fl} (h : q ∈ DskM.setS fs k f) : q = (k, f) ∨ q ∈ fs := DskM.mem_setS h
theorem nextN_lt' {S : List Sg} {fr : Bool} {k : Nat} (h : ∀ x ∈ S, x.num ≤ k) : nextN S fr ≤ k + 1 := by
  rcases List.eq_nil_or_concat S with h0 | ⟨S', y, rfl⟩
  · subst h0; unfold nextN; simp
  · rw [List.concat_eq_append] at h ⊢
    have := h y (by simp)
    unfold nextN
    rw [List.getLast?_concat]
    dsimp only
    split <;> omega
theorem noteS_num' {S : List Sg} {n k : Nat} {g : List RdM.Bs} (h : ∀ x ∈ S, x.num ≤ k) (hn : n ≤ k) : ∀ x ∈ noteS S n g, x.num ≤ k := fun x hx => by
  rcases noteS_mem hx with h1 | ⟨y, h1, h2, h3⟩ | h1
  · exact h x h1
  · subst h3; exact hn
  · subst h1; exact hn
theorem Rn.com {nm : RdM.Bs} {i : Nat} {L : Lg} {s : DskM.St} (h : Rn nm i L s) (hi : i ≤ 100) (hnm : DskM.nameB nm = true ∧ nm.length ≤ 48) : ∃ s', comO nm L s = ((((lastN (commitL L) : Nat) : Int), 0), commitL L, s') ∧ Rn nm (i + 1) (commitL L) s' := by
  by_cases hp : L.pend = []
  · refine ⟨s, ?_, ?_⟩
    · rw [commitL_nil hp]; exact com_none h.br hp
    · rw [commitL_nil hp]; exact h.mono
  · have ht := h.tot
    have hu := h.us
    have hpo := h.ok.seg.pos
    have hnx := nextN_lt' (fr := L.fresh) h.num
    have hes := encG_sum (f := lastN L + 1) (g := L.pend) ⟨hp, h.ok.pl, h.ok.pc⟩ (by unfold lastN; omega)
    have hsm := sum_le h.pr
    have hcnt := h.cnt
    obtain ⟨s1, hs1, e1, e2, e3, e4, e5, e6, e7, e8, e9⟩ := com_all (nm := nm) h.ok h.on h.good h.dn h.lm hnm h.br hp (by omega) (by omega) (by rw [h.cap]; omega) (by omega)
    have hcl := lastN_commit hp
    have hac := allR_commit L
    have hacl := congrArg List.length hac
    rw [List.length_append] at hacl
    have hfc := first_commit L
    refine ⟨s1, e1, ⟨e4, by rw [hcl]; exact h.br, e3, e2, e5, e6, by rw [e7]; exact h.cap, ?_, by rw [hcl]; intro r hr; simp at hr, ?_, by omega, ?_, ?_⟩⟩
    · rw [hfc, hacl, hcl]; show _ + 0 ≤ _; omega
    · rw [hcl]; exact noteS_num' (fun x hx => by have := h.num x hx; omega) hnx
    · rw [e8, hcl]; show _ + 48 * 0 ≤ _; omega
    · rw [hs1]
      intro p hp2
      rcases mem_set' hp2 with rfl | hp2
      · exact ⟨rfl, rfl⟩
      · exact h.cl p hp2
theorem rem_q {s : DskM.St} (hd : s.down = false) (hl : s.lim = false) {n : RdM.Bs} (hn : DskM.nameB n = true) {f : DskM.Fl} (hf : DskM.find s.fs n = some f) : DskM.remO s n = (0, { s with fs := DskM.delS s.fs n }) := by
  rw [rem_done (ready_ok hd hn) hf (by rw [oper_q hl]), oper_q hl]
theorem trS_le : ∀ (k f : Nat) (S : List Sg) (n : Int), trS f S n k ≤ S.length
  | 0, f, S, n => by cases S <;> simp [trS]
  | k + 1, f, [], n => by simp [trS]
  | k + 1, f, [x], n => by simp [trS]
  | k + 1, f, x :: y :: l, n => by
    rw [trS]
    have := trS_le k (f + x.recs.length) (y :: l) n
    simp only [List.length_cons] at *
    split <;> omega
theorem trunc_q {nm : RdM.Bs} {n : Int} (hnm : DskM.nameB nm = true ∧ nm.length ≤ 48) : ∀ {S : List Sg} {f : Nat} {s : DskM.St}, OkS f S → Holds f S (segsOf nm s.fs) → DskM.Good s → s.down = false → s.lim = false → Clean s.fs →
    ∃ s', truncG nm f S n s = (0, f + (allR (S.take (trS f S n S.length))).length, S.drop (trS f S n S.length), s') ∧ OkS (f + (allR (S.take (trS f S n S.length))).length) (S.drop (trS f S n S.length)) ∧ Holds (f + (allR (S.take (trS f S n S.length))).length) (S.drop (trS f S n S.length)) (segsOf nm s'.fs) ∧ segsOf nm s'.fs = (segsOf nm s.fs).drop (trS f S n S.length) ∧ DskM.Good s' ∧ s'.down = false ∧ s'.lim = false ∧ Clean s'.fs ∧ s'.cap = s.cap ∧ DskM.used s'.fs ≤ DskM.used s.fs ∧ s'.fs.length ≤ s.fs.length
  | [], f, s, h1, h2, h3, h4, h5, h6 => ⟨s, rfl, by simpa [trS, allR] using h1, by simpa [trS, allR] using h2, rfl, h3, h4, h5, h6, rfl, Nat.le_refl _, Nat.le_refl _⟩
  | [x], f, s, h1, h2, h3, h4, h5, h6 => ⟨s, rfl, by simpa [trS, allR] using h1, by simpa [trS, allR] using h2, rfl, h3, h4, h5, h6, rfl, Nat.le_refl _, Nat.le_refl _⟩
  | x :: y :: l, f, s, h1, h2, h3, h4, h5, h6 => by
    have hlen : (x :: y :: l).length = (y :: l).length + 1 := rfl
    rw [hlen, trS]
    by_cases hn : (f : Int) + x.recs.length - 1 ≤ n
    · rw [if_pos hn]
      obtain ⟨q, Q, hQ⟩ : ∃ q Q, segsOf nm s.fs = q :: Q := by
        cases hq : segsOf nm s.fs with
        | nil => rw [hq] at h2; exact h2.elim
        | cons q Q => exact ⟨q, Q, rfl⟩
      rw [hQ] at h2
      obtain ⟨hq1, _, hq3⟩ := h2
      have hxn := h1.num x (by simp)
      have hmem : (x.num, q.2) ∈ segsOf nm s.fs := by rw [hQ, ← hq1]; simp
      have hfd := find_seg h3.inc hmem
      have hrem := rem_q h4 h5 (inR_file hnm x.num) hfd
      have hgr := h3.rem (fileN nm x.num)
      rw [hrem] at hgr
      have hseg : segsOf nm (DskM.delS s.fs (fileN nm x.num)) = Q := by
        rw [segs_del hxn, hQ, List.filter_cons, if_neg (by simp [hq1]), List.filter_eq_self]
        intro z hz
        obtain ⟨t, ht1, ht2⟩ := holds_num hq3 z hz
        have := (List.pairwise_cons.1 h1.inc).1 t ht1
        exact decide_eq_true (by omega)
      have hud := DskM.used_del (k := fileN nm x.num) h3.inc
      have hld := DskM.len_del (k := fileN nm x.num) (fs := s.fs)
      obtain ⟨s', e1, e2, e3, e4, e5, e6, e7, e8, e9, e10, e11⟩ := trunc_q hnm (n := n) (S := y :: l) (f := f + x.recs.length) (s := { s with fs := DskM.delS s.fs (fileN nm x.num) }) (oks_tail h1 (by simp)) (by show Holds _ _ (segsOf nm (DskM.delS s.fs _)); rw [hseg]; exact hq3) hgr h4 h5 (fun p hp => h6 p (DskM.mem_delS hp).1)
      have hfst : ∀ j, f + (allR ((x :: y :: l).take (j + 1))).length = f + x.recs.length + (allR ((y :: l).take j)).length := fun j => by
        rw [List.take_succ_cons, allR_cons, List.length_append]; omega
      refine ⟨s', ?_, ?_, ?_, ?_, e5, e6, e7, e8, e9, by show _ ≤ _; have : DskM.used ({ s with fs := DskM.delS s.fs (fileN nm x.num) } : DskM.St).fs = DskM.used (DskM.delS s.fs (fileN nm x.num)) := rfl; omega, by have : ({ s with fs := DskM.delS s.fs (fileN nm x.num) } : DskM.St).fs.length = (DskM.delS s.fs (fileN nm x.num)).length := rfl; omega⟩
      · rw [truncG, if_pos hn, hrem, if_neg (by simp), e1, hfst, List.drop_succ_cons]
      · rw [hfst, List.drop_succ_cons]; exact e2
      · rw [hfst, List.drop_succ_cons]; exact e3
      · rw [e4, hQ, List.drop_succ_cons]
        show (segsOf nm (DskM.delS s.fs _)).drop _ = _
        rw [hseg]
    · rw [if_neg hn]
      refine ⟨s, by rw [truncG, if_neg hn]; simp [allR], by simpa [allR] using h1, by simpa [allR] using h2, rfl, h3, h4, h5, h6, rfl, Nat.le_refl _, Nat.le_refl _⟩
theorem Rn.tru {nm : RdM.Bs} {i : Nat} {L : Lg} {s : DskM.St} (h : Rn nm i L s) (hnm : DskM.nameB nm = true ∧ nm.length ≤ 48) (n : Int) : ∃ s', truncO nm L s n = (0, dropL L (trS L.first L.segs n L.segs.length), s') ∧ Rn nm (i + 1) (dropL L (trS L.first L.segs n L.segs.length)) s' := by
  obtain ⟨s', e1, e2, e3, e4, e5, e6, e7, e8, e9, e10, e11⟩ := trunc_q hnm (n := n) h.ok.seg h.on.holds h.good h.dn h.lm h.cl
  obtain ⟨j, hj⟩ : ∃ j, j = trS L.first L.segs n L.segs.length := ⟨_, rfl⟩
  have hjl := trS_le L.segs.length L.first L.segs n
  rw [← hj] at e1 e2 e3 e4 hjl ⊢
  have hall : (allR (L.segs.take j)).length + (allR (L.segs.drop j)).length = (allR L.segs).length := by
    rw [← List.length_append, ← allR_app, List.take_append_drop]
  have ht := h.tot
  have hsz := h.ok.sz
  refine ⟨s', ?_, ⟨⟨e2, h.ok.pc, h.ok.pl, by show L.first + (allR (L.segs.take j)).length + (allR (L.segs.drop j)).length ≤ _; omega⟩, h.br, ⟨e3, fun hf S x hS => ?_⟩, e5, e6, e7, e9.trans h.cap, by show L.first + (allR (L.segs.take j)).length + (allR (L.segs.drop j)).length + L.pend.length ≤ _; omega, h.pr, fun x hx => by have := h.num x (List.mem_of_mem_drop hx); omega, by have := h.cnt; omega, by have := h.us; show _ + 48 * L.pend.length ≤ _; omega, e8⟩⟩
  · unfold truncO
    rw [if_neg (by simp [h.br]), e1]
    have hb := h.br
    obtain ⟨f0, S0, p0, fr0, b0⟩ := L
    dsimp only at hb
    subst hb; rfl
  · change L.segs.drop j = S ++ [x] at hS
    have hseg : L.segs = (L.segs.take j ++ S) ++ [x] := by rw [List.append_assoc, ← hS, List.take_append_drop]
    obtain ⟨Q, q, hQ, hqd⟩ := h.on.tail hf _ _ hseg
    have hql := holds_len h.on.holds
    have hQl : Q.length + 1 = L.segs.length := by rw [hQ] at hql; simpa using hql
    have hSl : j + S.length + 1 = L.segs.length := by
      have := congrArg List.length hS
      rw [List.length_drop, List.length_append, List.length_singleton] at this; omega
    refine ⟨Q.drop j, q, ?_, ?_⟩
    · rw [e4, hQ, List.drop_append_of_le_length (by omega)]
    · rw [hqd, allR_app, List.length_append, ← Nat.add_assoc]; rfl
end Go.Proofs.Ytcbigmgakdanjaa
namespace Go.Proofs.Ytcbigmgakdanjaa
open Go Go.SL Go.RowKit Go.RdM Go.WalM
set_option linter.unusedVariables false
set_option linter.unusedSimpArgs false
def nth (v : Value) (j : Nat) : Value := match v with
  | .agg a => a.getD j (.bool false)
  | _ => .bool false
def vA (v : Value) : Option Addr := match v with
  | .slice a _ _ => a
  | _ => none
def vL (v : Value) : Nat := match v with
  | .slice _ l _ => l
  | _ => 0
def vC (v : Value) : Nat := match v with
  | .slice _ _ c => c
  | _ => 0
def vZ (v : Value) : Int := match v with
  | .int _ z => z
  | _ => 0
def vB (v : Value) : Bool := match v with
  | .bool b => b
  | _ => false
def sl1 (v : Value) : Value := .slice (vA v) (vL v) (vC v)
def st4 (v : Value) : Value := .agg #[sl1 (nth v 0), .int .i64 (vZ (nth v 1)), sl1 (nth v 2), .bool (vB (nth v 3))]
theorem MS.st4 {P1 : PS} {P2 : PX} {v : Value} {M : Lg} (h : MS P1 P2 v M) : MS P1 P2 (st4 v) M := by
  obtain ⟨a, c, p, cp, Y, hm⟩ := h
  have := hm.val
  subst this
  exact ⟨a, c, p, cp, Y, hm⟩
theorem MS.eq4 {P1 : PS} {P2 : PX} {v : Value} {M : Lg} (h : MS P1 P2 v M) : v = Go.Proofs.Ytcbigmgakdanjaa.st4 v := by
  obtain ⟨a, c, p, cp, Y, hm⟩ := h
  rw [hm.val]; rfl
abbrev ValX := Value
end Go.Proofs.Ytcbigmgakdanjaa
namespace Go.Proofs.Ytcbigmgakdanjaa
open Go Go.SL Go.RowKit Go.RdM Go.WalM
set_option linter.unusedVariables false
set_option linter.unusedSimpArgs false
end Go.Proofs.Ytcbigmgakdanjaa
namespace Go.Proofs.Ytcbigmgakdanjaa
open Go Go.SL Go.RowKit Go.RdM Go.WalM
set_option linter.unusedVariables false
set_option linter.unusedSimpArgs false
theorem parse_other {nm nm2 : RdM.Bs} (h : nm2.length ≠ nm.length) (n : Nat) : parseN nm2 (fileN nm n) = none := by
  cases hp : parseN nm2 (fileN nm n) with
  | none => rfl
  | some m =>
    have := congrArg List.length (parse_some hp).1
    rw [len_fileN, len_fileN] at this; omega
theorem rem_other {s : DskM.St} {nm nm2 : RdM.Bs} (h : nm2.length ≠ nm.length) (n : Nat) : segsOf nm2 (DskM.remO s (fileN nm n)).2.fs = segsOf nm2 s.fs := by
  unfold DskM.remO
  split
  · rfl
  · cases DskM.find s.fs (fileN nm n) with
    | none => rfl
    | some f =>
      dsimp only
      split
      · exact segs_del_other (parse_other h n)
      · exact congrArg _ (DskM.oper_fs s).1
theorem truncG_other {nm nm2 : RdM.Bs} (h : nm2.length ≠ nm.length) {n : Int} : ∀ {S : List Sg} {f : Nat} {s : DskM.St}, segsOf nm2 (truncG nm f S n s).2.2.2.fs = segsOf nm2 s.fs
  | [], f, s => rfl
  | [x], f, s => rfl
  | x :: y :: l, f, s => by
    rw [truncG]
    split
    · split
      · exact rem_other h _
      · rw [truncG_other h (S := y :: l)]; exact rem_other h _
    · rfl
theorem truncO_other {nm nm2 : RdM.Bs} (h : nm2.length ≠ nm.length) {n : Int} {L : Lg} {s : DskM.St} : segsOf nm2 (truncO nm L s n).2.2.fs = segsOf nm2 s.fs := by
  unfold truncO
  split
  · rfl
  · exact truncG_other h
theorem Rn.com_fr {nm : RdM.Bs} {i : Nat} {L : Lg} {s s' : DskM.St} {e : Int × Int} {L' : Lg} (h : Rn nm i L s) (hi : i ≤ 100) (hnm : DskM.nameB nm = true ∧ nm.length ≤ 48) (hc : comO nm L s = (e, L', s')) :
    DskM.used s'.fs + 48 * L'.pend.length ≤ DskM.used s.fs + 48 * L.pend.length + 84 ∧ ∀ nm2 : RdM.Bs, nm2.length ≠ nm.length → segsOf nm2 s'.fs = segsOf nm2 s.fs := by
  by_cases hp : L.pend = []
  · rw [com_none h.br hp] at hc
    simp only [Prod.mk.injEq] at hc
    obtain ⟨_, rfl, rfl⟩ := hc
    exact ⟨by omega, fun _ _ => rfl⟩
  · have ht := h.tot
    have hu := h.us
    have hpo := h.ok.seg.pos
    have hnx := nextN_lt' (fr := L.fresh) h.num
    have hes := encG_sum (f := lastN L + 1) (g := L.pend) ⟨hp, h.ok.pl, h.ok.pc⟩ (by unfold lastN; omega)
    have hsm := sum_le h.pr
    have hcnt := h.cnt
    obtain ⟨s1, hs1, e1, e2, e3, e4, e5, e6, e7, e8, e9⟩ := com_all (nm := nm) h.ok h.on h.good h.dn h.lm hnm h.br hp (by omega) (by omega) (by rw [h.cap]; omega) (by omega)
    rw [e1] at hc
    simp only [Prod.mk.injEq] at hc
    obtain ⟨_, rfl, rfl⟩ := hc
    refine ⟨?_, fun nm2 h2 => ?_⟩
    · rw [e8, lastN_commit hp]; show _ + 48 * 0 ≤ _; omega
    · rw [hs1]; exact segs_set_other (parse_other h2 _)
theorem Rn.tru_fr {nm : RdM.Bs} {i : Nat} {L : Lg} {s s' : DskM.St} {e : Int} {L' : Lg} (h : Rn nm i L s) (hnm : DskM.nameB nm = true ∧ nm.length ≤ 48) {n : Int} (hc : truncO nm L s n = (e, L', s')) :
    DskM.used s'.fs + 48 * L'.pend.length ≤ DskM.used s.fs + 48 * L.pend.length + 84 ∧ ∀ nm2 : RdM.Bs, nm2.length ≠ nm.length → segsOf nm2 s'.fs = segsOf nm2 s.fs := by
  refine ⟨?_, fun nm2 h2 => by have := truncO_other h2 (n := n) (L := L) (s := s); rw [hc] at this; exact this⟩
  obtain ⟨s1, e1, e2, e3, e4, e5, e6, e7, e8, e9, e10, e11⟩ := trunc_q hnm (n := n) h.ok.seg h.on.holds h.good h.dn h.lm h.cl
  unfold truncO at hc
  rw [if_neg (by simp [h.br]), e1] at hc
  simp only [Prod.mk.injEq] at hc
  obtain ⟨_, rfl, rfl⟩ := hc
  dsimp only; omega
def DoF (nm : RdM.Bs) (d i : Nat) (L : Lg) (s : DskM.St) (u : Value) (ρ : RL) : Prop := ∃ b v P1 P2 L' s', Rn nm (i + 1) L' s' ∧ MS P1 P2 (st4 v) L' ∧ (DskM.used s'.fs + 48 * L'.pend.length ≤ DskM.used s.fs + 48 * L.pend.length + 84 ∧ ∀ nm2 : RdM.Bs, nm2.length ≠ nm.length → segsOf nm2 s'.fs = segsOf nm2 s.fs) ∧ u = .tuple #[.pointer (some ⟨b, 0, none⟩), st4 v, .bool true, .bool false] ∧ ρ = [(601, dkR d s'), (611, lgR b d nm L'), (605, poolS P1), (606, poolX P2)]
theorem do_runF {σ : World} {F : List Res} {b d i : Nat} {nm : RdM.Bs} {L : Lg} {s : DskM.St} {P1 : PS} {P2 : PX} {v : Value} (x : OpL) (hx : (0 ≤ x.k ∧ x.k ≤ 255) ∧ (0 ≤ x.z ∧ x.z ≤ 255) ∧ (0 ≤ x.n ∧ x.n ≤ 255)) (h : Rn nm i L s) (hi : i ≤ 90) (hM : MS P1 P2 v L) (hok : DskM.nameB nm = true ∧ nm.length ≤ 48) :
    FnT Try.prog σ F 27 [.pointer (some ⟨d, 0, none⟩), .pointer (some ⟨b, 0, none⟩), v, .agg (encOpL x).toArray, .string (str nm)] [(601, dkR d s), (611, lgR b d nm L), (605, poolS P1), (606, poolX P2)] (DoF nm d i L s) := by
  have hS := h.sm (by omega)
  have hmod : x.k % 8 ≤ 2 ∨ (x.k % 8 = 3 ∨ x.k % 8 = 4) ∨ x.k % 8 = 5 ∨ x.k % 8 = 6 ∨ x.k % 8 = 7 := by omega
  rcases hmod with hk | hk | hk | hk | hk
  · refine fn_imp (do_app x hx hk hS hM) ?_
    rintro u ρ ⟨v', P1', hM', h1, h2⟩
    rw [hM'.eq4] at h1
    exact ⟨_, _, _, _, _, _, h.app (by omega) (recB_len' _ _), hM'.st4, ⟨by show _ + 48 * (L.pend ++ [_]).length ≤ _; rw [List.length_append, List.length_singleton]; omega, fun _ _ => rfl⟩, h1, h2⟩
  · obtain ⟨s', hc, hR⟩ := h.com (by omega) hok
    refine fn_imp (do_com x hx.1 hk hS hM hc (.inr ⟨rfl, rfl⟩) h.good hok.2 (by have := nextN_lt' (fr := L.fresh) h.num; omega)) ?_
    rintro u ρ ⟨v', P1', P2', _, _, hM', h1, h2⟩
    rw [hM'.eq4] at h1
    exact ⟨_, _, _, _, _, _, hR, hM'.st4, h.com_fr (by omega) hok hc, h1, h2⟩
  · refine fn_imp (do_dis x hx.1 hk hS hM) ?_
    rintro u ρ ⟨v', hM', h1, h2⟩
    rw [hM'.eq4] at h1
    exact ⟨_, _, _, _, _, _, h.dis, hM'.st4, ⟨by show _ + 48 * 0 ≤ _; omega, fun _ _ => rfl⟩, h1, h2⟩
  · obtain ⟨s', hc, hR⟩ := h.tru hok (L.first + x.n % 12 - 2)
    refine fn_imp (do_tru x ⟨hx.1, hx.2.2⟩ hk hS hM hc (.inr rfl) h.good hok.2) ?_
    rintro u ρ ⟨v', hM', h1, h2⟩
    rw [hM'.eq4] at h1
    exact ⟨_, _, _, _, _, _, hR, hM'.st4, h.tru_fr hok hc, h1, h2⟩
  · refine fn_imp (do_open x hx.1 hk hS hM hok h.dn h.good h.on) ?_
    rintro u ρ ⟨b', v', hM', h1, h2⟩
    rw [hM'.eq4] at h1
    exact ⟨_, _, _, _, _, _, h.opn, hM'.st4, ⟨by show _ + 48 * 0 ≤ _; omega, fun _ _ => rfl⟩, h1, h2⟩
theorem Rn.other {nm nm2 : RdM.Bs} {i : Nat} {L L2 : Lg} {s s' : DskM.St} (h : Rn nm2 i L2 s) (h1 : Rn nm (i + 1) L s') (hseg : segsOf nm2 s'.fs = segsOf nm2 s.fs) (hus : DskM.used s'.fs + 48 * L2.pend.length ≤ 84 * (i + 1)) : Rn nm2 (i + 1) L2 s' :=
  ⟨h.ok, h.br, ⟨by rw [hseg]; exact h.on.holds, fun hf S x hS => by rw [hseg]; exact h.on.tail hf S x hS⟩, h1.good, h1.dn, h1.lm, h1.cap, by have := h.tot; omega, h.pr, fun x hx => by have := h.num x hx; omega, h1.cnt, hus, h1.cl⟩
abbrev RnQ := PS × PX × Lg
structure Sh (nm nm2 : RdM.Bs) (i : Nat) (v v2 : Value) (x y : RnQ) (s : DskM.St) : Prop where
  r : Rn nm i x.2.2 s
  r2 : Rn nm2 i y.2.2 s
  m : MS x.1 x.2.1 (st4 v) x.2.2
  m2 : MS y.1 y.2.1 (st4 v2) y.2.2
  us : DskM.used s.fs + 48 * x.2.2.pend.length + 48 * y.2.2.pend.length ≤ 84 * i
abbrev ShT := RnQ × RnQ × DskM.St
theorem own_un7 {σ : World} {r1 r2 r3 r4 r5 r6 r7 : Res} {F : List Res} {w : World} (h : SL.Own σ (star r1 (star r2 (star r3 (star r4 (star r5 (star r6 r7))))) :: F) w) : SL.Own σ (r1 :: r2 :: r3 :: r4 :: r5 :: r6 :: r7 :: F) w :=
  unstar_at [r1, r2, r3, r4, r5] (unstar_at [r1, r2, r3, r4] (unstar_at [r1, r2, r3] (unstar_at [r1, r2] (unstar_at [r1] h.unstar))))
theorem own_st7 {σ : World} {r1 r2 r3 r4 r5 r6 r7 : Res} {F : List Res} {w : World} (h : SL.Own σ (r1 :: r2 :: r3 :: r4 :: r5 :: r6 :: r7 :: F) w) : SL.Own σ (star r1 (star r2 (star r3 (star r4 (star r5 (star r6 r7))))) :: F) w :=
  (star_at [r1] (star_at [r1, r2] (star_at [r1, r2, r3] (star_at [r1, r2, r3, r4] (star_at [r1, r2, r3, r4, r5] h))))).star
def shR (nm nm2 : RdM.Bs) (d b b2 i : Nat) (v v2 : Value) : Res := fun mem => ∃ x : ShT, Sh nm nm2 i v v2 x.1 x.2.1 x.2.2 ∧ star (dkR d x.2.2) (star (lgR b d nm x.1.2.2) (star (poolS x.1.1) (star (poolX x.1.2.1) (star (lgR b2 d nm2 x.2.1.2.2) (star (poolS x.2.1.1) (poolX x.2.1.2.1)))))) mem
abbrev ShI (nm nm2 : RdM.Bs) (i : Nat) (v v2 : Value) := {x : ShT // Sh nm nm2 i v v2 x.1 x.2.1 x.2.2}
def cS (nm nm2 : RdM.Bs) (d b b2 : Nat) (x : ShT) : RL := [(601, dkR d x.2.2), (611, lgR b d nm x.1.2.2), (605, poolS x.1.1), (606, poolX x.1.2.1), (711, lgR b2 d nm2 x.2.1.2.2), (705, poolS x.2.1.1), (706, poolX x.2.1.2.1)]
theorem sh_opens {σ : World} (nm nm2 : RdM.Bs) (d b b2 i : Nat) (v v2 : Value) : Opens σ [shR nm nm2 d b b2 i v v2] (ShI nm nm2 i v v2) (fun x => rs (cS nm nm2 d b b2 x.1)) := fun F w h => by
  obtain ⟨x, h1⟩ := own_ex h
  obtain ⟨h2, h3⟩ := own_and h1
  exact ⟨⟨x, h2⟩, own_un7 h3⟩
theorem sh_closes {σ : World} {nm nm2 : RdM.Bs} {d b b2 i : Nat} {v v2 : Value} (x : ShT) (h : Sh nm nm2 i v v2 x.1 x.2.1 x.2.2) : Closes σ (rs (cS nm nm2 d b b2 x)) [shR nm nm2 d b b2 i v v2] := fun F w hw => (own_st7 hw).imp fun mem hm => ⟨x, h, hm⟩
theorem sh_mono {σ : World} {nm nm2 : RdM.Bs} {d b b2 i : Nat} {v v2 : Value} : Closes σ [shR nm nm2 d b b2 i v v2] [shR nm nm2 d b b2 (i + 1) v v2] := fun F w hw => by
  obtain ⟨x, h⟩ := sh_opens nm nm2 d b b2 i v v2 F w hw
  exact sh_closes x.1 ⟨x.2.r.mono, x.2.r2.mono, x.2.m, x.2.m2, by have := x.2.us; omega⟩ F w h
theorem Sh.swap {nm nm2 : RdM.Bs} {i : Nat} {v v2 : Value} {x y : RnQ} {s : DskM.St} (h : Sh nm nm2 i v v2 x y s) : Sh nm2 nm i v2 v y x s := ⟨h.r2, h.r, h.m2, h.m, by have := h.us; omega⟩
theorem pm_sw {α : Type} (a b c d e f g : α) : [a, b, c, d, e, f, g].Perm [a, e, f, g, b, c, d] := List.Perm.cons a (List.perm_append_comm (l₁ := [b, c, d]) (l₂ := [e, f, g]))
theorem sh_swap {σ : World} {nm nm2 : RdM.Bs} {d b b2 i : Nat} {v v2 : Value} : Closes σ [shR nm nm2 d b b2 i v v2] [shR nm2 nm d b2 b i v2 v] := fun F w hw => by
  obtain ⟨x, h⟩ := sh_opens nm nm2 d b b2 i v v2 F w hw
  exact Closes.pm (pm_sw _ _ _ _ _ _ _) (sh_closes (x.1.2.1, x.1.1, x.1.2.2) x.2.swap) F w h
theorem Opens.pm {σ : World} {A A' : List Res} {ι : Type} {B : ι → List Res} (hc : Closes σ A' A) (h : Opens σ A ι B) : Opens σ A' ι B := fun F w hw => h F w (hc F w hw)
theorem doS_c {σ : World} {F : List Res} {b b2 d i : Nat} {nm nm2 : RdM.Bs} {v v2 : Value} (lab : Nat) (x : OpL) (hx : (0 ≤ x.k ∧ x.k ≤ 255) ∧ (0 ≤ x.z ∧ x.z ≤ 255) ∧ (0 ≤ x.n ∧ x.n ≤ 255)) (hi : i ≤ 90) (hok : DskM.nameB nm = true ∧ nm.length ≤ 48) (hne : nm2.length ≠ nm.length) :
    FnT Try.prog σ F 27 [.pointer (some ⟨d, 0, none⟩), .pointer (some ⟨b, 0, none⟩), st4 v, .agg (encOpL x).toArray, .string (str nm)] [(lab, shR nm nm2 d b b2 i v v2)] (fun u ρ => ∃ b' v', u = .tuple #[.pointer (some ⟨b', 0, none⟩), st4 v', .bool true, .bool false] ∧ ρ = [(lab, shR nm nm2 d b' b2 (i + 1) v' v2)]) :=
  fn_oc (ι := ShI nm nm2 i v v2) (sh_opens nm nm2 d b b2 i v v2) rfl (R := fun y => cS nm nm2 d b b2 y.1) (fun y => rfl) (fun y => fn_fr [(601, dkR d y.1.2.2), (611, lgR b d nm y.1.1.2.2), (605, poolS y.1.1.1), (606, poolX y.1.1.2.1)] [(711, lgR b2 d nm2 y.1.2.1.2.2), (705, poolS y.1.2.1.1), (706, poolX y.1.2.1.2.1)] (do_runF x hx y.2.r hi y.2.m hok))
    fun y u ρ ⟨ρ0, ⟨b', v', P1, P2, L, s, hR, hM, ⟨hu, hsg⟩, h1, h2⟩, h3⟩ => ⟨_, ⟨b', v', h1, rfl⟩, by
      rw [h3, h2]
      have hus := y.2.us
      exact sh_closes ((P1, P2, L), y.1.2.1, s) ⟨hR, y.2.r2.other hR (hsg nm2 hne) (by show DskM.used s.fs + 48 * y.1.2.1.2.2.pend.length ≤ 84 * (i + 1); omega), hM, y.2.m2, by dsimp only at hu ⊢; omega⟩⟩
theorem doS2_c {σ : World} {F : List Res} {b b2 d i : Nat} {nm nm2 : RdM.Bs} {v v2 : Value} (lab : Nat) (x : OpL) (hx : (0 ≤ x.k ∧ x.k ≤ 255) ∧ (0 ≤ x.z ∧ x.z ≤ 255) ∧ (0 ≤ x.n ∧ x.n ≤ 255)) (hi : i ≤ 90) (hok : DskM.nameB nm2 = true ∧ nm2.length ≤ 48) (hne : nm.length ≠ nm2.length) :
    FnT Try.prog σ F 27 [.pointer (some ⟨d, 0, none⟩), .pointer (some ⟨b2, 0, none⟩), st4 v2, .agg (encOpL x).toArray, .string (str nm2)] [(lab, shR nm nm2 d b b2 i v v2)] (fun u ρ => ∃ b' v', u = .tuple #[.pointer (some ⟨b', 0, none⟩), st4 v', .bool true, .bool false] ∧ ρ = [(lab, shR nm nm2 d b b' (i + 1) v v')]) :=
  fn_oc (ι := Unit) (B := fun _ => [shR nm2 nm d b2 b i v2 v]) (fun F w h => ⟨(), sh_swap F w h⟩) rfl (R := fun _ => [(lab, shR nm2 nm d b2 b i v2 v)]) (fun _ => rfl) (fun _ => doS_c lab x hx hi hok hne)
    fun _ u ρ ⟨b', v', h1, h2⟩ => ⟨_, ⟨b', v', h1, rfl⟩, by rw [h2]; exact sh_swap⟩
theorem agreesS_c {σ : World} {F : List Res} {b b2 d i : Nat} {nm nm2 : RdM.Bs} {v v2 : Value} (lab : Nat) (hi : i ≤ 90) (hnm : nm.length ≤ 48) :
    FnT Try.prog σ F 31 [st4 v, .pointer (some ⟨b, 0, none⟩), .string (str nm)] [(lab, shR nm nm2 d b b2 i v v2)] (fun u ρ => u = .bool true ∧ ρ = [(lab, shR nm nm2 d b b2 i v v2)]) :=
  fn_oc (ι := ShI nm nm2 i v v2) (sh_opens nm nm2 d b b2 i v v2) rfl (R := fun y => cS nm nm2 d b b2 y.1) (fun y => rfl) (fun y => fn_pm (fn_fr [(611, lgR b d nm y.1.1.2.2), (605, poolS y.1.1.1), (606, poolX y.1.1.2.1)] [(711, lgR b2 d nm2 y.1.2.1.2.2), (705, poolS y.1.2.1.1), (706, poolX y.1.2.1.2.1), (601, dkR d y.1.2.2)] (agrees_c 611 (y.2.r.sm (by omega)) y.2.m hnm)) (List.perm_append_comm (l₁ := [dkR d y.1.2.2]) (l₂ := [lgR b d nm y.1.1.2.2, poolS y.1.1.1, poolX y.1.1.2.1, lgR b2 d nm2 y.1.2.1.2.2, poolS y.1.2.1.1, poolX y.1.2.1.2.1])))
    fun y u ρ ⟨ρ0, h1, h2⟩ => ⟨_, ⟨h1.1, rfl⟩, by
      rw [h2, h1.2]
      exact Closes.pm (List.perm_append_comm (l₁ := [lgR b d nm y.1.1.2.2, poolS y.1.1.1, poolX y.1.1.2.1, lgR b2 d nm2 y.1.2.1.2.2, poolS y.1.2.1.1, poolX y.1.2.1.2.1]) (l₂ := [dkR d y.1.2.2])) (sh_closes y.1 y.2)⟩
theorem agreesS2_c {σ : World} {F : List Res} {b b2 d i : Nat} {nm nm2 : RdM.Bs} {v v2 : Value} (lab : Nat) (hi : i ≤ 90) (hnm : nm2.length ≤ 48) :
    FnT Try.prog σ F 31 [st4 v2, .pointer (some ⟨b2, 0, none⟩), .string (str nm2)] [(lab, shR nm nm2 d b b2 i v v2)] (fun u ρ => u = .bool true ∧ ρ = [(lab, shR nm nm2 d b b2 i v v2)]) :=
  fn_oc (ι := Unit) (B := fun _ => [shR nm2 nm d b2 b i v2 v]) (fun F w h => ⟨(), sh_swap F w h⟩) rfl (R := fun _ => [(lab, shR nm2 nm d b2 b i v2 v)]) (fun _ => rfl) (fun _ => agreesS_c lab hi hnm)
    fun _ u ρ ⟨h1, h2⟩ => ⟨_, ⟨h1, rfl⟩, by rw [h2]; exact sh_swap⟩
theorem name_log2 : DskM.nameB [108, 111, 103, 46, 48, 48, 48, 48, 48, 49] = true ∧ ([108, 111, 103, 46, 48, 48, 48, 48, 48, 49] : RdM.Bs).length ≤ 48 := by decide
end Go.Proofs.Ytcbigmgakdanjaa
namespace Go.Proofs.Ytcbigmgakdanjaa
open Go Go.SL Go.RowKit Go.RdM Go.WalM
set_option linter.unusedVariables false
set_option linter.unusedSimpArgs false
theorem tA41xo : aggB Try.prog 41 3 = true := by kernel_rfl
theorem tA52xo : aggB Try.prog 52 4 = true := by kernel_rfl
theorem tMixxo : Try.prog.follows .mixedOrders = true := by kernel_rfl
theorem tN52xo : (Try.prog.info? 52).bind (·.zero) = some (Value.agg #[Value.slice none 0 0, Value.int .i64 0, Value.slice none 0 0, Value.bool false]) := by kernel_rfl
theorem tS49xo : sliceB Try.prog 49 41 3 = true := by kernel_rfl
theorem tZ52xo : (Try.prog.info? 52).map (·.size) = some 4 := by kernel_rfl
abbrev nmA : RdM.Bs := [108, 111, 103]
abbrev nmB : RdM.Bs := [108, 111, 103, 46, 48, 48, 48, 48, 48, 49]
def vN : Value := .agg #[.slice none 0 0, .int .i64 1, .slice none 0 0, .bool true]
theorem sh_new {σ : World} {d b b2 : Nat} : Closes σ (rs (cS nmA nmB d b b2 (([], [], newL), ([], [], newL), newS 262144))) [shR nmA nmB d b b2 (2 * 0) vN vN] := sh_closes _ ⟨rn_new _, rn_new _, ms_begin, ms_begin, by simp [newS, newL, DskM.used]⟩
set_option maxHeartbeats 2000000 in
set_option maxRecDepth 100000 in
theorem lawShares_any {σ : World} {F : List Res} {a a1 : Option Addr} {c c1 : Nat} {l l1 : List OpL} (h : Sl σ F encOpL 3 (.slice a l.length c) l) (hb : ∀ p ∈ l, (0 ≤ p.k ∧ p.k ≤ 255) ∧ (0 ≤ p.z ∧ p.z ≤ 255) ∧ (0 ≤ p.n ∧ p.n ≤ 255)) (h1 : Sl σ F encOpL 3 (.slice a1 l1.length c1) l1) (hb1 : ∀ p ∈ l1, (0 ≤ p.k ∧ p.k ≤ 255) ∧ (0 ≤ p.z ∧ p.z ≤ 255) ∧ (0 ≤ p.n ∧ p.n ≤ 255)) : FnT Try.prog σ F 7 [.slice a l.length c, .slice a1 l1.length c1] [] (fun u ρ => u = .bool true ∧ ρ = []) := by
  refine fn_of 113 Try.func7 rfl Try.ntmps7 rfl ?_
  have hle := h.i64
  have hle1 := h1.i64
  refine w_seq (w_region (za rfl (wl_nil (st_tn (w_seq (w_region (wl_op [] rfl rfl rfl rfl (op_fn Try.func12 rfl rfl rfl (made_c 601 611 262144 nmA (by decide) name_log)) ?_)))))))
  rintro _ _ ⟨d15, b15, rfl, rfl⟩
  refine zm rfl (zd rfl (op_extract rfl rfl) (zd rfl (op_extract rfl rfl) (za rfl (za rfl (wl_nil (st_tn (w_seq (w_seq (w_region (zd rfl (op_fn Try.func13 rfl rfl rfl (known_any)) (zd rfl (op_not_t rfl) (zm rfl (wl_wanted_det rfl rfl rfl rfl rfl rfl rfl (op_move rfl) ?_)))))))))))))
  refine wl_wanted_det rfl rfl rfl rfl rfl rfl rfl (op_val (v' := .bool false) (by rfl) (op_eqPtr rfl Try.underlying23)) ?_
  refine zd rfl (op_pick_f rfl rfl) (zm rfl (wl_wanted_det rfl rfl rfl rfl rfl rfl rfl (op_move rfl) (wl_wanted_det rfl rfl rfl rfl rfl rfl rfl (op_lenT rfl tS49xo (Sl.ent (by first | exact Sl.app (by assumption) _ | exact Sl.app (Sl.app (by assumption) _) _))) ?_)))
  refine wl_wanted_det rfl rfl rfl rfl rfl rfl rfl (op_gtr rfl rfl) (zd rfl (op_pick_f rfl rfl) (zm rfl (wl_gsplit (t := 29) rfl (fun hg29 => ?_) (fun hg29 => ?_))))
  · -- 29 is True
    refine wl_unwanted rfl rfl rfl rfl rfl rfl rfl rfl (wl_unwanted rfl rfl rfl rfl rfl rfl rfl rfl (wl_unwanted rfl rfl rfl rfl rfl rfl rfl rfl (zd rfl (op_pick_t rfl rfl) (wl_nil (st_tn (w_cond_t (rfl) ?_))))))
    refine w_seq (w_region (zd rfl (op_fn Try.func13 rfl rfl rfl (known_any)) (zm rfl (wl_wanted_det rfl rfl rfl rfl rfl rfl rfl (op_move rfl) (wl_wanted_det rfl rfl rfl rfl rfl rfl rfl (op_val (v' := .bool true) (by rfl) (op_nePtr rfl Try.underlying23)) ?_)))))
    refine zd rfl (op_pick_t rfl rfl) (za rfl (wl_nil (st_tn (w_ret (st_tr (st_ret (vs := [_]) [] Try.results7 ⟨rfl, trivial⟩ rfl ?_))))))
    refine ⟨_, rfl, ?_⟩
    exact ⟨rfl, rfl⟩
  · -- 29 is False
    refine wl_wanted_det rfl rfl rfl rfl rfl rfl rfl (op_move rfl) (wl_wanted_det rfl rfl rfl rfl rfl rfl rfl (op_lenT rfl tS49xo (Sl.ent (by first | exact Sl.app (by assumption) _ | exact Sl.app (Sl.app (by assumption) _) _))) ?_)
    refine wl_wanted_det rfl rfl rfl rfl rfl rfl rfl (op_gtr rfl rfl) (zd rfl (op_pick_f rfl rfl) (wl_nil (st_tn (w_cond_d rfl (fun hc33 => ?_) (fun hc33 => ?_)))))
    · -- c33.t
      refine w_seq (w_region (zd rfl (op_fn Try.func13 rfl rfl rfl (known_any)) (zm rfl (wl_wanted_det rfl rfl rfl rfl rfl rfl rfl (op_move rfl) (wl_wanted_det rfl rfl rfl rfl rfl rfl rfl (op_val (v' := .bool true) (by rfl) (op_nePtr rfl Try.underlying23)) ?_)))))
      refine zd rfl (op_pick_t rfl rfl) (za rfl (wl_nil (st_tn (w_ret (st_tr (st_ret (vs := [_]) [] Try.results7 ⟨rfl, trivial⟩ rfl ?_))))))
      refine ⟨_, rfl, ?_⟩
      exact ⟨rfl, rfl⟩
    · -- c33.f
      refine w_skip (st_tn (w_seq (w_region (zm rfl (wl_op [601] rfl rfl rfl rfl (op_fn Try.func16 rfl rfl rfl (lopen_c (s := newS 262144) (first := 1) (segs := []) 601 711 (nm := nmB) name_log2 rfl (good_new (by decide)) oks_nil trivial (by simp [allR]))) ?_)))))
      rintro _ _ ⟨b41, rfl, rfl⟩
      refine zm rfl (zd rfl (op_extract rfl rfl) (zd rfl (op_extract rfl rfl) (za rfl (za rfl (wl_nil (st_tn (w_seq (w_seq (w_region (zm rfl (zd rfl (op_val (v' := .bool false) (by rfl) (op_neq rfl rfl)) ?_)))))))))))
      refine wl_nil (st_tn (w_cond_f (rfl) ?_))
      refine w_skip (st_tn (w_seq (w_region (zd rfl (op_fn Try.func26 rfl rfl rfl mbegin_any) (zd rfl (op_fn Try.func26 rfl rfl rfl mbegin_any) (wl_op [] rfl rfl rfl rfl (op_alloc (l := 9) tN52xo) ?_))))))
      rintro _ _ ⟨b9, rfl, rfl⟩
      refine wl_op [] rfl rfl rfl rfl (op_alloc (l := 10) tN52xo) ?_
      rintro _ _ ⟨b10, rfl, rfl⟩
      refine wl_op0 [9] rfl rfl rfl (op_store rfl rfl tZ52xo (by rfl) (by rfl) (by exact Nat.le_of_ble_eq_true rfl)) ?_
      rintro _ _ ⟨rfl, rfl⟩
      refine wl_op0 [10] rfl rfl rfl (op_store rfl rfl tZ52xo (by rfl) (by rfl) (by exact Nat.le_of_ble_eq_true rfl)) ?_
      rintro _ _ ⟨rfl, rfl⟩
      refine wl_nil (st_tn (w_seq (w_seq (w_emp 605 poolS_nil ?_))))
      refine w_emp 606 poolX_nil ?_
      refine w_emp 705 poolS_nil ?_
      refine w_emp 706 poolX_nil ?_
      refine w_cls [601, 611, 605, 606, 711, 705, 706] (C := [(601, shR nmA nmB d15 b15 b41 (2 * 0) vN vN)]) (sh_new) rfl ?_
      refine w_region (za rfl (wl_nil (st_tn (w_block ?_))))
      refine w_loopQ (X := Nat × Nat × Nat × ValX × ValX) (fun z => z.1 ≤ max l.length l1.length) (fun z => [(11, .int .i64 (z.1)), (6, .pointer (some ⟨(z.2.1), 0, none⟩)), (7, .pointer (some ⟨(z.2.2.1), 0, none⟩))]) (fun z => [(601, shR nmA nmB d15 (z.2.1) (z.2.2.1) (2 * (z.1)) (z.2.2.2.1) (z.2.2.2.2)), (9, cel b9 (st4 (z.2.2.2.1)).cells.toList 52), (10, cel b10 (st4 (z.2.2.2.2)).cells.toList 52)]) (fun z => max l.length l1.length - z.1) ((0, b15, b41, vN, vN)) [(0, _), (1, _), (5, _), (9, _), (10, _)] [] [601, 9, 10] rfl (rfl) (.cons rfl (.cons rfl (.cons rfl (.nil _)))) (.cons rfl (.cons rfl (.cons rfl (.cons rfl (.cons rfl (.nil _)))))) (by
          try dsimp only
          exact Nat.zero_le _) ?_
      rintro ⟨i, b6, b7, v, v2⟩ hi
      refine w_norm2 (by dsimp only [List.cons_append, List.nil_append]) (by dsimp only [List.cons_append, List.nil_append]) ?_
      try dsimp only at hi ⊢
      refine w_seq (w_seq (w_region (zm rfl (zm rfl (zd rfl (op_lenT rfl tS49xo (Sl.ent (by first | exact Sl.app (by assumption) _ | exact Sl.app (Sl.app (by assumption) _) _))) ?_)))))
      refine zm rfl (zd rfl (op_lenT rfl tS49xo (Sl.ent (by first | exact Sl.app (by assumption) _ | exact Sl.app (Sl.app (by assumption) _) _))) ?_)
      refine zd rfl (op_max rfl rfl) (zd rfl (op_lss rfl rfl) (wl_nil (st_tn (w_cond_d rfl (fun hc54 => ?_) (fun hc54 => ?_)))))
      · -- c54.t
        refine w_skip (st_tn (w_seq (w_block (w_seq (w_region (za rfl (za rfl (wl_nil (st_tn (w_seq (w_seq (w_region (zm rfl ?_)))))))))))))
        refine zm rfl (zd rfl (op_lenT rfl tS49xo (Sl.ent (by first | exact Sl.app (by assumption) _ | exact Sl.app (Sl.app (by assumption) _) _))) ?_)
        refine zd rfl (op_lss rfl rfl) (wl_nil (st_tn (w_cond_d rfl (fun hc60 => ?_) (fun hc60 => ?_))))
        · -- c60.t
          obtain ⟨x, hx⟩ := getE (l := l) (i := i) (by omega)
          have hxb := hb x (List.mem_of_getElem? hx)
          refine w_drawW (fun β => [⟨62, [], [], [], noW (_), false, [], []⟩, ⟨63, [], [], [], noW (_), false, [], [6]⟩, ⟨64, [], [], [], noW (_), false, [14], []⟩, ⟨65, [], [], [], noW (_), false, [], []⟩, ⟨66, [], [], [], noW (_), false, [], []⟩, ⟨67, [3, 4], [], [], noW (_), false, [], []⟩, ⟨68, [5], [], [], noW (_), false, [], []⟩, ⟨69, [0, 1, 2, 6], [], [(601, _)], fun w => DetW _ _, false, [], []⟩, ⟨61, [7], [], [], noW (_), false, [], []⟩, ⟨70, [8], [], [], noW (_), false, [], []⟩, ⟨71, [8], [], [], noW (_), false, [], []⟩, ⟨72, [8], [], [], noW (_), false, [], []⟩, ⟨73, [8], [], [], noW (_), false, [], []⟩, ⟨6, [9], [], [], noW (_), false, [], []⟩, ⟨127, [10], [], [(9, _)], noW (_), false, [], []⟩, ⟨12, [11], [], [], noW (_), false, [], []⟩]) [601, 9] [5, 9, 0, 11] [⟨62, [], [], false, [], []⟩, ⟨63, [], [], false, [], [6]⟩, ⟨64, [], [], false, [14], []⟩, ⟨65, [], [], false, [], []⟩, ⟨66, [], [], false, [], []⟩, ⟨67, [3, 4], [], false, [], []⟩, ⟨68, [5], [], false, [], []⟩, ⟨69, [0, 1, 2, 6], [], false, [], []⟩, ⟨61, [7], [], false, [], []⟩, ⟨70, [8], [], false, [], []⟩, ⟨71, [8], [], false, [], []⟩, ⟨72, [8], [], false, [], []⟩, ⟨73, [8], [], false, [], []⟩, ⟨6, [9], [], false, [], []⟩, ⟨127, [10], [], false, [], []⟩, ⟨12, [11], [], false, [], []⟩] [[], [], [], [], [], [], [], [], [7], [7], [7], [7], [7], [7], [7], [7]] [[], [], [], [], [], [], [], [(601, _)], [], [], [], [], [], [], [(9, _)], []] tMixxo (fun _ => by rfl) (fun _ => by rfl) (by kernel_rfl) (by kernel_rfl) (by rfl) (by rfl)
              (fun β => ⟨.p rfl (by intro X; exact op_move rfl),
              ⟨.p rfl (by intro X; exact op_move rfl),
              ⟨.p rfl (by intro X; exact op_loadA rfl tA52xo (Ent.lab (l := 9) rfl (says_cel 0)) (Nat.le_of_ble_eq_true rfl)),
              ⟨.p rfl (by intro X; exact op_move rfl),
              ⟨.p rfl (by intro X; exact op_move rfl),
              ⟨.p rfl (by intro X; rintro _ _ ⟨rfl, rfl⟩ _ _ ⟨rfl, rfl⟩; exact op_idx rfl rfl tS49xo (Sl.ent (by first | exact Sl.app (by assumption) _ | exact Sl.app (Sl.app (by assumption) _) _)) (by omega)),
              ⟨.p rfl (by intro X; rintro _ _ ⟨rfl, rfl⟩; exact op_ldxA rfl tA41xo (by first | exact Sl.app (by assumption) _ | exact Sl.app (Sl.app (by assumption) _) _) (by assumption) (by rfl) (by rfl)),
              ⟨.px rfl (by intro X; rintro _ _ ⟨rfl, rfl⟩ _ _ ⟨rfl, rfl⟩ _ _ ⟨rfl, rfl⟩ _ _ ⟨rfl, rfl⟩; refine OpT.mono (op_fn Try.func27 rfl rfl rfl (doS_c 601 x hxb (by omega) name_log (by decide))) ?_; rintro _ _ ⟨b69, v69, rfl, rfl⟩; obtain ⟨w, rfl, rfl⟩ : ∃ w : Wt, w.b = b69 ∧ w.v = v69 := ⟨{ b := b69, v := v69 }, rfl, rfl⟩; exact ⟨w, rfl, rfl⟩),
              ⟨.p rfl (by intro X; rintro _ _ ⟨rfl, rfl⟩; exact op_move rfl),
              ⟨.p rfl (by intro X; rintro _ _ ⟨rfl, rfl⟩; exact op_extract rfl rfl),
              ⟨.p rfl (by intro X; rintro _ _ ⟨rfl, rfl⟩; exact op_extract rfl rfl),
              ⟨.p rfl (by intro X; rintro _ _ ⟨rfl, rfl⟩; exact op_extract rfl rfl),
              ⟨.p rfl (by intro X; rintro _ _ ⟨rfl, rfl⟩; exact op_extract rfl rfl),
              ⟨.p rfl (by intro X; rintro _ _ ⟨rfl, rfl⟩; exact op_assign rfl),
              ⟨.p rfl (by intro X; rintro _ _ ⟨rfl, rfl⟩; exact op_store rfl rfl tZ52xo (by rfl) (by rfl) (by exact Nat.le_of_ble_eq_true rfl)) (hu := by exact .inr fun _ _ h => h.1),
              ⟨.p rfl (by intro X; rintro _ _ ⟨rfl, rfl⟩; exact op_assign rfl),
              trivial⟩⟩⟩⟩⟩⟩⟩⟩⟩⟩⟩⟩⟩⟩⟩⟩)
              (fun β β' => ⟨fun _ => by rfl, ⟨fun _ => by rfl, ⟨fun _ => by rfl, ⟨fun _ => by rfl, ⟨fun _ => by rfl, ⟨fun _ => by rfl, ⟨fun _ => by rfl, ⟨fun _ => by rfl, ⟨fun h => by first | rfl | (simp only [h 7 (by decide)]), ⟨fun h => by first | rfl | (simp only [h 7 (by decide)]), ⟨fun h => by first | rfl | (simp only [h 7 (by decide)]), ⟨fun h => by first | rfl | (simp only [h 7 (by decide)]), ⟨fun h => by first | rfl | (simp only [h 7 (by decide)]), ⟨fun h => by first | rfl | (simp only [h 7 (by decide)]), ⟨fun h => by first | rfl | (simp only [h 7 (by decide)]), ⟨fun h => by first | rfl | (simp only [h 7 (by decide)]), trivial⟩⟩⟩⟩⟩⟩⟩⟩⟩⟩⟩⟩⟩⟩⟩⟩) ?_
          intro β
          rintro _ _ ⟨rfl, rfl⟩ _ _ ⟨rfl, rfl⟩ _ _ ⟨rfl, rfl⟩ _ _ ⟨rfl, rfl⟩ _ _ ⟨rfl, rfl⟩ _ _ ⟨rfl, rfl⟩ _ _ ⟨rfl, rfl⟩ _ _ ⟨rfl, rfl⟩ _ _ ⟨rfl, rfl⟩ _ _ ⟨rfl, rfl⟩ _ _ ⟨rfl, rfl⟩ _ _ ⟨rfl, rfl⟩ _ _ ⟨rfl, rfl⟩ _ _ ⟨rfl, rfl⟩ _ _ ⟨rfl, rfl⟩ _ _ ⟨rfl, rfl⟩
          generalize (β 7).b = b69
          generalize (β 7).v = v69
          refine wl_norm (e' := [(0, _), (1, _), (5, _), (6, _), (7, _), (9, _), (10, _), (11, _), (12, _), (73, _)]) (.cons rfl (.cons rfl (.cons rfl (.cons rfl (.cons rfl (.cons rfl (.cons rfl (.cons rfl (.cons rfl (.cons rfl (.nil _))))))))))) (by dsimp only [cond_false, cond_true, List.nil_append, List.cons_append]) ?_
          refine za rfl (wl_nil (st_tn (w_seq (w_seq (w_region (zm rfl (zd rfl (op_not_t rfl) (zm rfl (wl_wanted_det rfl rfl rfl rfl rfl rfl rfl (op_val (v' := .bool false) (by rfl) (op_move rfl)) ?_)))))))))
          refine zd rfl (op_pick_f rfl rfl) (wl_nil (st_tn (w_cond_f (rfl) ?_)))
          refine w_skip (st_tn (w_seq (w_seq (w_region (zm rfl (zm rfl (zd rfl (op_lenT rfl tS49xo (Sl.ent (by first | exact Sl.app (by assumption) _ | exact Sl.app (Sl.app (by assumption) _) _))) ?_)))))))
          refine zd rfl (op_lss rfl rfl) (wl_nil (st_tn (w_cond_d rfl (fun hc82 => ?_) (fun hc82 => ?_))))
          · -- c82.t
            obtain ⟨x, hx⟩ := getE (l := l1) (i := i) (by omega)
            have hxb := hb1 x (List.mem_of_getElem? hx)
            refine w_drawW (fun β => [⟨84, [], [], [], noW (_), false, [], []⟩, ⟨85, [], [], [], noW (_), false, [], [7]⟩, ⟨86, [], [], [], noW (_), false, [14], []⟩, ⟨87, [], [], [], noW (_), false, [], []⟩, ⟨88, [], [], [], noW (_), false, [], []⟩, ⟨89, [3, 4], [], [], noW (_), false, [], []⟩, ⟨90, [5], [], [], noW (_), false, [], []⟩, ⟨91, [0, 1, 2, 6], [], [(601, _)], fun w => DetW _ _, false, [], []⟩, ⟨83, [7], [], [], noW (_), false, [], []⟩, ⟨92, [8], [], [], noW (_), false, [], []⟩, ⟨93, [8], [], [], noW (_), false, [], []⟩, ⟨94, [8], [], [], noW (_), false, [], []⟩, ⟨95, [8], [], [], noW (_), false, [], []⟩, ⟨7, [9], [], [], noW (_), false, [], []⟩, ⟨127, [10], [], [(10, _)], noW (_), false, [], []⟩, ⟨12, [11], [], [], noW (_), false, [], []⟩]) [601, 10] [5, 10, 1, 11] [⟨84, [], [], false, [], []⟩, ⟨85, [], [], false, [], [7]⟩, ⟨86, [], [], false, [14], []⟩, ⟨87, [], [], false, [], []⟩, ⟨88, [], [], false, [], []⟩, ⟨89, [3, 4], [], false, [], []⟩, ⟨90, [5], [], false, [], []⟩, ⟨91, [0, 1, 2, 6], [], false, [], []⟩, ⟨83, [7], [], false, [], []⟩, ⟨92, [8], [], false, [], []⟩, ⟨93, [8], [], false, [], []⟩, ⟨94, [8], [], false, [], []⟩, ⟨95, [8], [], false, [], []⟩, ⟨7, [9], [], false, [], []⟩, ⟨127, [10], [], false, [], []⟩, ⟨12, [11], [], false, [], []⟩] [[], [], [], [], [], [], [], [], [7], [7], [7], [7], [7], [7], [7], [7]] [[], [], [], [], [], [], [], [(601, _)], [], [], [], [], [], [], [(10, _)], []] tMixxo (fun _ => by rfl) (fun _ => by rfl) (by kernel_rfl) (by kernel_rfl) (by rfl) (by rfl)
                (fun β => ⟨.p rfl (by intro X; exact op_move rfl),
                ⟨.p rfl (by intro X; exact op_move rfl),
                ⟨.p rfl (by intro X; exact op_loadA rfl tA52xo (Ent.lab (l := 10) rfl (says_cel 0)) (Nat.le_of_ble_eq_true rfl)),
                ⟨.p rfl (by intro X; exact op_move rfl),
                ⟨.p rfl (by intro X; exact op_move rfl),
                ⟨.p rfl (by intro X; rintro _ _ ⟨rfl, rfl⟩ _ _ ⟨rfl, rfl⟩; exact op_idx rfl rfl tS49xo (Sl.ent (by first | exact Sl.app (by assumption) _ | exact Sl.app (Sl.app (by assumption) _) _)) (by omega)),
                ⟨.p rfl (by intro X; rintro _ _ ⟨rfl, rfl⟩; exact op_ldxA rfl tA41xo (by first | exact Sl.app (by assumption) _ | exact Sl.app (Sl.app (by assumption) _) _) (by assumption) (by rfl) (by rfl)),
                ⟨.px rfl (by intro X; rintro _ _ ⟨rfl, rfl⟩ _ _ ⟨rfl, rfl⟩ _ _ ⟨rfl, rfl⟩ _ _ ⟨rfl, rfl⟩; refine OpT.mono (op_fn Try.func27 rfl rfl rfl (doS2_c 601 x hxb (by omega) name_log2 (by decide))) ?_; rintro _ _ ⟨b91, v91, rfl, rfl⟩; obtain ⟨w, rfl, rfl⟩ : ∃ w : Wt, w.b = b91 ∧ w.v = v91 := ⟨{ b := b91, v := v91 }, rfl, rfl⟩; exact ⟨w, rfl, rfl⟩),
                ⟨.p rfl (by intro X; rintro _ _ ⟨rfl, rfl⟩; exact op_move rfl),
                ⟨.p rfl (by intro X; rintro _ _ ⟨rfl, rfl⟩; exact op_extract rfl rfl),
                ⟨.p rfl (by intro X; rintro _ _ ⟨rfl, rfl⟩; exact op_extract rfl rfl),
                ⟨.p rfl (by intro X; rintro _ _ ⟨rfl, rfl⟩; exact op_extract rfl rfl),
                ⟨.p rfl (by intro X; rintro _ _ ⟨rfl, rfl⟩; exact op_extract rfl rfl),
                ⟨.p rfl (by intro X; rintro _ _ ⟨rfl, rfl⟩; exact op_assign rfl),
                ⟨.p rfl (by intro X; rintro _ _ ⟨rfl, rfl⟩; exact op_store rfl rfl tZ52xo (by rfl) (by rfl) (by exact Nat.le_of_ble_eq_true rfl)) (hu := by exact .inr fun _ _ h => h.1),
                ⟨.p rfl (by intro X; rintro _ _ ⟨rfl, rfl⟩; exact op_assign rfl),
                trivial⟩⟩⟩⟩⟩⟩⟩⟩⟩⟩⟩⟩⟩⟩⟩⟩)
                (fun β β' => ⟨fun _ => by rfl, ⟨fun _ => by rfl, ⟨fun _ => by rfl, ⟨fun _ => by rfl, ⟨fun _ => by rfl, ⟨fun _ => by rfl, ⟨fun _ => by rfl, ⟨fun _ => by rfl, ⟨fun h => by first | rfl | (simp only [h 7 (by decide)]), ⟨fun h => by first | rfl | (simp only [h 7 (by decide)]), ⟨fun h => by first | rfl | (simp only [h 7 (by decide)]), ⟨fun h => by first | rfl | (simp only [h 7 (by decide)]), ⟨fun h => by first | rfl | (simp only [h 7 (by decide)]), ⟨fun h => by first | rfl | (simp only [h 7 (by decide)]), ⟨fun h => by first | rfl | (simp only [h 7 (by decide)]), ⟨fun h => by first | rfl | (simp only [h 7 (by decide)]), trivial⟩⟩⟩⟩⟩⟩⟩⟩⟩⟩⟩⟩⟩⟩⟩⟩) ?_
            intro β
            rintro _ _ ⟨rfl, rfl⟩ _ _ ⟨rfl, rfl⟩ _ _ ⟨rfl, rfl⟩ _ _ ⟨rfl, rfl⟩ _ _ ⟨rfl, rfl⟩ _ _ ⟨rfl, rfl⟩ _ _ ⟨rfl, rfl⟩ _ _ ⟨rfl, rfl⟩ _ _ ⟨rfl, rfl⟩ _ _ ⟨rfl, rfl⟩ _ _ ⟨rfl, rfl⟩ _ _ ⟨rfl, rfl⟩ _ _ ⟨rfl, rfl⟩ _ _ ⟨rfl, rfl⟩ _ _ ⟨rfl, rfl⟩ _ _ ⟨rfl, rfl⟩
            generalize (β 7).b = b91
            generalize (β 7).v = v91
            refine wl_norm (e' := [(0, _), (1, _), (5, _), (6, _), (7, _), (9, _), (10, _), (11, _), (12, _), (95, _)]) (.cons rfl (.cons rfl (.cons rfl (.cons rfl (.cons rfl (.cons rfl (.cons rfl (.cons rfl (.cons rfl (.cons rfl (.nil _))))))))))) (by dsimp only [cond_false, cond_true, List.nil_append, List.cons_append]) ?_
            refine za rfl (wl_nil (st_tn (w_seq (w_region (zm rfl (zd rfl (op_not_t rfl) (zm rfl (wl_wanted_det rfl rfl rfl rfl rfl rfl rfl (op_val (v' := .bool false) (by rfl) (op_move rfl)) ?_))))))))
            refine zd rfl (op_pick_f rfl rfl) (zm rfl (wl_wanted_det rfl rfl rfl rfl rfl rfl rfl (op_loadA rfl tA52xo (Ent.lab (l := 9) rfl (says_cel 0)) (Nat.le_of_ble_eq_true rfl)) (wl_wanted_det rfl rfl rfl rfl rfl rfl rfl (op_move rfl) (wl_wanted [601] rfl rfl rfl rfl rfl rfl rfl rfl (op_fn Try.func31 rfl rfl rfl (agreesS_c 601 (by omega) (by decide))) ?_))))
            rintro _ _ ⟨rfl, rfl⟩
            refine wl_wanted_det rfl rfl rfl rfl rfl rfl rfl (op_not_t rfl) (zd rfl (op_pick_f rfl rfl) (zm rfl (wl_wanted_det rfl rfl rfl rfl rfl rfl rfl (op_loadA rfl tA52xo (Ent.lab (l := 10) rfl (says_cel 0)) (Nat.le_of_ble_eq_true rfl)) (wl_wanted_det rfl rfl rfl rfl rfl rfl rfl (op_move rfl) (wl_wanted [601] rfl rfl rfl rfl rfl rfl rfl rfl (op_fn Try.func31 rfl rfl rfl (agreesS2_c 601 (by omega) (by decide))) ?_)))))
            rintro _ _ ⟨rfl, rfl⟩
            refine wl_wanted_det rfl rfl rfl rfl rfl rfl rfl (op_not_t rfl) (zd rfl (op_pick_f rfl rfl) (wl_nil (st_tn (w_cond_f (rfl) ?_))))
            refine w_skip (st_bn (st_tn (w_region (zm rfl (zd rfl (op_add' rfl rfl (by omega)) ?_)))))
            refine za rfl (wl_nil ?_)
            refine st_roundQ (x := (i, b6, b7, v, v2)) ((i + 1, b69, b91, v69, v91)) [601, 9, 10] rfl (rfl) (.cons rfl (.cons rfl (.cons rfl (.nil _)))) (.cons rfl (.cons rfl (.cons rfl (.cons rfl (.cons rfl (.nil _)))))) (by
                try dsimp only
                omega) (by
                try dsimp only
                omega)
          · -- c82.f
            refine w_cls [601] (C := [(601, shR nmA nmB d15 b69 b7 (2 * (i + 1)) v69 v2)]) sh_mono rfl ?_
            refine w_skip (st_tn (w_seq (w_region (zm rfl (zd rfl (op_not_t rfl) (zm rfl (wl_wanted_det rfl rfl rfl rfl rfl rfl rfl (op_val (v' := .bool false) (by rfl) (op_move rfl)) ?_)))))))
            refine zd rfl (op_pick_f rfl rfl) (zm rfl (wl_wanted_det rfl rfl rfl rfl rfl rfl rfl (op_loadA rfl tA52xo (Ent.lab (l := 9) rfl (says_cel 0)) (Nat.le_of_ble_eq_true rfl)) (wl_wanted_det rfl rfl rfl rfl rfl rfl rfl (op_move rfl) (wl_wanted [601] rfl rfl rfl rfl rfl rfl rfl rfl (op_fn Try.func31 rfl rfl rfl (agreesS_c 601 (by omega) (by decide))) ?_))))
            rintro _ _ ⟨rfl, rfl⟩
            refine wl_wanted_det rfl rfl rfl rfl rfl rfl rfl (op_not_t rfl) (zd rfl (op_pick_f rfl rfl) (zm rfl (wl_wanted_det rfl rfl rfl rfl rfl rfl rfl (op_loadA rfl tA52xo (Ent.lab (l := 10) rfl (says_cel 0)) (Nat.le_of_ble_eq_true rfl)) (wl_wanted_det rfl rfl rfl rfl rfl rfl rfl (op_move rfl) (wl_wanted [601] rfl rfl rfl rfl rfl rfl rfl rfl (op_fn Try.func31 rfl rfl rfl (agreesS2_c 601 (by omega) (by decide))) ?_)))))
            rintro _ _ ⟨rfl, rfl⟩
            refine wl_wanted_det rfl rfl rfl rfl rfl rfl rfl (op_not_t rfl) (zd rfl (op_pick_f rfl rfl) (wl_nil (st_tn (w_cond_f (rfl) ?_))))
            refine w_skip (st_bn (st_tn (w_region (zm rfl (zd rfl (op_add' rfl rfl (by omega)) ?_)))))
            refine za rfl (wl_nil ?_)
            refine st_roundQ (x := (i, b6, b7, v, v2)) ((i + 1, b69, b7, v69, v2)) [601, 9, 10] rfl (rfl) (.cons rfl (.cons rfl (.cons rfl (.nil _)))) (.cons rfl (.cons rfl (.cons rfl (.cons rfl (.cons rfl (.nil _)))))) (by
                try dsimp only
                omega) (by
                try dsimp only
                omega)
        · -- c60.f
          refine w_cls [601] (C := [(601, shR nmA nmB d15 b6 b7 (2 * i + 1) v v2)]) sh_mono rfl ?_
          refine w_skip (st_tn (w_seq (w_seq (w_region (zm rfl (zd rfl (op_not_t rfl) (zm rfl (wl_wanted_det rfl rfl rfl rfl rfl rfl rfl (op_val (v' := .bool false) (by rfl) (op_move rfl)) ?_))))))))
          refine zd rfl (op_pick_f rfl rfl) (wl_nil (st_tn (w_cond_f (rfl) ?_)))
          refine w_skip (st_tn (w_seq (w_seq (w_region (zm rfl (zm rfl (zd rfl (op_lenT rfl tS49xo (Sl.ent (by first | exact Sl.app (by assumption) _ | exact Sl.app (Sl.app (by assumption) _) _))) ?_)))))))
          refine zd rfl (op_lss rfl rfl) (wl_nil (st_tn (w_cond_d rfl (fun hc82 => ?_) (fun hc82 => ?_))))
          · -- c82.t
            obtain ⟨x, hx⟩ := getE (l := l1) (i := i) (by omega)
            have hxb := hb1 x (List.mem_of_getElem? hx)
            refine w_drawW (fun β => [⟨84, [], [], [], noW (_), false, [], []⟩, ⟨85, [], [], [], noW (_), false, [], [7]⟩, ⟨86, [], [], [], noW (_), false, [14], []⟩, ⟨87, [], [], [], noW (_), false, [], []⟩, ⟨88, [], [], [], noW (_), false, [], []⟩, ⟨89, [3, 4], [], [], noW (_), false, [], []⟩, ⟨90, [5], [], [], noW (_), false, [], []⟩, ⟨91, [0, 1, 2, 6], [], [(601, _)], fun w => DetW _ _, false, [], []⟩, ⟨83, [7], [], [], noW (_), false, [], []⟩, ⟨92, [8], [], [], noW (_), false, [], []⟩, ⟨93, [8], [], [], noW (_), false, [], []⟩, ⟨94, [8], [], [], noW (_), false, [], []⟩, ⟨95, [8], [], [], noW (_), false, [], []⟩, ⟨7, [9], [], [], noW (_), false, [], []⟩, ⟨127, [10], [], [(10, _)], noW (_), false, [], []⟩, ⟨12, [11], [], [], noW (_), false, [], []⟩]) [601, 10] [5, 10, 1, 11] [⟨84, [], [], false, [], []⟩, ⟨85, [], [], false, [], [7]⟩, ⟨86, [], [], false, [14], []⟩, ⟨87, [], [], false, [], []⟩, ⟨88, [], [], false, [], []⟩, ⟨89, [3, 4], [], false, [], []⟩, ⟨90, [5], [], false, [], []⟩, ⟨91, [0, 1, 2, 6], [], false, [], []⟩, ⟨83, [7], [], false, [], []⟩, ⟨92, [8], [], false, [], []⟩, ⟨93, [8], [], false, [], []⟩, ⟨94, [8], [], false, [], []⟩, ⟨95, [8], [], false, [], []⟩, ⟨7, [9], [], false, [], []⟩, ⟨127, [10], [], false, [], []⟩, ⟨12, [11], [], false, [], []⟩] [[], [], [], [], [], [], [], [], [7], [7], [7], [7], [7], [7], [7], [7]] [[], [], [], [], [], [], [], [(601, _)], [], [], [], [], [], [], [(10, _)], []] tMixxo (fun _ => by rfl) (fun _ => by rfl) (by kernel_rfl) (by kernel_rfl) (by rfl) (by rfl)
                (fun β => ⟨.p rfl (by intro X; exact op_move rfl),
                ⟨.p rfl (by intro X; exact op_move rfl),
                ⟨.p rfl (by intro X; exact op_loadA rfl tA52xo (Ent.lab (l := 10) rfl (says_cel 0)) (Nat.le_of_ble_eq_true rfl)),
                ⟨.p rfl (by intro X; exact op_move rfl),
                ⟨.p rfl (by intro X; exact op_move rfl),
                ⟨.p rfl (by intro X; rintro _ _ ⟨rfl, rfl⟩ _ _ ⟨rfl, rfl⟩; exact op_idx rfl rfl tS49xo (Sl.ent (by first | exact Sl.app (by assumption) _ | exact Sl.app (Sl.app (by assumption) _) _)) (by omega)),
                ⟨.p rfl (by intro X; rintro _ _ ⟨rfl, rfl⟩; exact op_ldxA rfl tA41xo (by first | exact Sl.app (by assumption) _ | exact Sl.app (Sl.app (by assumption) _) _) (by assumption) (by rfl) (by rfl)),
                ⟨.px rfl (by intro X; rintro _ _ ⟨rfl, rfl⟩ _ _ ⟨rfl, rfl⟩ _ _ ⟨rfl, rfl⟩ _ _ ⟨rfl, rfl⟩; refine OpT.mono (op_fn Try.func27 rfl rfl rfl (doS2_c 601 x hxb (by omega) name_log2 (by decide))) ?_; rintro _ _ ⟨b91, v91, rfl, rfl⟩; obtain ⟨w, rfl, rfl⟩ : ∃ w : Wt, w.b = b91 ∧ w.v = v91 := ⟨{ b := b91, v := v91 }, rfl, rfl⟩; exact ⟨w, rfl, rfl⟩),
                ⟨.p rfl (by intro X; rintro _ _ ⟨rfl, rfl⟩; exact op_move rfl),
                ⟨.p rfl (by intro X; rintro _ _ ⟨rfl, rfl⟩; exact op_extract rfl rfl),
                ⟨.p rfl (by intro X; rintro _ _ ⟨rfl, rfl⟩; exact op_extract rfl rfl),
                ⟨.p rfl (by intro X; rintro _ _ ⟨rfl, rfl⟩; exact op_extract rfl rfl),
                ⟨.p rfl (by intro X; rintro _ _ ⟨rfl, rfl⟩; exact op_extract rfl rfl),
                ⟨.p rfl (by intro X; rintro _ _ ⟨rfl, rfl⟩; exact op_assign rfl),
                ⟨.p rfl (by intro X; rintro _ _ ⟨rfl, rfl⟩; exact op_store rfl rfl tZ52xo (by rfl) (by rfl) (by exact Nat.le_of_ble_eq_true rfl)) (hu := by exact .inr fun _ _ h => h.1),
                ⟨.p rfl (by intro X; rintro _ _ ⟨rfl, rfl⟩; exact op_assign rfl),
                trivial⟩⟩⟩⟩⟩⟩⟩⟩⟩⟩⟩⟩⟩⟩⟩⟩)
                (fun β β' => ⟨fun _ => by rfl, ⟨fun _ => by rfl, ⟨fun _ => by rfl, ⟨fun _ => by rfl, ⟨fun _ => by rfl, ⟨fun _ => by rfl, ⟨fun _ => by rfl, ⟨fun _ => by rfl, ⟨fun h => by first | rfl | (simp only [h 7 (by decide)]), ⟨fun h => by first | rfl | (simp only [h 7 (by decide)]), ⟨fun h => by first | rfl | (simp only [h 7 (by decide)]), ⟨fun h => by first | rfl | (simp only [h 7 (by decide)]), ⟨fun h => by first | rfl | (simp only [h 7 (by decide)]), ⟨fun h => by first | rfl | (simp only [h 7 (by decide)]), ⟨fun h => by first | rfl | (simp only [h 7 (by decide)]), ⟨fun h => by first | rfl | (simp only [h 7 (by decide)]), trivial⟩⟩⟩⟩⟩⟩⟩⟩⟩⟩⟩⟩⟩⟩⟩⟩) ?_
            intro β
            rintro _ _ ⟨rfl, rfl⟩ _ _ ⟨rfl, rfl⟩ _ _ ⟨rfl, rfl⟩ _ _ ⟨rfl, rfl⟩ _ _ ⟨rfl, rfl⟩ _ _ ⟨rfl, rfl⟩ _ _ ⟨rfl, rfl⟩ _ _ ⟨rfl, rfl⟩ _ _ ⟨rfl, rfl⟩ _ _ ⟨rfl, rfl⟩ _ _ ⟨rfl, rfl⟩ _ _ ⟨rfl, rfl⟩ _ _ ⟨rfl, rfl⟩ _ _ ⟨rfl, rfl⟩ _ _ ⟨rfl, rfl⟩ _ _ ⟨rfl, rfl⟩
            generalize (β 7).b = b91
            generalize (β 7).v = v91
            refine wl_norm (e' := [(0, _), (1, _), (5, _), (6, _), (7, _), (9, _), (10, _), (11, _), (12, _), (95, _)]) (.cons rfl (.cons rfl (.cons rfl (.cons rfl (.cons rfl (.cons rfl (.cons rfl (.cons rfl (.cons rfl (.cons rfl (.nil _))))))))))) (by dsimp only [cond_false, cond_true, List.nil_append, List.cons_append]) ?_
            refine za rfl (wl_nil (st_tn (w_seq (w_region (zm rfl (zd rfl (op_not_t rfl) (zm rfl (wl_wanted_det rfl rfl rfl rfl rfl rfl rfl (op_val (v' := .bool false) (by rfl) (op_move rfl)) ?_))))))))
            refine zd rfl (op_pick_f rfl rfl) (zm rfl (wl_wanted_det rfl rfl rfl rfl rfl rfl rfl (op_loadA rfl tA52xo (Ent.lab (l := 9) rfl (says_cel 0)) (Nat.le_of_ble_eq_true rfl)) (wl_wanted_det rfl rfl rfl rfl rfl rfl rfl (op_move rfl) (wl_wanted [601] rfl rfl rfl rfl rfl rfl rfl rfl (op_fn Try.func31 rfl rfl rfl (agreesS_c 601 (by omega) (by decide))) ?_))))
            rintro _ _ ⟨rfl, rfl⟩
            refine wl_wanted_det rfl rfl rfl rfl rfl rfl rfl (op_not_t rfl) (zd rfl (op_pick_f rfl rfl) (zm rfl (wl_wanted_det rfl rfl rfl rfl rfl rfl rfl (op_loadA rfl tA52xo (Ent.lab (l := 10) rfl (says_cel 0)) (Nat.le_of_ble_eq_true rfl)) (wl_wanted_det rfl rfl rfl rfl rfl rfl rfl (op_move rfl) (wl_wanted [601] rfl rfl rfl rfl rfl rfl rfl rfl (op_fn Try.func31 rfl rfl rfl (agreesS2_c 601 (by omega) (by decide))) ?_)))))
            rintro _ _ ⟨rfl, rfl⟩
            refine wl_wanted_det rfl rfl rfl rfl rfl rfl rfl (op_not_t rfl) (zd rfl (op_pick_f rfl rfl) (wl_nil (st_tn (w_cond_f (rfl) ?_))))
            refine w_skip (st_bn (st_tn (w_region (zm rfl (zd rfl (op_add' rfl rfl (by omega)) ?_)))))
            refine za rfl (wl_nil ?_)
            refine st_roundQ (x := (i, b6, b7, v, v2)) ((i + 1, b6, b91, v, v91)) [601, 9, 10] rfl (rfl) (.cons rfl (.cons rfl (.cons rfl (.nil _)))) (.cons rfl (.cons rfl (.cons rfl (.cons rfl (.cons rfl (.nil _)))))) (by
                try dsimp only
                omega) (by
                try dsimp only
                omega)
          · -- c82.f
            refine w_cls [601] (C := [(601, shR nmA nmB d15 b6 b7 (2 * (i + 1)) v v2)]) sh_mono rfl ?_
            refine w_skip (st_tn (w_seq (w_region (zm rfl (zd rfl (op_not_t rfl) (zm rfl (wl_wanted_det rfl rfl rfl rfl rfl rfl rfl (op_val (v' := .bool false) (by rfl) (op_move rfl)) ?_)))))))
            refine zd rfl (op_pick_f rfl rfl) (zm rfl (wl_wanted_det rfl rfl rfl rfl rfl rfl rfl (op_loadA rfl tA52xo (Ent.lab (l := 9) rfl (says_cel 0)) (Nat.le_of_ble_eq_true rfl)) (wl_wanted_det rfl rfl rfl rfl rfl rfl rfl (op_move rfl) (wl_wanted [601] rfl rfl rfl rfl rfl rfl rfl rfl (op_fn Try.func31 rfl rfl rfl (agreesS_c 601 (by omega) (by decide))) ?_))))
            rintro _ _ ⟨rfl, rfl⟩
            refine wl_wanted_det rfl rfl rfl rfl rfl rfl rfl (op_not_t rfl) (zd rfl (op_pick_f rfl rfl) (zm rfl (wl_wanted_det rfl rfl rfl rfl rfl rfl rfl (op_loadA rfl tA52xo (Ent.lab (l := 10) rfl (says_cel 0)) (Nat.le_of_ble_eq_true rfl)) (wl_wanted_det rfl rfl rfl rfl rfl rfl rfl (op_move rfl) (wl_wanted [601] rfl rfl rfl rfl rfl rfl rfl rfl (op_fn Try.func31 rfl rfl rfl (agreesS2_c 601 (by omega) (by decide))) ?_)))))
            rintro _ _ ⟨rfl, rfl⟩
            refine wl_wanted_det rfl rfl rfl rfl rfl rfl rfl (op_not_t rfl) (zd rfl (op_pick_f rfl rfl) (wl_nil (st_tn (w_cond_f (rfl) ?_))))
            refine w_skip (st_bn (st_tn (w_region (zm rfl (zd rfl (op_add' rfl rfl (by omega)) ?_)))))
            refine za rfl (wl_nil ?_)
            refine st_roundQ (x := (i, b6, b7, v, v2)) ((i + 1, b6, b7, v, v2)) [601, 9, 10] rfl (rfl) (.cons rfl (.cons rfl (.cons rfl (.nil _)))) (.cons rfl (.cons rfl (.cons rfl (.cons rfl (.cons rfl (.nil _)))))) (by
                try dsimp only
                omega) (by
                try dsimp only
                omega)
      · -- c54.f
        refine w_exit (st_te ?_)
        refine st_te ?_
        refine st_be (st_tn (w_seq (w_region (za rfl (wl_nil (st_tn (w_ret (st_ret (vs := [_]) [] Try.results7 ⟨rfl, trivial⟩ rfl ?_))))))))
        refine ⟨_, rfl, ?_⟩
        exact ⟨rfl, rfl⟩
end Go.Proofs.Ytcbigmgakdanjaa
