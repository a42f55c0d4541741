/- The law TopAlertsFollowBudgets. The argument of the law TopAlertsFollowBudgets, opened. Conditions: none. -/
import Derived.Test.YtecmigildpkigaaSlZ
import Derived.Test.YtecmigildpkigaaTAa
import Derived.Test.YtecmigildpkigaaSlD
namespace Go.Proofs.Ytecmigildpkigaa
open Go Go.SL Go.RowKit
set_option linter.unusedVariables false
set_option linter.unusedSimpArgs false
theorem tA24ts : aggB Try.prog 24 6 = true := by kernel_rfl
theorem tA27ts : aggB Try.prog 27 8 = true := by kernel_rfl
theorem tA32ts : aggB Try.prog 32 7 = true := by kernel_rfl
theorem tB46ts : placesB Try.prog 46 = some ([(0, 1), (1, 1), (2, 1), (3, 1)], [Value.string .empty, Value.string .empty, Value.int .i64 0, Value.int .i64 0]) := by kernel_rfl
theorem tF27_3ts : fieldB Try.prog 27 3 3 = true := by kernel_rfl
theorem tF32_5ts : fieldB Try.prog 32 5 6 = true := by kernel_rfl
theorem tL41_1ts : zerosB Try.prog 41 27 8 1 = some [Value.string .empty, Value.string .empty, Value.string .empty, Value.int .i64 0, Value.int .i64 0, Value.int .i64 0, Value.int .i64 0, Value.int .i64 0] := by kernel_rfl
theorem tL47_1ts : zerosB Try.prog 47 46 4 1 = some [Value.string .empty, Value.string .empty, Value.int .i64 0, Value.int .i64 0] := by kernel_rfl
theorem tN27ts : (Try.prog.info? 27).bind (·.zero) = some (Value.agg #[Value.string .empty, Value.string .empty, Value.string .empty, Value.int .i64 0, Value.int .i64 0, Value.int .i64 0, Value.int .i64 0, Value.int .i64 0]) := by kernel_rfl
theorem tN32ts : (Try.prog.info? 32).bind (·.zero) = some (Value.agg #[Value.string .empty, Value.string .empty, Value.int .i64 0, Value.int .i64 0, Value.int .i64 0, Value.int .i64 0, Value.slice none 0 0]) := by kernel_rfl
theorem tO3ts : oneB Try.prog 3 = true := by kernel_rfl
theorem tO30ts : oneB Try.prog 30 = true := by kernel_rfl
theorem tS30ts : sliceB Try.prog 30 3 1 = true := by kernel_rfl
theorem tZ27ts : (Try.prog.info? 27).map (·.size) = some 8 := by kernel_rfl
theorem tZ32ts : (Try.prog.info? 32).map (·.size) = some 7 := by kernel_rfl
theorem w_opnL {P : Program} {σ : World} {n : Nat} {F : List Res} {e : Env} {R A B0 : RL} {Q : Exit → Act → World → Prop} {c : Code} {ι : Type} (L : List Nat) {B : ι → RL} (ho : Opens σ (rs A) ι (fun i => rs (B i))) (ht : takeL R L = some (A, B0)) (k : ∀ i, W P σ n c Q e (B i ++ B0) F) : W P σ n c Q e R F := fun a w hr hw => by
  have h1 := hw.take ht
  obtain ⟨i, h2⟩ := ho _ w h1
  refine k i a w hr ?_
  have : rs (B i ++ B0) = rs (B i) ++ rs B0 := by unfold rs; rw [List.map_append]
  rw [this, List.append_assoc]; exact h2
theorem eng_opens {σ : World} {b : Nat} {a : Option Addr} {c : Nat} {r : RuV} : Opens σ [cel b [.slice a 1 c, .int .i64 100] 82, slW 77 encMo 1035 (.slice a 1 c) [r]] {p : Nat × List Value // 1 ≤ c} (fun p => [cel b [.slice (some ⟨p.1.1, 0, none⟩) 1 c, .int .i64 100] 82, cel p.1.1 (encG r (ringV []) 0 0 0 p.1.2) 77]) := fun F w h => by
  have h1 := SL.Own.perm h (List.Perm.swap _ _ _)
  have h2 : SL.Own σ ((fun m => ∃ p : Nat × List Value, (a = some ⟨p.1, 0, none⟩ ∧ 1 ≤ c) ∧ cel p.1 (encG r (ringV []) 0 0 0 p.2) 77 m) :: cel b [.slice a 1 c, .int .i64 100] 82 :: F) w := h1.imp fun m hm => by
    obtain ⟨hk, hl, hv⟩ := hm
    rcases hv with ⟨hv, _⟩ | ⟨g, cap, cur, hv, h3, h4, h5, h6, h7⟩
    · simp at hv
    · simp only [Value.slice.injEq, List.map_cons, List.map_nil, List.length_singleton, List.length_cons, List.length_nil] at hv h4 h7
      obtain ⟨e1, _, e2⟩ := hv
      refine ⟨(g, cur.toList.drop 1035), ⟨e1, by omega⟩, ?_⟩
      have e3 : cur.toList = encG r (ringV []) 0 0 0 (cur.toList.drop 1035) := by
        rw [G_tl]
        have e4 : cur.toList.take 1035 = encG r (ringV []) 0 0 0 [] := by simpa [encMo] using h7
        conv => lhs; rw [← List.take_append_drop 1035 cur.toList, e4]
      rw [h3]
      show single g _ = single g _
      rw [← e3]
  obtain ⟨p, h3⟩ := own_ex h2
  obtain ⟨⟨e1, e2⟩, h4⟩ := own_and h3
  subst e1
  exact ⟨⟨p, e2⟩, SL.Own.perm h4 (List.Perm.swap _ _ _)⟩
theorem pairs_len (x : LoadV) : (pairsV x).length ≤ 24 := by unfold pairsV; rw [List.length_map, List.length_take]; omega
theorem pairs_bd {x : LoadV} (hB : LoadB x) : ∀ p ∈ pairsV x, (0 ≤ p.1 ∧ p.1 ≤ 1000) ∧ 0 ≤ p.2 ∧ p.2 ≤ 1000 := fun p hp => by
  unfold pairsV at hp
  obtain ⟨q, hq, rfl⟩ := List.mem_map.1 hp
  have := hB.s1 q (List.mem_of_mem_take hq)
  unfold pairV
  dsimp only
  omega
theorem pairs_le {x : LoadV} : ∀ p ∈ pairsV x, p.1 ≤ p.2 := fun p hp => by
  unfold pairsV at hp
  obtain ⟨q, hq, rfl⟩ := List.mem_map.1 hp
  unfold pairV
  dsimp only
  omega
theorem ruleOk {x : LoadV} (hB : LoadB x) : RuOk (ruleV x) := by
  have h1 := hB.tg
  have h2 := hB.lg
  have h3 := hB.sh
  have h4 := hB.br
  have h5 := hB.dl
  refine ⟨(show nameP ⟨#[114]⟩ by decide +kernel), (show nameP ⟨#[115]⟩ by decide +kernel), rfl, ?_, ?_, ?_, ?_⟩ <;> (unfold ruleV; dsimp only; omega)
theorem loadCin {x : LoadV} (hB : LoadB x) {r : RuV} (hr : RuOk r) (hs : r.svc = ⟨#[115]⟩) (a1 a2 : Option Addr) (c1 c2 : Nat) : CinOk r (errV x a1 c1) (traV x a2 c2) where
  ro := hr
  xo := ⟨(show nameP ⟨#[115]⟩ by decide +kernel), rfl, (show (1 : Int) ≤ 2 ∧ (2 : Int) ≤ 2 by decide), rfl, rfl, (show (0 : Int) ≤ 100 ∧ (100 : Int) ≤ 1000000 by decide), (by have := pairs_len x; show ((pairsV x).map Prod.fst).length ≤ 100; rw [List.length_map]; omega), fun v hv => by
    obtain ⟨p, hp, rfl⟩ := List.mem_map.1 (show v ∈ (pairsV x).map Prod.fst from hv)
    exact (pairs_bd hB p hp).1⟩
  yo := ⟨(show nameP ⟨#[115]⟩ by decide +kernel), rfl, (show (1 : Int) ≤ 1 ∧ (1 : Int) ≤ 2 by decide), rfl, rfl, (show (0 : Int) ≤ 100 ∧ (100 : Int) ≤ 1000000 by decide), (by have := pairs_len x; show ((pairsV x).map Prod.snd).length ≤ 100; rw [List.length_map]; omega), fun v hv => by
    obtain ⟨p, hp, rfl⟩ := List.mem_map.1 (show v ∈ (pairsV x).map Prod.snd from hv)
    exact (pairs_bd hB p hp).2⟩
  m1 := rfl
  m2 := rfl
  s1 := hs.symm
  s2 := hs.symm
  ef := rfl
  el := by show ((pairsV x).map Prod.fst).length = ((pairsV x).map Prod.snd).length; rw [List.length_map, List.length_map]
  le := fun i e t he ht => by
    have he : ((pairsV x).map Prod.fst)[i]? = some e := he
    have ht : ((pairsV x).map Prod.snd)[i]? = some t := ht
    rw [List.getElem?_map] at he ht
    cases hp : (pairsV x)[i]? with
    | none => rw [hp] at he; simp at he
    | some p =>
      rw [hp] at he ht
      simp at he ht
      have := pairs_le p (List.mem_of_getElem? hp)
      omega
theorem bud_split {p q g : Int} (hg : 0 ≤ g ∧ g < 1000000) : budZ p g + budZ q g ≤ budZ (p + q) g ∧ budZ (p + q) g ≤ budZ p g + budZ q g + 1 := by
  unfold budZ
  rw [Int.add_mul]
  omega
theorem bud_bd {t g : Int} (ht : 0 ≤ t) (hg : 0 ≤ g ∧ g < 1000000) : 0 ≤ budZ t g ∧ budZ t g ≤ t := by
  unfold budZ
  have h1 : 0 ≤ t * (1000000 - g) := Int.mul_nonneg ht (by omega)
  have h2 : t * (1000000 - g) ≤ t * 1000000 := Int.mul_le_mul_of_nonneg_left (by omega) ht
  omega
theorem burn_small {e t g : Int} (he : 0 ≤ e ∧ e ≤ t) (hg : 0 ≤ g ∧ g < 1000000) (h : ¬ burnZ e t g ≥ 1000) : ¬ e > budZ t g := by
  unfold burnZ at h
  unfold budZ
  by_cases ht : t = 0
  · subst ht
    simp; omega
  · rw [if_neg ht] at h
    have hk : 0 < t * (1000000 - g) := Int.mul_pos (by omega) (by omega)
    obtain ⟨k, hk2⟩ : ∃ k, k = t * (1000000 - g) := ⟨_, rfl⟩
    rw [← hk2] at h hk ⊢
    have h1 : e * 1000000000 < 1000 * k := (Int.ediv_lt_iff_lt_mul hk).1 (by omega)
    omega
set_option maxHeartbeats 3000000 in
set_option maxRecDepth 100000 in
theorem lawAlerts_any {σ : World} {F : List Res} {x : LoadV} (cut : Int) (hB : LoadB x) (hcut : B8 cut) (g : Sl σ F encP8 2 (.slice x.a x.slots.length x.c) x.slots) :
    FnT Try.prog σ F 3 [ldV x, .int .u8 cut] [] (fun u ρ => u = .bool true ∧ ρ = []) := by
  refine fn_of 216 Try.func3 rfl Try.ntmps3 rfl ?_
  have hro := ruleOk hB
  have htg := hro.tgt
  have hll := pairs_len x
  have hbd := pairs_bd hB
  have hle := @pairs_le x
  have hpair : PairB (pairsV x) := ⟨by omega, hbd⟩
  have hm1 : ((pairsV x).map Prod.fst).length = (pairsV x).length := List.length_map ..
  have hm2 : ((pairsV x).map Prod.snd).length = (pairsV x).length := List.length_map ..
  have hsl := statesL_len (ruleV x) (pairsV x) (pairsV x).length
  refine w_seq (w_region (wl_op [] rfl rfl rfl rfl (op_box (T := 24) (l := 2) rfl) ?_))
  rintro _ _ ⟨b2, rfl, rfl⟩
  refine za rfl (wl_nil (st_tn (w_seq (w_seq (w_region (zd rfl (op_fn Try.func5 rfl rfl rfl Known49) (zd rfl (op_not_t rfl) (wl_nil (st_tn (w_cond_f (rfl) ?_))))))))))
  refine w_skip (st_tn (w_seq (w_region (zd rfl (op_loadA rfl tA24ts (Ent.lab (l := 2) rfl (says_cel 0)) (Nat.le_of_ble_eq_true rfl)) (wl_op [] rfl rfl rfl rfl (op_fn Try.func6 rfl rfl rfl (loaded_any 61 62 hB (g.app _))) ?_)))))
  rintro _ _ ⟨a61, a62, c61, c62, rfl, rfl⟩
  refine zm rfl (zd rfl (op_extract rfl rfl) (zd rfl (op_extract rfl rfl) (zd rfl (op_extract rfl rfl) (wl_op [] rfl rfl rfl rfl (op_alloc (l := 5) tN27ts) ?_))))
  rintro _ _ ⟨b5, rfl, rfl⟩
  refine wl_op [] rfl rfl rfl rfl (op_alloc (l := 6) tN32ts) ?_
  rintro _ _ ⟨b6, rfl, rfl⟩
  refine wl_op [] rfl rfl rfl rfl (op_alloc (l := 7) tN32ts) ?_
  rintro _ _ ⟨b7, rfl, rfl⟩
  refine wl_op0 [5] rfl rfl rfl (op_store rfl rfl tZ27ts (by rfl) (by rfl) (by exact Nat.le_of_ble_eq_true rfl)) ?_
  rintro _ _ ⟨rfl, rfl⟩
  refine wl_op0 [6] rfl rfl rfl (op_store rfl rfl tZ32ts (by rfl) (by rfl) (by exact Nat.le_of_ble_eq_true rfl)) ?_
  rintro _ _ ⟨rfl, rfl⟩
  refine wl_op0 [7] rfl rfl rfl (op_store rfl rfl tZ32ts (by rfl) (by rfl) (by exact Nat.le_of_ble_eq_true rfl)) ?_
  rintro _ _ ⟨rfl, rfl⟩
  refine wl_nil (st_tn (w_seq (w_wk 5 (cel b5 (encRu (ruleV x)) 27) rfl (fun _ h => h) ?_)))
  refine w_wk 6 (cel b6 (encSe (errV x a61 c61)) 32) rfl (fun _ h => h) ?_
  refine w_wk 7 (cel b7 (encSe (traV x a62 c62)) 32) rfl (fun _ h => h) ?_
  refine w_region (zd rfl (op_loadA rfl tA27ts (Ent.lab (l := 5) rfl (says_cel 0)) (Nat.le_of_ble_eq_true rfl)) (zd rfl (op_loadA rfl tA32ts (Ent.lab (l := 6) rfl (says_cel 0)) (Nat.le_of_ble_eq_true rfl)) (zd rfl (op_loadA rfl tA32ts (Ent.lab (l := 7) rfl (says_cel 0)) (Nat.le_of_ble_eq_true rfl)) (wl_op [] rfl rfl rfl rfl (op_fn Try.func7 rfl rfl rfl (states_any 26 (loadCin hB hro rfl a61 a62 c61 c62) hpair rfl rfl (Sl.lab 61 rfl (by show ((pairsV x).map Prod.fst).length ≤ maxLen; unfold maxLen; omega)) (Sl.lab 62 rfl (by show ((pairsV x).map Prod.snd).length ≤ maxLen; unfold maxLen; omega)))) ?_))))
  rintro _ _ ⟨a26, c26, rfl, rfl⟩
  refine zm rfl (zd rfl (op_extract rfl rfl) (zd rfl (op_extract rfl rfl) (za rfl (za rfl (wl_nil (st_tn (w_seq (w_region (zd rfl (op_loadA rfl tA27ts (Ent.lab (l := 5) rfl (says_cel 0)) (Nat.le_of_ble_eq_true rfl)) (wl_op [] rfl rfl rfl rfl (op_buildSlice (enc := encRu) (l := [ruleV x]) (lab := 49) tL41_1ts rfl rfl (fun _ => rfl) rfl) ?_))))))))))
  rintro _ _ ⟨a49, c49, rfl, rfl⟩
  refine wl_op [] rfl rfl rfl rfl (op_fn Try.func8 rfl rfl rfl (new_one 71 72 hro (Sl.lab 49 rfl (by simp [maxLen])))) ?_
  rintro _ _ ⟨b51, a51, c51, rfl, rfl⟩
  refine zm rfl (zd rfl (op_extract rfl rfl) (zd rfl (op_extract rfl rfl) (za rfl (za rfl (wl_nil (st_tn (w_seq (w_seq (w_opnL [71, 72] eng_opens (B := fun (p : {p : Nat × List Value // 1 ≤ c51}) => [(611, cel b51 [.slice (some ⟨p.1.1, 0, none⟩) 1 c51, .int .i64 100] 82), (601, cel p.1.1 (encG (ruleV x) (ringV []) 0 0 0 p.1.2) 77)]) rfl (fun p0 => ?_))))))))))
  obtain ⟨⟨g0, tl⟩, hc1⟩ := p0
  refine w_region (zm rfl (zd rfl (op_val (v' := .bool false) (by rfl) (op_neq rfl rfl)) ?_))
  refine zm rfl (wl_wanted_det rfl rfl rfl rfl rfl rfl rfl (op_move rfl) (wl_wanted_det rfl rfl rfl rfl rfl rfl rfl (op_val (v' := .bool false) (by rfl) (op_neq rfl rfl)) ?_))
  refine zd rfl (op_pick_f rfl rfl) (zm rfl (wl_wanted_det rfl rfl rfl rfl rfl rfl rfl (op_move rfl) (wl_wanted_det rfl rfl rfl rfl rfl rfl rfl (op_lenT rfl tS30ts (Sl.ent (Sl.lab 26 rfl (by unfold maxLen; omega)))) ?_)))
  refine wl_wanted_det rfl rfl rfl rfl rfl rfl rfl (op_fieldAddr (off := 6) rfl tF32_5ts) (wl_wanted_det rfl rfl rfl rfl rfl rfl rfl (op_load1 rfl tO30ts (Ent.lab (l := 7) rfl (says_cel 6))) (wl_wanted_det rfl rfl rfl rfl rfl rfl rfl (op_lenT rfl tS30ts (Sl.ent (Sl.lab 62 rfl (by unfold maxLen; omega)))) ?_))
  refine wl_wanted_det rfl rfl rfl rfl rfl rfl rfl (op_val (v' := .bool false) (by rw [decide_eq_false (by omega)]) (op_neq rfl rfl)) ?_
  refine zd rfl (op_pick_f rfl rfl) (wl_nil (st_tn (w_cond_f (rfl) ?_)))
  refine w_skip (st_tn (w_seq (w_region (za rfl (za rfl (za rfl (wl_nil (st_tn (w_seq (w_seq (w_region (za rfl (wl_nil ?_)))))))))))))
  refine st_tn (w_block ?_)
  refine w_loopQ (X := Int × Int × Int × Nat × Int) (fun z => (z.2.2.2.1 ≤ (pairsV x).length ∧ (0 ≤ z.1 ∧ 0 ≤ z.2.1) ∧ z.1 + z.2.1 ≤ 1000 * z.2.2.2.1) ∧ (z.1 + z.2.1 = (((pairsV x).map Prod.snd).take z.2.2.2.1).sum ∧ z.2.2.1 = (((pairsV x).map Prod.fst).take z.2.2.2.1).sum) ∧ 0 ≤ z.2.2.1 ∧ z.2.2.1 ≤ z.1 + z.2.1) (fun z => [(12, .int .i64 (z.1)), (13, .int .i64 (z.2.1)), (14, .int .i64 (z.2.2.1)), (15, .int .i64 (z.2.2.2.1))]) (fun z => [(611, cel b51 [.slice (some ⟨g0, 0, none⟩) 1 c51, .int .i64 (100 + ((z.2.2.2.1) : Nat))] 82), (601, cel g0 (encG (ruleV x) (ringV ((pairsV x).take (z.2.2.2.1))) (((pairsV x).take (z.2.2.2.1)).length : Nat) (heldL (ruleV x) (pairsV x) (z.2.2.2.1)) (z.2.2.2.2) tl) 77)]) (fun z => (pairsV x).length - z.2.2.2.1) ((0, 0, 0, 0, 0)) [(1, _), (5, _), (6, _), (7, _), (8, _), (10, _)] [(5, _), (6, _), (7, _), (61, _), (62, _), (26, _)] [611, 601, 5, 6, 7, 61, 62, 26] rfl (rfl) (.cons rfl (.cons rfl (.cons rfl (.cons rfl (.nil _))))) (.cons rfl (.cons rfl (.cons rfl (.cons rfl (.cons rfl (.cons rfl (.nil _))))))) (by
      try dsimp only
      exact ⟨⟨Nat.zero_le _, ⟨by decide, by decide⟩, by decide⟩, ⟨rfl, rfl⟩, by decide, by decide⟩) ?_
  rintro ⟨aa, bb, wr, i, st⟩ ⟨⟨hi, hab, hsb⟩, ⟨hs1, hs2⟩, hwb⟩
  refine w_norm2 (by dsimp only [List.cons_append, List.nil_append]) (by dsimp only [List.cons_append, List.nil_append]) ?_
  try dsimp only at hi hab hsb hs1 hs2 hwb ⊢
  refine w_seq (w_seq (w_region (zm rfl (zm rfl (zd rfl (op_lenT rfl tS30ts (Sl.ent (Sl.lab 26 rfl (by unfold maxLen; omega)))) ?_)))))
  refine zd rfl (op_lss rfl rfl) (wl_nil (st_tn (w_cond_d rfl (fun hc70 => ?_) (fun hc70 => ?_))))
  · -- c70.t
    obtain ⟨p, hp⟩ := getE (l := pairsV x) (i := i) (by omega)
    have hpm := List.mem_of_getElem? hp
    have hpb := hbd p hpm
    have hpl := hle p hpm
    have hp1 : ((pairsV x).map Prod.fst)[i]? = some p.1 := by rw [List.getElem?_map, hp]; rfl
    have hp2 : ((pairsV x).map Prod.snd)[i]? = some p.2 := by rw [List.getElem?_map, hp]; rfl
    have hhb := heldL_bd (ruleV x) (pairsV x) i
    have htb : ∀ q ∈ (pairsV x).take i, (0 ≤ q.1 ∧ q.1 ≤ 1000) ∧ 0 ≤ q.2 ∧ q.2 ≤ 1000 := fun q hq => hbd q (List.mem_of_mem_take hq)
    have htl : ((pairsV x).take i).length ≤ 100 := by rw [List.length_take]; omega
    have htl2 : (ringV ((pairsV x).take (i + 1))).length = 256 := ringV_len (by rw [List.length_take]; omega)
    have hst9 : (statesL (ruleV x) (pairsV x) (pairsV x).length)[i]? = some (stL (ruleV x) (pairsV x) i) := by unfold statesL; rw [List.getElem?_map, List.getElem?_range (by omega)]; rfl
    refine w_skip (st_tn (w_seq (w_block (w_seq (w_region (zd rfl (op_fieldAddr (off := 6) rfl tF32_5ts) (zd rfl (op_load1 rfl tO30ts (Ent.lab (l := 7) rfl (says_cel 6))) (zm rfl (zd rfl (op_idx rfl rfl tS30ts (Sl.ent (Sl.lab 62 rfl (by unfold maxLen; omega))) (by omega)) ?_)))))))))
    refine zd rfl (op_ldx rfl tO3x (Sl.lab 62 rfl (by unfold maxLen; omega)) hp2 (by rfl)) ?_
    refine za rfl (wl_nil (st_tn (w_seq (w_seq (w_region (zm rfl (zd rfl (op_fieldAddr (off := 6) rfl tF32_5ts) (zd rfl (op_load1 rfl tO30ts (Ent.lab (l := 6) rfl (says_cel 6))) (zm rfl (zd rfl (op_idx rfl rfl tS30ts (Sl.ent (Sl.lab 61 rfl (by unfold maxLen; omega))) (by omega)) ?_))))))))))
    refine zd rfl (op_ldx rfl tO3x (Sl.lab 61 rfl (by unfold maxLen; omega)) hp1 (by rfl)) ?_
    refine zm rfl (zd rfl (op_build tB46ts rfl rfl) (wl_op [] rfl rfl rfl rfl (op_buildSlice (enc := encSs) (l := [((⟨#[115]⟩ : ByteArray), (⟨#[]⟩ : ByteArray), p.1, p.2)]) (lab := 87) tL47_1ts rfl rfl (fun _ => rfl) rfl) ?_))
    rintro _ _ ⟨a87, c87, rfl, rfl⟩
    refine wl_op [611, 601] rfl rfl rfl rfl (op_fn Try.func9 rfl rfl rfl (fn_imp (obs_any (b := b51) (g := g0) (c := c51) (r := ruleV x) (tl := tl) (st := st) (h := heldL (ruleV x) (pairsV x) i) (H := (pairsV x).take i) (slot := 100 + (i : Nat)) (sm := ((⟨#[115]⟩ : ByteArray), (⟨#[]⟩ : ByteArray), p.1, p.2)) (Sl.lab 87 rfl (by simp [maxLen])) rfl rfl hro htl htb ⟨hpb.1.1, hpl⟩ hpb.2.2 (by omega) (by omega) hc1) (fun u ρ hu => (by rw [show (100 + (i : Int) + 1) = 100 + ((i + 1 : Nat) : Int) by omega, ← take_snoc hp] at hu; exact hu : ∃ (a : Option Addr) (n m : Nat), u = .tuple #[.slice a n m, .int .i64 0] ∧ ρ = [(611, cel b51 [.slice (some ⟨g0, 0, none⟩) 1 c51, .int .i64 (100 + ((i + 1 : Nat) : Int))] 82), (601, cel g0 (encG (ruleV x) (ringV ((pairsV x).take (i + 1))) (((pairsV x).take (i + 1)).length : Nat) (heldL (ruleV x) (pairsV x) (i + 1)) (stL (ruleV x) (pairsV x) i) tl) 77)])))) ?_
    rintro _ _ ⟨a88, n88, m88, rfl, rfl⟩
    refine zm rfl (zd rfl (op_extract rfl rfl) (zd rfl (op_extract rfl rfl) (za rfl (za rfl (wl_nil (st_tn (w_seq (w_region (zm rfl (zd rfl (op_val (v' := .bool false) (by rfl) (op_neq rfl rfl)) ?_))))))))))
    refine wl_nil (st_tn (w_cond_f (rfl) ?_))
    refine w_skip (st_tn (w_seq (w_seq (w_region (zm rfl (zd rfl (op_fn Try.func10 rfl rfl rfl (state_any (r := ruleV x) (Ent.lab (l := 611) rfl (says_cel 0)) (Ent.lab (l := 601) rfl says_cel0) htl2 hc1)) (zm rfl (zd rfl (op_extract rfl rfl) (zd rfl (op_extract rfl rfl) (za rfl (za rfl (wl_nil (st_tn ?_)))))))))))))
    refine w_seq (w_region (zm rfl (zd rfl (op_val (v' := .bool false) (by rfl) (op_neq rfl rfl)) ?_)))
    refine zm rfl (wl_wanted_det rfl rfl rfl rfl rfl rfl rfl (op_move rfl) (wl_wanted_det rfl rfl rfl rfl rfl rfl rfl (op_move rfl) (wl_wanted_det rfl rfl rfl rfl rfl rfl rfl (op_move rfl) (wl_wanted_det rfl rfl rfl rfl rfl rfl rfl (op_idx rfl rfl tS30ts (Sl.ent (Sl.lab 26 rfl (by unfold maxLen; omega))) (by omega)) ?_))))
    refine wl_wanted_det rfl rfl rfl rfl rfl rfl rfl (op_ldx rfl tO3x (Sl.lab 26 rfl (by unfold maxLen; omega)) hst9 (by rfl)) ?_
    refine wl_wanted_det rfl rfl rfl rfl rfl rfl rfl (op_val (v' := .bool false) (by rw [decide_eq_false (fun h => h rfl)]) (op_neq rfl rfl)) ?_
    refine zd rfl (op_pick_f rfl rfl) (wl_nil (st_tn (w_cond_f (rfl) ?_)))
    refine w_skip (st_tn (w_seq (w_seq (w_region (zm rfl (zm rfl (zd rfl (op_convI64 rfl (by rw [Try.underlying5]; rfl) Try.underlying3 (by omega)) ?_)))))))
    refine zd rfl (op_remN rfl rfl (by omega) (by omega)) ?_
    refine zd rfl (op_lss rfl rfl) (wl_nil (st_tn (w_cond_d rfl (fun hc112 => ?_) (fun hc112 => ?_))))
    · -- c112.t
      refine w_region (zm rfl (zm rfl (zd rfl (op_add' rfl rfl (by omega)) ?_)))
      refine za rfl (wl_nil (st_tn (w_region (zm rfl (zd rfl (op_fieldAddr (off := 6) rfl tF32_5ts) (zd rfl (op_load1 rfl tO30ts (Ent.lab (l := 6) rfl (says_cel 6))) (zm rfl (zd rfl (op_idx rfl rfl tS30ts (Sl.ent (Sl.lab 61 rfl (by unfold maxLen; omega))) (by omega)) ?_))))))))
      refine zd rfl (op_ldx rfl tO3x (Sl.lab 61 rfl (by unfold maxLen; omega)) hp1 (by rfl)) ?_
      refine zd rfl (op_add' rfl rfl (by omega)) ?_
      refine za rfl (wl_nil (st_bn (st_tn (w_region (zm rfl (zd rfl (op_add' rfl rfl (by omega)) ?_))))))
      refine za rfl (wl_nil ?_)
      refine st_roundQ (x := (aa, bb, wr, i, st)) ((aa + p.2, bb, wr + p.1, i + 1, stL (ruleV x) (pairsV x) i)) [611, 601, 5, 6, 7, 61, 62, 26] rfl (rfl) (.cons rfl (.cons rfl (.cons rfl (.cons rfl (.nil _))))) (.cons rfl (.cons rfl (.cons rfl (.cons rfl (.cons rfl (.cons rfl (.nil _))))))) (by
          try dsimp only
          exact ⟨⟨by omega, by omega, by omega⟩, ⟨by rw [sum_snoc hp2, ← hs1]; omega, by rw [sum_snoc hp1, ← hs2]⟩, by omega, by omega⟩) (by
          try dsimp only
          omega)
    · -- c112.f
      refine w_region (zm rfl (zm rfl (zd rfl (op_add' rfl rfl (by omega)) ?_)))
      refine za rfl (wl_nil (st_tn (w_region (zm rfl (zd rfl (op_fieldAddr (off := 6) rfl tF32_5ts) (zd rfl (op_load1 rfl tO30ts (Ent.lab (l := 6) rfl (says_cel 6))) (zm rfl (zd rfl (op_idx rfl rfl tS30ts (Sl.ent (Sl.lab 61 rfl (by unfold maxLen; omega))) (by omega)) ?_))))))))
      refine zd rfl (op_ldx rfl tO3x (Sl.lab 61 rfl (by unfold maxLen; omega)) hp1 (by rfl)) ?_
      refine zd rfl (op_add' rfl rfl (by omega)) ?_
      refine za rfl (wl_nil (st_bn (st_tn (w_region (zm rfl (zd rfl (op_add' rfl rfl (by omega)) ?_))))))
      refine za rfl (wl_nil ?_)
      refine st_roundQ (x := (aa, bb, wr, i, st)) ((aa, bb + p.2, wr + p.1, i + 1, stL (ruleV x) (pairsV x) i)) [611, 601, 5, 6, 7, 61, 62, 26] rfl (rfl) (.cons rfl (.cons rfl (.cons rfl (.cons rfl (.nil _))))) (.cons rfl (.cons rfl (.cons rfl (.cons rfl (.cons rfl (.cons rfl (.nil _))))))) (by
          try dsimp only
          exact ⟨⟨by omega, by omega, by omega⟩, ⟨by rw [sum_snoc hp2, ← hs1]; omega, by rw [sum_snoc hp1, ← hs2]⟩, by omega, by omega⟩) (by
          try dsimp only
          omega)
  · -- c70.f
    refine w_exit (st_te ?_)
    refine st_te ?_
    refine st_be (st_tn (w_seq ?_))
    have hin : i = (pairsV x).length := by omega
    rw [hin, List.take_of_length_le (by omega)] at hs1 hs2
    have hbs := bud_split (p := aa) (q := bb) htg
    refine w_region (zm rfl (zd rfl (op_fieldAddr (off := 3) rfl tF27_3ts) (zd rfl (op_load1 rfl tO3ts (Ent.lab (l := 5) rfl (says_cel 3))) (zd rfl (op_fn Try.func11 rfl rfl rfl (budget_any aa (ruleV x).tgt (by omega) htg)) ?_))))
    refine zm rfl (zd rfl (op_extract rfl rfl) (zd rfl (op_extract rfl rfl) (za rfl (za rfl (wl_nil (st_tn (w_seq (w_region (zm rfl (zd rfl (op_fieldAddr (off := 3) rfl tF27_3ts) (zd rfl (op_load1 rfl tO3ts (Ent.lab (l := 5) rfl (says_cel 3))) (zd rfl (op_fn Try.func11 rfl rfl rfl (budget_any bb (ruleV x).tgt (by omega) htg)) ?_))))))))))))
    refine zm rfl (zd rfl (op_extract rfl rfl) (zd rfl (op_extract rfl rfl) (za rfl (za rfl (wl_nil (st_tn (w_seq (w_region (zm rfl (zm rfl (zd rfl (op_add' rfl rfl (by omega)) ?_)))))))))))
    refine zd rfl (op_fieldAddr (off := 3) rfl tF27_3ts) (zd rfl (op_load1 rfl tO3ts (Ent.lab (l := 5) rfl (says_cel 3))) (zd rfl (op_fn Try.func11 rfl rfl rfl (budget_any (aa + bb) (ruleV x).tgt (by omega) htg)) ?_))
    refine zm rfl (zd rfl (op_extract rfl rfl) (zd rfl (op_extract rfl rfl) (za rfl (za rfl (wl_nil (st_tn (w_seq (w_region (zm rfl (zm rfl (zm rfl (zd rfl (op_add' rfl rfl (by omega)) ?_))))))))))))
    refine zd rfl (op_fieldAddr (off := 3) rfl tF27_3ts) (zd rfl (op_load1 rfl tO3ts (Ent.lab (l := 5) rfl (says_cel 3))) (zd rfl (op_fn Try.func12 rfl rfl rfl (Burn_any wr (aa + bb) (ruleV x).tgt hwb (by omega) htg)) ?_))
    refine zm rfl (zd rfl (op_extract rfl rfl) (zd rfl (op_extract rfl rfl) (za rfl (za rfl (wl_nil (st_tn (w_seq (w_region (zd rfl (op_loadA rfl tA32ts (Ent.lab (l := 6) rfl (says_cel 0)) (Nat.le_of_ble_eq_true rfl)) (zd rfl (op_loadA rfl tA32ts (Ent.lab (l := 7) rfl (says_cel 0)) (Nat.le_of_ble_eq_true rfl)) (zd rfl (op_fieldAddr (off := 3) rfl tF27_3ts) (zd rfl (op_load1 rfl tO3ts (Ent.lab (l := 5) rfl (says_cel 3))) (wl_op [] rfl rfl rfl rfl (op_fn Try.func13 rfl rfl rfl (fn_imp (exh_any (x := errV x a61 c61) (y := traV x a62 c62) (ruleV x).tgt htg (loadCin hB (r := ruX (errV x a61 c61) (ruleV x).tgt) ⟨(show nameP ⟨#[120]⟩ by decide +kernel), hro.n2, rfl, htg, (show (1 : Int) ≤ 1 ∧ (1 : Int) ≤ 1 ∧ (1 : Int) ≤ 256 by decide), (show (1 : Int) ≤ 1 ∧ (1 : Int) ≤ 1000000000 by decide), (show (0 : Int) ≤ 0 ∧ (0 : Int) ≤ 256 by decide)⟩ rfl a61 a62 c61 c62) (Sl.lab 61 rfl (by show ((pairsV x).map Prod.fst).length ≤ maxLen; unfold maxLen; omega)) (Sl.lab 62 rfl (by show ((pairsV x).map Prod.snd).length ≤ maxLen; unfold maxLen; omega))) (fun u ρ hu => (by rw [show (errV x a61 c61).vals.sum = wr from hs2.symm, show (traV x a62 c62).vals.sum = aa + bb from hs1.symm] at hu; exact hu : ∃ z : Int, u = .tuple #[.int .i64 z, .bool (decide (wr > budZ (aa + bb) (ruleV x).tgt)), .int .i64 0] ∧ ρ = [])))) ?_)))))))))))))
    rintro _ _ ⟨z164, rfl, rfl⟩
    refine zm rfl (zd rfl (op_extract rfl rfl) (zd rfl (op_extract rfl rfl) (zd rfl (op_extract rfl rfl) (za rfl (za rfl (za rfl (wl_nil (st_tn (w_seq ?_)))))))))
    have hba := bud_bd hab.1 htg
    have hbb := bud_bd hab.2 htg
    refine w_region (zm rfl (zd rfl (op_val (v' := .bool true) (by rfl) (op_eql rfl rfl)) ?_))
    refine zm rfl (wl_wanted_det rfl rfl rfl rfl rfl rfl rfl (op_move rfl) (wl_wanted_det rfl rfl rfl rfl rfl rfl rfl (op_val (v' := .bool true) (by rfl) (op_eql rfl rfl)) ?_))
    refine zd rfl (op_pick_t rfl rfl) (zm rfl (wl_wanted_det rfl rfl rfl rfl rfl rfl rfl (op_move rfl) (wl_wanted_det rfl rfl rfl rfl rfl rfl rfl (op_val (v' := .bool true) (by rfl) (op_eql rfl rfl)) ?_)))
    refine zd rfl (op_pick_t rfl rfl) (zm rfl (wl_wanted_det rfl rfl rfl rfl rfl rfl rfl (op_move rfl) (wl_wanted_det rfl rfl rfl rfl rfl rfl rfl (op_val (v' := .bool true) (by rfl) (op_eql rfl rfl)) ?_)))
    refine zd rfl (op_pick_t rfl rfl) (zm rfl (wl_wanted_det rfl rfl rfl rfl rfl rfl rfl (op_move rfl) (wl_wanted_det rfl rfl rfl rfl rfl rfl rfl (op_val (v' := .bool true) (by rfl) (op_eql rfl rfl)) ?_)))
    refine zd rfl (op_pick_t rfl rfl) (zm rfl (wl_wanted_det rfl rfl rfl rfl rfl rfl rfl (op_move rfl) (wl_wanted_det rfl rfl rfl rfl rfl rfl rfl (op_move rfl) (wl_wanted_det rfl rfl rfl rfl rfl rfl rfl (op_add' rfl rfl (by omega)) ?_))))
    refine wl_wanted_det rfl rfl rfl rfl rfl rfl rfl (op_move rfl) (wl_wanted_det rfl rfl rfl rfl rfl rfl rfl (op_val (v' := .bool true) (by rw [decide_eq_true hbs.1]) (op_leq rfl rfl)) ?_)
    refine zd rfl (op_pick_t rfl rfl) (zm rfl (wl_wanted_det rfl rfl rfl rfl rfl rfl rfl (op_move rfl) (wl_wanted_det rfl rfl rfl rfl rfl rfl rfl (op_move rfl) (wl_wanted_det rfl rfl rfl rfl rfl rfl rfl (op_move rfl) (wl_wanted_det rfl rfl rfl rfl rfl rfl rfl (op_add' rfl rfl (by omega)) ?_)))))
    refine wl_wanted_det rfl rfl rfl rfl rfl rfl rfl (op_add' rfl rfl (by omega)) ?_
    refine wl_wanted_det rfl rfl rfl rfl rfl rfl rfl (op_val (v' := .bool true) (by rw [decide_eq_true hbs.2]) (op_leq rfl rfl)) ?_
    refine zd rfl (op_pick_t rfl rfl) (zm rfl (wl_wanted_det rfl rfl rfl rfl rfl rfl rfl (op_move rfl) (wl_wanted_det rfl rfl rfl rfl rfl rfl rfl (op_geq rfl rfl) (wl_wanted_det rfl rfl rfl rfl rfl rfl rfl (op_move rfl) (wl_gsplit (t := 204) rfl (fun hg204 => ?_) (fun hg204 => ?_))))))
    · -- 204 is True
      refine wl_unwanted rfl rfl rfl rfl rfl rfl rfl rfl (wl_unwanted rfl rfl rfl rfl rfl rfl rfl rfl (wl_wanted_det rfl rfl rfl rfl rfl rfl rfl (op_pick_t rfl rfl) (zd rfl (op_pick_t rfl rfl) (zm rfl (wl_wanted_det rfl rfl rfl rfl rfl rfl rfl (op_move rfl) (wl_wanted_det rfl rfl rfl rfl rfl rfl rfl (op_move rfl) (wl_wanted_det rfl rfl rfl rfl rfl rfl rfl (op_move rfl) (wl_wanted_det rfl rfl rfl rfl rfl rfl rfl (op_gtr rfl rfl) (wl_wanted_det rfl rfl rfl rfl rfl rfl rfl (op_val (v' := .bool true) (by simp) (op_eqB rfl rfl Try.underlying4)) ?_)))))))))
      refine zd rfl (op_pick_t rfl rfl) (za rfl (wl_nil (st_tn (w_ret (st_ret (vs := [_]) [] Try.results3 ⟨rfl, trivial⟩ rfl ?_)))))
      refine ⟨_, rfl, ?_⟩
      exact ⟨rfl, rfl⟩
    · -- 204 is False
      refine wl_wanted_det rfl rfl rfl rfl rfl rfl rfl (op_val (v' := .bool false) (by rw [decide_eq_false (burn_small hwb htg (by assumption))]; rfl) (op_move rfl)) ?_
      refine wl_wanted_det rfl rfl rfl rfl rfl rfl rfl (op_not_f rfl) (wl_wanted_det rfl rfl rfl rfl rfl rfl rfl (op_pick_f rfl rfl) (zd rfl (op_pick_t rfl rfl) (zm rfl (wl_wanted_det rfl rfl rfl rfl rfl rfl rfl (op_move rfl) (wl_wanted_det rfl rfl rfl rfl rfl rfl rfl (op_move rfl) (wl_wanted_det rfl rfl rfl rfl rfl rfl rfl (op_move rfl) (wl_wanted_det rfl rfl rfl rfl rfl rfl rfl (op_gtr rfl rfl) (wl_wanted_det rfl rfl rfl rfl rfl rfl rfl (op_val (v' := .bool true) (by simp) (op_eqB rfl rfl Try.underlying4)) ?_))))))))
      refine zd rfl (op_pick_t rfl rfl) (za rfl (wl_nil (st_tn (w_ret (st_ret (vs := [_]) [] Try.results3 ⟨rfl, trivial⟩ rfl ?_)))))
      refine ⟨_, rfl, ?_⟩
      exact ⟨rfl, rfl⟩
end Go.Proofs.Ytecmigildpkigaa
namespace Go.Proofs.Ytecmigildpkigaa
open Go Go.SL Go.RowKit
set_option linter.unusedVariables false
set_option linter.unusedSimpArgs false
set_option maxRecDepth 100000 in
theorem open_load {H : Type} {enc : TypeId × Value → H} {W : World} {v : Value} {d : DataW H} {p : List MemPlace} (hval : Value.okWide Try.prog W .any 0 24 v) (h : DataW.Trod enc Try.prog W 0 (fun _ => true) true 24 v d p) :
    ∃ (a2 : Option Addr) (c2 : Nat) (l2 : List (Int × Int)) (x3 : Int) (x4 : Int) (x5 : Int) (x6 : Int) (x7 : Int), v = .agg #[.slice a2 l2.length c2, .int .u8 x3, .int .u8 x4, .int .u8 x5, .int .u8 x6, .int .u8 x7] ∧ Sl W [whole W] encP8 2 (.slice a2 l2.length c2) l2 ∧ (∀ p ∈ l2, (0 ≤ p.1 ∧ p.1 ≤ 255) ∧ (0 ≤ p.2 ∧ p.2 ≤ 255)) ∧ (0 ≤ x3 ∧ x3 ≤ 255) ∧ (0 ≤ x4 ∧ x4 ≤ 255) ∧ (0 ≤ x5 ∧ x5 ≤ 255) ∧ (0 ≤ x6 ∧ x6 ≤ 255) ∧ (0 ≤ x7 ∧ x7 ≤ 255) := by
  obtain ⟨cs, rfl⟩ := okWide_agg (ss := [.slice 2 (.row [.int .u8, .int .u8]), .int .u8, .int .u8, .int .u8, .int .u8, .int .u8]) (by kernel_rfl) hval
  obtain ⟨d, hd, hc, hdeep⟩ := open_Trod (s := .row [.slice 2 (.row [.int .u8, .int .u8]), .int .u8, .int .u8, .int .u8, .int .u8, .int .u8]) (by kernel_rfl) h
  obtain ⟨dsx1, rfl, hdsx1⟩ := has_row hd
  obtain ⟨ex1_0, rx1_0, rfl, qx1_0, hdsx1⟩ := has_cons hdsx1
  obtain ⟨ex1_1, rx1_1, rfl, qx1_1, hdsx1⟩ := has_cons hdsx1
  obtain ⟨ex1_2, rx1_2, rfl, qx1_2, hdsx1⟩ := has_cons hdsx1
  obtain ⟨ex1_3, rx1_3, rfl, qx1_3, hdsx1⟩ := has_cons hdsx1
  obtain ⟨ex1_4, rx1_4, rfl, qx1_4, hdsx1⟩ := has_cons hdsx1
  obtain ⟨ex1_5, rx1_5, rfl, qx1_5, hdsx1⟩ := has_cons hdsx1
  obtain rfl := has_nil hdsx1
  obtain ⟨a2, c2, l2, rfl, hl2⟩ := has_slice qx1_0
  obtain ⟨l2, rfl, hb2⟩ := of_all (fun p : Int × Int => (.row [.z .u8 p.1, .z .u8 p.2] : D)) (fun p => (0 ≤ p.1 ∧ p.1 ≤ 255) ∧ (0 ≤ p.2 ∧ p.2 ≤ 255)) l2 (fun d hd => by
      obtain ⟨dsy201, rfl, hdsy201⟩ := has_row (hl2 d hd)
      obtain ⟨ey201_0, ry201_0, rfl, qy201_0, hdsy201⟩ := has_cons hdsy201
      obtain ⟨ey201_1, ry201_1, rfl, qy201_1, hdsy201⟩ := has_cons hdsy201
      obtain rfl := has_nil hdsy201
      obtain ⟨y202, rfl, hy202⟩ := has_int qy201_0
      obtain ⟨y203, rfl, hy203⟩ := has_int qy201_1
      exact ⟨(y202, y203), rfl, ⟨wf_u8 hy202, wf_u8 hy203⟩⟩)
  obtain ⟨x3, rfl, hx3⟩ := has_int qx1_1
  obtain ⟨x4, rfl, hx4⟩ := has_int qx1_2
  obtain ⟨x5, rfl, hx5⟩ := has_int qx1_3
  obtain ⟨x6, rfl, hx6⟩ := has_int qx1_4
  obtain ⟨x7, rfl, hx7⟩ := has_int qx1_5
  refine ⟨a2, c2, l2, x3, x4, x5, x6, x7, ?_, Sl.conv (deep_sl hdeep.1) (fun _ => rfl), hb2, wf_u8 hx3, wf_u8 hx4, wf_u8 hx5, wf_u8 hx6, wf_u8 hx7⟩
  congr 1
  apply Array.ext'
  simp only [Value.cells] at hc
  rw [hc]
  simp [encD, encDs]
end Go.Proofs.Ytecmigildpkigaa
