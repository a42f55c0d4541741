/- Contracts: both, Join (layer 43). Conditions: none. -/
import Derived.Test.YtbgddblfalahfaaS12
namespace Go.Proofs.Ytbgddblfalahfaa
open Go Go.SL Go.RowKit
set_option linter.unusedVariables false
set_option linter.unusedSimpArgs false
theorem tA48m : aggB Try.prog 48 7 = true := by kernel_rfl
theorem tB48m : placesB Try.prog 48 = some ([(0, 1), (1, 1), (2, 1), (3, 2), (5, 1), (6, 1)], [Value.string .empty, Value.string .empty, Value.int .i64 0, Value.int .i64 0, Value.int .i64 0, Value.int .i64 0, Value.slice none 0 0]) := by kernel_rfl
theorem tF37_0m : fieldB Try.prog 37 0 0 = true := by kernel_rfl
theorem tF37_1m : fieldB Try.prog 37 1 1 = true := by kernel_rfl
theorem tF48_4m : fieldB Try.prog 48 4 5 = true := by kernel_rfl
theorem tF48_5m : fieldB Try.prog 48 5 6 = true := by kernel_rfl
theorem tL25_1m : zerosB Try.prog 25 3 1 1 = some [Value.int .i64 0] := by kernel_rfl
theorem tMixm : Try.prog.follows .mixedOrders = true := by kernel_rfl
theorem tN37m : (Try.prog.info? 37).bind (·.zero) = some (Value.agg #[Value.int .i64 0, Value.int .i64 0]) := by kernel_rfl
theorem tN48m : (Try.prog.info? 48).bind (·.zero) = some (Value.agg #[Value.string .empty, Value.string .empty, Value.int .i64 0, Value.int .i64 0, Value.int .i64 0, Value.int .i64 0, Value.slice none 0 0]) := by kernel_rfl
theorem tO25m : oneB Try.prog 25 = true := by kernel_rfl
theorem tO3m : oneB Try.prog 3 = true := by kernel_rfl
theorem tP25m : appB Try.prog 25 3 1 8 = true := by kernel_rfl
theorem tS25m : sliceB Try.prog 25 3 1 = true := by kernel_rfl
theorem tZ25m : (Try.prog.info? 25).map (·.size) = some 1 := by kernel_rfl
theorem tZ37m : (Try.prog.info? 37).map (·.size) = some 2 := by kernel_rfl
theorem tZ48m : (Try.prog.info? 48).map (·.size) = some 7 := by kernel_rfl

theorem find_at {α : Type} {l : List α} {p : α → Bool} {i : Nat} {x : α} (hx : l[i]? = some x) (hp : p x = true) (hn : ∀ q ∈ l.take i, p q = false) : l.find? p = some x := by
  have h1 : l = l.take i ++ x :: l.drop (i + 1) := by
    obtain ⟨h1, h2⟩ := List.getElem?_eq_some_iff.1 hx
    conv => lhs; rw [← List.take_append_drop i l]
    rw [List.drop_eq_getElem_cons h1, h2]
  rw [h1, List.find?_append, List.find?_eq_none.2 (fun q hq => by rw [hn q hq]; simp), List.find?_cons, hp]; rfl
/-- The slots of an interval. -/
def slots (lo hi : Int) : List Int := (List.range (hi - lo).toNat).map fun (i : Nat) => lo + (i : Int)
theorem slots_get {lo hi s : Int} (h0 : lo ≤ s) (h1 : s < hi) : (slots lo hi)[(s - lo).toNat]? = some s := by
  unfold slots
  rw [List.getElem?_map, List.getElem?_range (by omega)]
  simp; omega
theorem slots_len {lo hi : Int} : (slots lo hi).length = (hi - lo).toNat := by unfold slots; simp
theorem mem_slots {lo hi s : Int} : s ∈ slots lo hi ↔ lo ≤ s ∧ s < hi := by
  unfold slots
  rw [List.mem_map]
  constructor
  · rintro ⟨i, hi, rfl⟩; rw [List.mem_range] at hi; omega
  · intro h; exact ⟨(s - lo).toNat, by rw [List.mem_range]; omega, by omega⟩
theorem slots_snoc {lo hi s : Int} (h0 : lo ≤ s) (h1 : s < hi) : (slots lo hi).take (s + 1 - lo).toNat = (slots lo hi).take (s - lo).toNat ++ [s] := by
  rw [show (s + 1 - lo).toNat = (s - lo).toNat + 1 by omega]; exact take_snoc (slots_get h0 h1)
/-- What both returns. -/
def bothR (k : SK) (lo hi : Int) (val : Int → Int × Int) : R :=
  if hi - lo > 1024 then zeroR 6 else match (slots lo hi).find? (fun s => decide ((val s).2 ≠ 0)) with
  | some s => zeroR (val s).2
  | none => ⟨k, lo, (slots lo hi).map (fun s => (val s).1), 0⟩
set_option maxHeartbeats 2000000 in
set_option maxRecDepth 100000 in
theorem both_any {σ : World} {F : List Res} {a b : Option Addr} {c d : Nat} {l m : List Int} {gf : Nat} {gn : Func} {fs cs : List Value} (lab : Nat) (k : SK) (fr : Int) (k' : SK) (fr' : Int) (val : Int → Int × Int) (h : Sl σ F encZ 1 (.slice a l.length c) l) (g : Sl σ F encZ 1 (.slice b m.length d) m) (hl : l.length ≤ 1048576) (hm : m.length ≤ 1048576) (hf : -1099511627776 ≤ fr ∧ fr ≤ 1099511627776) (hf' : -1099511627776 ≤ fr' ∧ fr' ≤ 1099511627776)
    (hg : Try.prog.funcs[gf]? = some gn) (hgb : gn.body.isSome = true) (hgn : (gn.name == "runtime.NumGoroutine") = false) (hp : ∀ (X : List Res) (s : Int), min fr fr' ≤ s → s < max (fr + l.length) (fr' + m.length) → FnT Try.prog σ (X ++ F) gf (fs ++ [.int .i64 s] ++ cs) [] (fun u ρ => u = .tuple #[.int .i64 (val s).1, .int .i64 (val s).2] ∧ ρ = [])) :
    FnT Try.prog σ F 71 [sr k fr (.slice a l.length c), sr k' fr' (.slice b m.length d), .func (.func gf) fs.toArray cs.toArray] [] (SerV (bothR k (min fr fr') (max (fr + l.length) (fr' + m.length)) val) lab) := by
  refine fn_of 61 Try.func71 rfl Try.ntmps71 rfl ?_
  have hle := h.i64
  have gle := g.i64
  refine w_seq ?_
  refine w_region ?_
  refine wl_op [] rfl rfl rfl rfl (op_box (T := 48) (l := 3) rfl) ?_
  rintro _ _ ⟨b3, rfl, rfl⟩
  refine wl_op [] rfl rfl rfl rfl (op_box (T := 48) (l := 4) rfl) ?_
  rintro _ _ ⟨b4, rfl, rfl⟩
  refine wl_op [] rfl rfl rfl rfl (op_alloc (l := 6) tN48m) ?_
  rintro _ _ ⟨b6, rfl, rfl⟩
  refine wl_det rfl rfl rfl (op_assign rfl) ?_
  refine wl_nil ?_
  refine st_tn ?_
  refine w_seq ?_
  refine w_drawW (fun β => [⟨16, [], [], [], noW (_), false, [], []⟩, ⟨17, [0], [], [], noW (_), false, [], []⟩, ⟨18, [], [], [], noW (_), false, [], []⟩, ⟨19, [2], [], [], noW (_), false, [], []⟩, ⟨8, [], [], [], fun w => DetW _ _, false, [], []⟩, ⟨9, [], [], [], fun w => DetW _ _, false, [], []⟩]) [] [3, 4] [⟨16, [], [], false, [], []⟩, ⟨17, [0], [], false, [], []⟩, ⟨18, [], [], false, [], []⟩, ⟨19, [2], [], false, [], []⟩, ⟨8, [], [], false, [], []⟩, ⟨9, [], [], false, [], []⟩] [[], [], [], [], [], []] [[], [], [], [], [], []] tMixm (fun _ => by rfl) (fun _ => by rfl) (by kernel_rfl) (by kernel_rfl) (by rfl) (by rfl)
      (fun β => ⟨.p rfl (by intro X; exact op_loadA rfl tA48m (Ent.lab (l := 3) rfl (says_cel 0)) (Nat.le_of_ble_eq_true rfl)),
      ⟨.p rfl (by intro X; rintro _ _ ⟨rfl, rfl⟩; exact op_fn Try.func45 rfl rfl rfl (slots_any _ _ (Sl.app (Sl.app h X) _) (by omega) (by omega))),
      ⟨.p rfl (by intro X; exact op_loadA rfl tA48m (Ent.lab (l := 4) rfl (says_cel 0)) (Nat.le_of_ble_eq_true rfl)),
      ⟨.p rfl (by intro X; rintro _ _ ⟨rfl, rfl⟩; exact op_fn Try.func45 rfl rfl rfl (slots_any _ _ (Sl.app (Sl.app g X) _) (by omega) (by omega))),
      ⟨.px rfl (by intro X; refine OpT.mono (op_alloc (l := 8) tN37m) ?_; rintro _ _ ⟨b8, rfl, rfl⟩; obtain ⟨w, rfl⟩ : ∃ w : Wt, w.b = b8 := ⟨{ b := b8 }, rfl⟩; exact ⟨w, rfl, rfl⟩),
      ⟨.px rfl (by intro X; refine OpT.mono (op_alloc (l := 9) tN37m) ?_; rintro _ _ ⟨b9, rfl, rfl⟩; obtain ⟨w, rfl⟩ : ∃ w : Wt, w.b = b9 := ⟨{ b := b9 }, rfl⟩; exact ⟨w, rfl, rfl⟩),
      trivial⟩⟩⟩⟩⟩⟩)
      (fun β β' => ⟨fun _ => by rfl, ⟨fun _ => by rfl, ⟨fun _ => by rfl, ⟨fun _ => by rfl, ⟨fun _ => by rfl, ⟨fun _ => by rfl, trivial⟩⟩⟩⟩⟩⟩) ?_
  intro β
  rintro _ _ ⟨rfl, rfl⟩ _ _ ⟨rfl, rfl⟩ _ _ ⟨rfl, rfl⟩ _ _ ⟨rfl, rfl⟩ _ _ ⟨rfl, rfl⟩ _ _ ⟨rfl, rfl⟩
  generalize (β 4).b = b8
  generalize (β 5).b = b9
  refine wl_norm (e' := [(2, _), (3, _), (6, _), (8, _), (9, _), (17, _), (19, _)]) (.cons rfl (.cons rfl (.cons rfl (.cons rfl (.cons rfl (.cons rfl (.cons rfl (.nil _)))))))) (by dsimp only [cond_false, cond_true, List.nil_append, List.cons_append]) ?_
  refine wl_op0 [8] rfl rfl rfl (op_store rfl rfl tZ37m (by rfl) (by rfl) (by exact Nat.le_of_ble_eq_true rfl)) ?_
  rintro _ _ ⟨rfl, rfl⟩
  refine wl_op0 [9] rfl rfl rfl (op_store rfl rfl tZ37m (by rfl) (by rfl) (by exact Nat.le_of_ble_eq_true rfl)) ?_
  rintro _ _ ⟨rfl, rfl⟩
  refine wl_nil ?_
  refine st_tn ?_
  refine w_seq ?_
  refine w_drawW (fun β => [⟨20, [], [], [], noW (_), false, [], []⟩, ⟨21, [0], [], [], noW (_), false, [], []⟩, ⟨22, [], [], [], noW (_), false, [], []⟩, ⟨23, [2], [], [], noW (_), false, [], []⟩, ⟨24, [1, 3], [], [], noW (_), false, [], []⟩, ⟨25, [], [], [], noW (_), false, [], []⟩, ⟨26, [5], [], [], noW (_), false, [], []⟩, ⟨27, [], [], [], noW (_), false, [], []⟩, ⟨28, [7], [], [], noW (_), false, [], []⟩, ⟨29, [6, 8], [], [], noW (_), false, [], []⟩, ⟨10, [4], [], [], noW (_), false, [], []⟩]) [] [8, 9] [⟨20, [], [], false, [], []⟩, ⟨21, [0], [], false, [], []⟩, ⟨22, [], [], false, [], []⟩, ⟨23, [2], [], false, [], []⟩, ⟨24, [1, 3], [], false, [], []⟩, ⟨25, [], [], false, [], []⟩, ⟨26, [5], [], false, [], []⟩, ⟨27, [], [], false, [], []⟩, ⟨28, [7], [], false, [], []⟩, ⟨29, [6, 8], [], false, [], []⟩, ⟨10, [4], [], false, [], []⟩] [[], [], [], [], [], [], [], [], [], [], []] [[], [], [], [], [], [], [], [], [], [], []] tMixm (fun _ => by rfl) (fun _ => by rfl) (by kernel_rfl) (by kernel_rfl) (by rfl) (by rfl)
      (fun β => ⟨.p rfl (by intro X; exact op_fieldAddr (off := 0) rfl tF37_0m),
      ⟨.p rfl (by intro X; rintro _ _ ⟨rfl, rfl⟩; exact op_load1 rfl tO3m (Ent.lab (l := 8) rfl (says_cel 0))),
      ⟨.p rfl (by intro X; exact op_fieldAddr (off := 0) rfl tF37_0m),
      ⟨.p rfl (by intro X; rintro _ _ ⟨rfl, rfl⟩; exact op_load1 rfl tO3m (Ent.lab (l := 9) rfl (says_cel 0))),
      ⟨.p rfl (by intro X; rintro _ _ ⟨rfl, rfl⟩ _ _ ⟨rfl, rfl⟩; exact op_min rfl rfl),
      ⟨.p rfl (by intro X; exact op_fieldAddr (off := 1) rfl tF37_1m),
      ⟨.p rfl (by intro X; rintro _ _ ⟨rfl, rfl⟩; exact op_load1 rfl tO3m (Ent.lab (l := 8) rfl (says_cel 1))),
      ⟨.p rfl (by intro X; exact op_fieldAddr (off := 1) rfl tF37_1m),
      ⟨.p rfl (by intro X; rintro _ _ ⟨rfl, rfl⟩; exact op_load1 rfl tO3m (Ent.lab (l := 9) rfl (says_cel 1))),
      ⟨.p rfl (by intro X; rintro _ _ ⟨rfl, rfl⟩ _ _ ⟨rfl, rfl⟩; exact op_max rfl rfl),
      ⟨.p rfl (by intro X; rintro _ _ ⟨rfl, rfl⟩; exact op_assign rfl),
      trivial⟩⟩⟩⟩⟩⟩⟩⟩⟩⟩⟩)
      (fun β β' => ⟨fun _ => by rfl, ⟨fun _ => by rfl, ⟨fun _ => by rfl, ⟨fun _ => by rfl, ⟨fun _ => by rfl, ⟨fun _ => by rfl, ⟨fun _ => by rfl, ⟨fun _ => by rfl, ⟨fun _ => by rfl, ⟨fun _ => by rfl, ⟨fun _ => by rfl, trivial⟩⟩⟩⟩⟩⟩⟩⟩⟩⟩⟩) ?_
  intro β
  rintro _ _ ⟨rfl, rfl⟩ _ _ ⟨rfl, rfl⟩ _ _ ⟨rfl, rfl⟩ _ _ ⟨rfl, rfl⟩ _ _ ⟨rfl, rfl⟩ _ _ ⟨rfl, rfl⟩ _ _ ⟨rfl, rfl⟩ _ _ ⟨rfl, rfl⟩ _ _ ⟨rfl, rfl⟩ _ _ ⟨rfl, rfl⟩ _ _ ⟨rfl, rfl⟩
  refine wl_norm (e' := [(2, _), (3, _), (6, _), (10, _), (29, _)]) (.cons rfl (.cons rfl (.cons rfl (.cons rfl (.cons rfl (.nil _)))))) (by dsimp only [cond_false, cond_true, List.nil_append, List.cons_append]) ?_
  refine wl_det rfl rfl rfl (op_assign rfl) ?_
  refine wl_nil ?_
  refine st_tn ?_
  refine w_seq ?_
  obtain ⟨lo, hlo⟩ : ∃ lo, lo = min fr fr' := ⟨_, rfl⟩
  obtain ⟨hi, hhi⟩ : ∃ hi, hi = max (fr + l.length) (fr' + m.length) := ⟨_, rfl⟩
  rw [← hlo, ← hhi]
  simp only [← hlo, ← hhi] at hp
  refine w_region ?_
  refine wl_det rfl rfl rfl (op_loadA rfl tA48m (Ent.lab (l := 3) rfl (says_cel 0)) (Nat.le_of_ble_eq_true rfl)) ?_
  refine wl_det rfl rfl rfl (op_move rfl) ?_
  refine wl_det rfl rfl rfl (op_fn Try.func55 rfl rfl rfl (like_any k fr lo a none l.length c 0 0)) ?_
  refine wl_op [] rfl rfl rfl rfl (op_alloc (l := 12) tN48m) ?_
  rintro _ _ ⟨b12, rfl, rfl⟩
  refine wl_op0 [12] rfl rfl rfl (op_store rfl rfl tZ48m (by rfl) (by rfl) (by exact Nat.le_of_ble_eq_true rfl)) ?_
  rintro _ _ ⟨rfl, rfl⟩
  refine wl_nil ?_
  refine st_tn ?_
  refine w_seq ?_
  refine w_seq ?_
  refine w_region ?_
  refine wl_det rfl rfl rfl (op_move rfl) ?_
  refine wl_det rfl rfl rfl (op_move rfl) ?_
  refine wl_det rfl rfl rfl (op_sub' rfl rfl (by omega)) ?_
  refine wl_det rfl rfl rfl (op_gtr rfl rfl) ?_
  refine wl_nil ?_
  refine st_tn ?_
  refine w_cond_d rfl (fun hc36 => ?_) (fun hc36 => ?_)
  · -- c36.t
    refine w_seq ?_
    refine w_emp 77 (slO_nil 3 1) ?_
    refine w_region ?_
    refine wl_det rfl rfl rfl (op_build tB48m rfl rfl) ?_
    refine wl_op0 [6] rfl rfl rfl (op_store rfl rfl tZ48m (by rfl) (by rfl) (by exact Nat.le_of_ble_eq_true rfl)) ?_
    rintro _ _ ⟨rfl, rfl⟩
    refine wl_det rfl rfl rfl (op_assign rfl) ?_
    refine wl_nil ?_
    refine st_tn ?_
    refine w_ret ?_
    refine st_tr ?_
    refine st_ret (vs := [_, _]) [77] Try.results71 ⟨⟨_, rfl, Ent.mono (Ent.lab (l := 6) rfl (says_cel 0)) (fun _ h => run_load_agg tA48m h (Nat.le_of_ble_eq_true rfl))⟩, ⟨rfl, trivial⟩⟩ rfl ?_
    refine ⟨[(lab, _)], rfl, ?_⟩
    unfold bothR; rw [if_pos hc36]; exact ⟨none, 0, rfl, rfl⟩
  · -- c36.f
    refine w_skip ?_
    refine st_tn ?_
    refine w_seq ?_
    refine w_seq ?_
    refine w_region ?_
    refine wl_det rfl rfl rfl (op_move rfl) ?_
    refine wl_det rfl rfl rfl (op_assign rfl) ?_
    refine wl_nil ?_
    refine st_tn ?_
    refine w_block ?_
    refine w_emp 912 (slO_nil 3 1) ?_
    refine w_loopQ (X := Int × List Int × Option Addr × Nat) (fun z => (lo ≤ z.1 ∧ z.1 ≤ hi) ∧ z.2.1 = ((slots lo hi).take (z.1 - lo).toNat).map (fun q => (val q).1) ∧ ∀ q ∈ (slots lo hi).take (z.1 - lo).toNat, (val q).2 = 0) (fun z => [(13, .int .i64 (z.1))]) (fun z => [(912, slW 3 encZ 1 (.slice (z.2.2.1) (z.2.1).length (z.2.2.2)) (z.2.1)), (12, cel b12 [.string k.svc, .string k.op, .int .i64 k.met, .int .i64 k.qn, .int .i64 k.qd, .int .i64 lo, .slice (z.2.2.1) (z.2.1).length (z.2.2.2)] 48)]) (fun z => (hi - z.1).toNat) ((_, [], none, 0)) [(2, _), (6, _), (11, _), (12, _)] [(3, _), (4, _), (6, _), (8, _), (9, _)] [912, 12, 3, 4, 6, 8, 9] rfl (rfl) (.cons rfl (.nil _)) (.cons rfl (.cons rfl (.cons rfl (.cons rfl (.nil _))))) (by
        try dsimp only
        exact ⟨by omega, by rw [Int.sub_self]; rfl, by rw [Int.sub_self]; simp⟩) ?_
    rintro ⟨s, out, a_out, c_out⟩ ⟨hs, ho, hn⟩
    refine w_norm2 (by dsimp only [List.cons_append, List.nil_append]) (by dsimp only [List.cons_append, List.nil_append]) ?_
    try dsimp only at hs ho hn ⊢
    refine w_seq ?_
    refine w_seq ?_
    refine w_region ?_
    refine wl_det rfl rfl rfl (op_move rfl) ?_
    refine wl_det rfl rfl rfl (op_move rfl) ?_
    refine wl_det rfl rfl rfl (op_lss rfl rfl) ?_
    refine wl_nil ?_
    refine st_tn ?_
    refine w_cond_d rfl (fun hc41 => ?_) (fun hc41 => ?_)
    · -- c41.t
      have hol : out.length ≤ 1024 := by rw [ho, List.length_map, List.length_take, slots_len]; omega
      refine w_skip ?_
      refine st_tn ?_
      refine w_seq ?_
      refine w_block ?_
      refine w_seq ?_
      refine w_region ?_
      refine wl_det rfl rfl rfl (op_move rfl) ?_
      refine wl_det rfl rfl rfl (op_move rfl) ?_
      refine wl_det rfl rfl rfl (op_fnv hg hgb hgn rfl rfl (hp _ s hs.1 (by omega))) ?_
      refine wl_det rfl rfl rfl (op_move rfl) ?_
      refine wl_det rfl rfl rfl (op_extract rfl rfl) ?_
      refine wl_det rfl rfl rfl (op_extract rfl rfl) ?_
      refine wl_det rfl rfl rfl (op_assign rfl) ?_
      refine wl_det rfl rfl rfl (op_assign rfl) ?_
      refine wl_nil ?_
      refine st_tn ?_
      refine w_seq ?_
      refine w_seq ?_
      refine w_region ?_
      refine wl_det rfl rfl rfl (op_move rfl) ?_
      refine wl_det rfl rfl rfl (op_neq rfl rfl) ?_
      refine wl_nil ?_
      refine st_tn ?_
      refine w_cond_d rfl (fun hc51 => ?_) (fun hc51 => ?_)
      · -- c51.t
        refine w_seq ?_
        refine w_emp 77 (slO_nil 3 1) ?_
        refine w_region ?_
        refine wl_det rfl rfl rfl (op_build tB48m rfl rfl) ?_
        refine wl_det rfl rfl rfl (op_move rfl) ?_
        refine wl_op0 [6] rfl rfl rfl (op_store rfl rfl tZ48m (by rfl) (by rfl) (by exact Nat.le_of_ble_eq_true rfl)) ?_
        rintro _ _ ⟨rfl, rfl⟩
        refine wl_det rfl rfl rfl (op_assign rfl) ?_
        refine wl_nil ?_
        refine st_tn ?_
        refine w_ret ?_
        refine st_tr ?_
        refine st_br ?_
        refine st_tr ?_
        refine st_tr ?_
        refine st_br ?_
        refine st_tr ?_
        refine st_ret (vs := [_, _]) [77] Try.results71 ⟨⟨_, rfl, Ent.mono (Ent.lab (l := 6) rfl (says_cel 0)) (fun _ h => run_load_agg tA48m h (Nat.le_of_ble_eq_true rfl))⟩, ⟨rfl, trivial⟩⟩ rfl ?_
        refine ⟨[(lab, _)], rfl, ?_⟩
        have hb : bothR k lo hi val = zeroR (val s).2 := by
          unfold bothR; rw [if_neg hc36, find_at (slots_get hs.1 (by omega)) (decide_eq_true hc51) (fun q hq => by rw [hn q hq]; simp)]
        rw [hb]; exact ⟨none, 0, rfl, rfl⟩
      · -- c51.f
        refine w_skip ?_
        refine st_tn ?_
        refine w_region ?_
        refine wl_det rfl rfl rfl (op_fieldAddr (off := 6) rfl tF48_5m) ?_
        refine wl_det rfl rfl rfl (op_load1 rfl tO25m (Ent.lab (l := 12) rfl (says_cel 6))) ?_
        refine wl_det rfl rfl rfl (op_move rfl) ?_
        refine wl_op [] rfl rfl rfl rfl (op_buildSlice (enc := encZ) (l := [_]) (lab := 57) tL25_1m rfl rfl (fun _ => rfl) rfl) ?_
        rintro _ _ ⟨a57, c57, rfl, rfl⟩
        refine wl_op [912] rfl rfl rfl rfl (op_append (lab := 912) (lab' := 58) rfl rfl tP25m enc1Z (Sl.lab 57 rfl (by simp [maxLen])) (by first | omega | (simp; done) | (simp; omega) | (simp [*]; omega)) (by first | omega | (simp; done) | (simp; omega) | (simp [*]; omega))) ?_
        rintro _ _ ⟨a58, c58, rfl, rfl⟩
        refine wl_det rfl rfl rfl (op_fieldAddr (off := 6) rfl tF48_5m) ?_
        refine wl_op0 [12] rfl rfl rfl (op_store rfl rfl tZ25m (by rfl) (by rfl) (by exact Nat.le_of_ble_eq_true rfl)) ?_
        rintro _ _ ⟨rfl, rfl⟩
        refine wl_nil ?_
        refine st_bn ?_
        refine st_tn ?_
        refine w_region ?_
        refine wl_det rfl rfl rfl (op_move rfl) ?_
        refine wl_det rfl rfl rfl (op_add' rfl rfl (by omega)) ?_
        refine wl_det rfl rfl rfl (op_assign rfl) ?_
        refine wl_nil ?_
        refine st_roundQ (x := (s, out, a_out, c_out)) ((s + 1, _, _, _)) [58, 12, 3, 4, 6, 8, 9] rfl (rfl) (.cons rfl (.nil _)) (.cons rfl (.cons rfl (.cons rfl (.cons rfl (.nil _))))) (by
            try dsimp only
            refine ⟨by omega, ?_, ?_⟩
            · rw [slots_snoc hs.1 (by omega), List.map_append, ← ho]; rfl
            · rw [slots_snoc hs.1 (by omega)]; intro q hq; rcases List.mem_append.1 hq with hq | hq; (· exact hn q hq); (· simp only [List.mem_singleton] at hq; subst hq; exact Classical.byContradiction hc51)) (by
            try dsimp only
            omega) 
    · -- c41.f
      refine w_exit ?_
      refine st_te ?_
      refine st_te ?_
      refine st_be ?_
      refine st_tn ?_
      refine w_seq ?_
      refine w_region ?_
      refine wl_det rfl rfl rfl (op_loadA rfl tA48m (Ent.lab (l := 12) rfl (says_cel 0)) (Nat.le_of_ble_eq_true rfl)) ?_
      refine wl_op0 [6] rfl rfl rfl (op_store rfl rfl tZ48m (by rfl) (by rfl) (by exact Nat.le_of_ble_eq_true rfl)) ?_
      rintro _ _ ⟨rfl, rfl⟩
      refine wl_det rfl rfl rfl (op_assign rfl) ?_
      refine wl_nil ?_
      refine st_tn ?_
      refine w_ret ?_
      refine st_ret (vs := [_, _]) [912] Try.results71 ⟨⟨_, rfl, Ent.mono (Ent.lab (l := 6) rfl (says_cel 0)) (fun _ h => run_load_agg tA48m h (Nat.le_of_ble_eq_true rfl))⟩, ⟨rfl, trivial⟩⟩ rfl ?_
      refine ⟨[(lab, _)], rfl, ?_⟩
      have hol : (slots lo hi).take (s - lo).toNat = slots lo hi := List.take_of_length_le (by rw [slots_len]; omega)
      rw [hol] at ho hn
      have hb : bothR k lo hi val = ⟨k, lo, out, 0⟩ := by
        unfold bothR; rw [if_neg hc36, List.find?_eq_none.2 (fun q hq => by rw [hn q hq]; simp), ← ho]
      rw [hb]; exact ⟨_, _, rfl, rfl⟩

/-- The value of two joined series in a slot. -/
def joinV (l : List Int) (fr : Int) (m : List Int) (fr' : Int) (x : Int) : Int := if fr ≤ x ∧ x < fr + l.length then atV l fr x else atV m fr' x
-- CALL sleuth/series.At at_any _ _ _ {s0} (by omega) (by omega) (by omega)
set_option maxHeartbeats 1000000 in
set_option maxRecDepth 100000 in
theorem join1_any {σ : World} {F : List Res} {p q : Addr} {a b : Option Addr} {c d : Nat} {l m : List Int} {k : SK} {fr : Int} {k' : SK} {fr' : Int} (x : Int) (hp : Ent σ F (At p (sr k fr (.slice a l.length c)).cells.toList)) (hq : Ent σ F (At q (sr k' fr' (.slice b m.length d)).cells.toList)) (h : Sl σ F encZ 1 (.slice a l.length c) l) (g : Sl σ F encZ 1 (.slice b m.length d) m) (hl : l.length ≤ 1048576) (hm : m.length ≤ 1048576) (hf : -1099511627776 ≤ fr ∧ fr ≤ 1099511627776) (hf' : -1099511627776 ≤ fr' ∧ fr' ≤ 1099511627776) (hx : -9223372036854775808 ≤ x ∧ x ≤ 9223372036854775807) :
    FnT Try.prog σ F 72 [.int .i64 x, .pointer (some p), .pointer (some q)] [] (fun u ρ => u = .tuple #[.int .i64 (joinV l fr m fr' x), .int .i64 0] ∧ ρ = []) := by
  refine fn_of 25 Try.func72 rfl Try.ntmps72 rfl ?_
  refine w_seq ?_
  refine w_region ?_
  refine wl_det rfl rfl rfl (op_assign rfl) ?_
  refine wl_det rfl rfl rfl (op_assign rfl) ?_
  refine wl_nil ?_
  refine st_tn ?_
  refine w_seq ?_
  refine w_seq ?_
  refine w_region ?_
  refine wl_det rfl rfl rfl (op_loadA rfl tA48m (Ent.app hp _) (Nat.le_of_ble_eq_true rfl)) ?_
  refine wl_det rfl rfl rfl (op_move rfl) ?_
  refine wl_det rfl rfl rfl (op_fn Try.func43 rfl rfl rfl (at_any _ _ _ (Sl.app h _) (by omega) (by omega) (by omega))) ?_
  refine wl_det rfl rfl rfl (op_move rfl) ?_
  refine wl_det rfl rfl rfl (op_extract rfl rfl) ?_
  refine wl_det rfl rfl rfl (op_extract rfl rfl) ?_
  refine wl_det rfl rfl rfl (op_assign rfl) ?_
  refine wl_det rfl rfl rfl (op_assign rfl) ?_
  refine wl_nil ?_
  refine st_tn ?_
  refine w_seq ?_
  refine w_region ?_
  refine wl_det rfl rfl rfl (op_move rfl) ?_
  refine wl_nil ?_
  refine st_tn ?_
  refine w_cond_d rfl (fun hc16 => ?_) (fun hc16 => ?_)
  · -- c16.t
    refine w_seq ?_
    refine w_region ?_
    refine wl_det rfl rfl rfl (op_move rfl) ?_
    refine wl_det rfl rfl rfl (op_assign rfl) ?_
    refine wl_det rfl rfl rfl (op_assign rfl) ?_
    refine wl_nil ?_
    refine st_tn ?_
    refine w_ret ?_
    refine st_tr ?_
    refine st_ret (vs := [_, _]) [] Try.results72 ⟨rfl, ⟨rfl, trivial⟩⟩ rfl ?_
    refine ⟨_, rfl, ?_⟩
    unfold joinV; rw [if_pos hc16]; exact ⟨rfl, rfl⟩
  · -- c16.f
    refine w_skip ?_
    refine st_tn ?_
    refine w_seq ?_
    refine w_region ?_
    refine wl_det rfl rfl rfl (op_loadA rfl tA48m (Ent.app hq _) (Nat.le_of_ble_eq_true rfl)) ?_
    refine wl_det rfl rfl rfl (op_move rfl) ?_
    refine wl_det rfl rfl rfl (op_fn Try.func43 rfl rfl rfl (at_any _ _ _ (Sl.app g _) (by omega) (by omega) (by omega))) ?_
    refine wl_det rfl rfl rfl (op_move rfl) ?_
    refine wl_det rfl rfl rfl (op_extract rfl rfl) ?_
    refine wl_det rfl rfl rfl (op_extract rfl rfl) ?_
    refine wl_det rfl rfl rfl (op_assign rfl) ?_
    refine wl_det rfl rfl rfl (op_assign rfl) ?_
    refine wl_nil ?_
    refine st_tn ?_
    refine w_seq ?_
    refine w_region ?_
    refine wl_det rfl rfl rfl (op_move rfl) ?_
    refine wl_det rfl rfl rfl (op_assign rfl) ?_
    refine wl_det rfl rfl rfl (op_assign rfl) ?_
    refine wl_nil ?_
    refine st_tn ?_
    refine w_ret ?_
    refine st_ret (vs := [_, _]) [] Try.results72 ⟨rfl, ⟨rfl, trivial⟩⟩ rfl ?_
    refine ⟨_, rfl, ?_⟩
    unfold joinV; rw [if_neg hc16]; exact ⟨rfl, rfl⟩

/-- What Join returns. -/
def joinR (k : SK) (fr : Int) (l : List Int) (k' : SK) (fr' : Int) (m : List Int) : R :=
  if ¬ sameK k k' then zeroR 17 else if (oneR k fr l k' fr' m).2 = true then ⟨(oneR k fr l k' fr' m).1.k, (oneR k fr l k' fr' m).1.fr, (oneR k fr l k' fr' m).1.vals, 0⟩
  else if max fr fr' > min (fr + l.length) (fr' + m.length) then zeroR 34
  else if (slots (max fr fr') (min (fr + l.length) (fr' + m.length))).any (fun s => decide (atV l fr s ≠ atV m fr' s)) then zeroR 17
  else bothR k (min fr fr') (max (fr + l.length) (fr' + m.length)) (fun s => (joinV l fr m fr' s, 0))
theorem oneR_false {k : SK} {fr : Int} {l : List Int} {k' : SK} {fr' : Int} {m : List Int} {r : R} (h : (r, false) = oneR k fr l k' fr' m) : l.length ≠ 0 ∧ m.length ≠ 0 := by
  unfold oneR at h
  split at h
  · simp at h
  · split at h
    · simp at h
    · exact ⟨by assumption, by assumption⟩
-- CALL sleuth/series.one pat=⟨r{d}, o{d}, a{d}, c{d}, hro{d}, rfl, rfl⟩ lab={d} one_any {d} _ _ _ _ (Sl.app h _) (Sl.app g _) (by omega) (by omega)
set_option maxHeartbeats 2000000 in
set_option maxRecDepth 100000 in
theorem join_any {σ : World} {F : List Res} {a b : Option Addr} {c d : Nat} {l m : List Int} (lab : Nat) (k : SK) (fr : Int) (k' : SK) (fr' : Int) (h : Sl σ F encZ 1 (.slice a l.length c) l) (g : Sl σ F encZ 1 (.slice b m.length d) m) (hl : l.length ≤ 1048576) (hm : m.length ≤ 1048576) (hf : -1099511627776 ≤ fr ∧ fr ≤ 1099511627776) (hf' : -1099511627776 ≤ fr' ∧ fr' ≤ 1099511627776) :
    FnT Try.prog σ F 38 [sr k fr (.slice a l.length c), sr k' fr' (.slice b m.length d)] [] (SerV (joinR k fr l k' fr' m) lab) := by
  refine fn_of 78 Try.func38 rfl Try.ntmps38 rfl ?_
  have hle := h.i64
  have gle := g.i64
  refine w_seq ?_
  refine w_region ?_
  refine wl_op [] rfl rfl rfl rfl (op_box (T := 48) (l := 2) rfl) ?_
  rintro _ _ ⟨b2, rfl, rfl⟩
  refine wl_op [] rfl rfl rfl rfl (op_box (T := 48) (l := 3) rfl) ?_
  rintro _ _ ⟨b3, rfl, rfl⟩
  refine wl_op [] rfl rfl rfl rfl (op_alloc (l := 4) tN48m) ?_
  rintro _ _ ⟨b4, rfl, rfl⟩
  refine wl_det rfl rfl rfl (op_assign rfl) ?_
  refine wl_nil ?_
  refine st_tn ?_
  refine w_seq ?_
  refine w_seq ?_
  refine w_region ?_
  refine wl_det rfl rfl rfl (op_loadA rfl tA48m (Ent.lab (l := 2) rfl (says_cel 0)) (Nat.le_of_ble_eq_true rfl)) ?_
  refine wl_det rfl rfl rfl (op_loadA rfl tA48m (Ent.lab (l := 3) rfl (says_cel 0)) (Nat.le_of_ble_eq_true rfl)) ?_
  refine wl_det rfl rfl rfl (op_fn Try.func31 rfl rfl rfl (same_any k k' fr fr')) ?_
  refine wl_det rfl rfl rfl (op_not_d rfl) ?_
  refine wl_nil ?_
  refine st_tn ?_
  refine w_cond_d rfl (fun hc14 => ?_) (fun hc14 => ?_)
  · -- c14.t
    refine w_seq ?_
    refine w_emp 77 (slO_nil 3 1) ?_
    refine w_region ?_
    refine wl_det rfl rfl rfl (op_build tB48m rfl rfl) ?_
    refine wl_op0 [4] rfl rfl rfl (op_store rfl rfl tZ48m (by rfl) (by rfl) (by exact Nat.le_of_ble_eq_true rfl)) ?_
    rintro _ _ ⟨rfl, rfl⟩
    refine wl_det rfl rfl rfl (op_assign rfl) ?_
    refine wl_nil ?_
    refine st_tn ?_
    refine w_ret ?_
    refine st_tr ?_
    refine st_ret (vs := [_, _]) [77] Try.results38 ⟨⟨_, rfl, Ent.mono (Ent.lab (l := 4) rfl (says_cel 0)) (fun _ h => run_load_agg tA48m h (Nat.le_of_ble_eq_true rfl))⟩, ⟨rfl, trivial⟩⟩ rfl ?_
    refine ⟨[(lab, _)], rfl, ?_⟩
    unfold joinR; rw [if_pos hc14]; exact ⟨none, 0, rfl, rfl⟩
  · -- c14.f
    refine w_skip ?_
    refine st_tn ?_
    refine w_seq ?_
    refine w_seq ?_
    refine w_region ?_
    refine wl_det rfl rfl rfl (op_loadA rfl tA48m (Ent.lab (l := 2) rfl (says_cel 0)) (Nat.le_of_ble_eq_true rfl)) ?_
    refine wl_det rfl rfl rfl (op_loadA rfl tA48m (Ent.lab (l := 3) rfl (says_cel 0)) (Nat.le_of_ble_eq_true rfl)) ?_
    refine wl_op [] rfl rfl rfl rfl (op_fn Try.func70 rfl rfl rfl (one_any 19 _ _ _ _ (Sl.app h _) (Sl.app g _) (by omega) (by omega))) ?_
    rintro _ _ ⟨r19, o19, a19, c19, hro19, rfl, rfl⟩
    refine wl_det rfl rfl rfl (op_move rfl) ?_
    refine wl_det rfl rfl rfl (op_extract rfl rfl) ?_
    refine wl_det rfl rfl rfl (op_extract rfl rfl) ?_
    refine wl_op [] rfl rfl rfl rfl (op_alloc (l := 6) tN48m) ?_
    rintro _ _ ⟨b6, rfl, rfl⟩
    refine wl_op0 [6] rfl rfl rfl (op_store rfl rfl tZ48m (by rfl) (by rfl) (by exact Nat.le_of_ble_eq_true rfl)) ?_
    rintro _ _ ⟨rfl, rfl⟩
    refine wl_det rfl rfl rfl (op_assign rfl) ?_
    refine wl_nil ?_
    refine st_tn ?_
    refine w_seq ?_
    refine w_region ?_
    refine wl_det rfl rfl rfl (op_move rfl) ?_
    refine wl_nil ?_
    refine st_tn ?_
    refine w_cond rfl (fun hc22 => ?_) (fun hc22 => ?_)
    · -- c22.t
      refine w_seq ?_
      refine w_region ?_
      refine wl_det rfl rfl rfl (op_loadA rfl tA48m (Ent.lab (l := 6) rfl (says_cel 0)) (Nat.le_of_ble_eq_true rfl)) ?_
      refine wl_op0 [4] rfl rfl rfl (op_store rfl rfl tZ48m (by rfl) (by rfl) (by exact Nat.le_of_ble_eq_true rfl)) ?_
      rintro _ _ ⟨rfl, rfl⟩
      refine wl_det rfl rfl rfl (op_assign rfl) ?_
      refine wl_nil ?_
      refine st_tn ?_
      refine w_ret ?_
      refine st_tr ?_
      refine st_ret (vs := [_, _]) [19] Try.results38 ⟨⟨_, rfl, Ent.mono (Ent.lab (l := 4) rfl (says_cel 0)) (fun _ h => run_load_agg tA48m h (Nat.le_of_ble_eq_true rfl))⟩, ⟨rfl, trivial⟩⟩ rfl ?_
      refine ⟨[(lab, _)], rfl, ?_⟩
      subst hc22; have hj : joinR k fr l k' fr' m = ⟨r19.k, r19.fr, r19.vals, 0⟩ := by unfold joinR; rw [if_neg hc14, ← hro19]; rfl
      rw [hj]; exact ⟨_, _, rfl, rfl⟩
    · -- c22.f
      subst hc22
      have hne := oneR_false hro19
      have ho2 : ¬ (oneR k fr l k' fr' m).2 = true := by rw [← hro19]; simp
      refine w_skip ?_
      refine st_tn ?_
      refine w_seq ?_
      refine w_drawW (fun β => [⟨24, [], [], [], noW (_), false, [], []⟩, ⟨25, [0], [], [], noW (_), false, [], []⟩, ⟨26, [], [], [], noW (_), false, [], []⟩, ⟨27, [2], [], [], noW (_), false, [], []⟩, ⟨8, [], [], [], fun w => DetW _ _, false, [], []⟩, ⟨9, [], [], [], fun w => DetW _ _, false, [], []⟩]) [] [2, 3] [⟨24, [], [], false, [], []⟩, ⟨25, [0], [], false, [], []⟩, ⟨26, [], [], false, [], []⟩, ⟨27, [2], [], false, [], []⟩, ⟨8, [], [], false, [], []⟩, ⟨9, [], [], false, [], []⟩] [[], [], [], [], [], []] [[], [], [], [], [], []] tMixm (fun _ => by rfl) (fun _ => by rfl) (by kernel_rfl) (by kernel_rfl) (by rfl) (by rfl)
          (fun β => ⟨.p rfl (by intro X; exact op_loadA rfl tA48m (Ent.lab (l := 2) rfl (says_cel 0)) (Nat.le_of_ble_eq_true rfl)),
          ⟨.p rfl (by intro X; rintro _ _ ⟨rfl, rfl⟩; exact op_fn Try.func45 rfl rfl rfl (slots_any _ _ (Sl.app (Sl.app h X) _) (by omega) (by omega))),
          ⟨.p rfl (by intro X; exact op_loadA rfl tA48m (Ent.lab (l := 3) rfl (says_cel 0)) (Nat.le_of_ble_eq_true rfl)),
          ⟨.p rfl (by intro X; rintro _ _ ⟨rfl, rfl⟩; exact op_fn Try.func45 rfl rfl rfl (slots_any _ _ (Sl.app (Sl.app g X) _) (by omega) (by omega))),
          ⟨.px rfl (by intro X; refine OpT.mono (op_alloc (l := 8) tN37m) ?_; rintro _ _ ⟨b8, rfl, rfl⟩; obtain ⟨w, rfl⟩ : ∃ w : Wt, w.b = b8 := ⟨{ b := b8 }, rfl⟩; exact ⟨w, rfl, rfl⟩),
          ⟨.px rfl (by intro X; refine OpT.mono (op_alloc (l := 9) tN37m) ?_; rintro _ _ ⟨b9, rfl, rfl⟩; obtain ⟨w, rfl⟩ : ∃ w : Wt, w.b = b9 := ⟨{ b := b9 }, rfl⟩; exact ⟨w, rfl, rfl⟩),
          trivial⟩⟩⟩⟩⟩⟩)
          (fun β β' => ⟨fun _ => by rfl, ⟨fun _ => by rfl, ⟨fun _ => by rfl, ⟨fun _ => by rfl, ⟨fun _ => by rfl, ⟨fun _ => by rfl, trivial⟩⟩⟩⟩⟩⟩) ?_
      intro β
      rintro _ _ ⟨rfl, rfl⟩ _ _ ⟨rfl, rfl⟩ _ _ ⟨rfl, rfl⟩ _ _ ⟨rfl, rfl⟩ _ _ ⟨rfl, rfl⟩ _ _ ⟨rfl, rfl⟩
      generalize (β 4).b = b8
      generalize (β 5).b = b9
      refine wl_norm (e' := [(2, _), (3, _), (4, _), (8, _), (9, _), (25, _), (27, _)]) (.cons rfl (.cons rfl (.cons rfl (.cons rfl (.cons rfl (.cons rfl (.cons rfl (.nil _)))))))) (by dsimp only [cond_false, cond_true, List.nil_append, List.cons_append]) ?_
      refine wl_op0 [8] rfl rfl rfl (op_store rfl rfl tZ37m (by rfl) (by rfl) (by exact Nat.le_of_ble_eq_true rfl)) ?_
      rintro _ _ ⟨rfl, rfl⟩
      refine wl_op0 [9] rfl rfl rfl (op_store rfl rfl tZ37m (by rfl) (by rfl) (by exact Nat.le_of_ble_eq_true rfl)) ?_
      rintro _ _ ⟨rfl, rfl⟩
      refine wl_nil ?_
      refine st_tn ?_
      refine w_seq ?_
      refine w_seq ?_
      refine w_region ?_
      refine wl_det rfl rfl rfl (op_fieldAddr (off := 0) rfl tF37_0m) ?_
      refine wl_det rfl rfl rfl (op_load1 rfl tO3m (Ent.lab (l := 8) rfl (says_cel 0))) ?_
      refine wl_det rfl rfl rfl (op_fieldAddr (off := 0) rfl tF37_0m) ?_
      refine wl_det rfl rfl rfl (op_load1 rfl tO3m (Ent.lab (l := 9) rfl (says_cel 0))) ?_
      refine wl_det rfl rfl rfl (op_max rfl rfl) ?_
      refine wl_det rfl rfl rfl (op_fieldAddr (off := 1) rfl tF37_1m) ?_
      refine wl_det rfl rfl rfl (op_load1 rfl tO3m (Ent.lab (l := 8) rfl (says_cel 1))) ?_
      refine wl_det rfl rfl rfl (op_fieldAddr (off := 1) rfl tF37_1m) ?_
      refine wl_det rfl rfl rfl (op_load1 rfl tO3m (Ent.lab (l := 9) rfl (says_cel 1))) ?_
      refine wl_det rfl rfl rfl (op_min rfl rfl) ?_
      refine wl_det rfl rfl rfl (op_gtr rfl rfl) ?_
      refine wl_nil ?_
      refine st_tn ?_
      refine w_cond_d rfl (fun hc38 => ?_) (fun hc38 => ?_)
      · -- c38.t
        refine w_seq ?_
        refine w_emp 77 (slO_nil 3 1) ?_
        refine w_region ?_
        refine wl_det rfl rfl rfl (op_build tB48m rfl rfl) ?_
        refine wl_op0 [4] rfl rfl rfl (op_store rfl rfl tZ48m (by rfl) (by rfl) (by exact Nat.le_of_ble_eq_true rfl)) ?_
        rintro _ _ ⟨rfl, rfl⟩
        refine wl_det rfl rfl rfl (op_assign rfl) ?_
        refine wl_nil ?_
        refine st_tn ?_
        refine w_ret ?_
        refine st_tr ?_
        refine st_ret (vs := [_, _]) [77] Try.results38 ⟨⟨_, rfl, Ent.mono (Ent.lab (l := 4) rfl (says_cel 0)) (fun _ h => run_load_agg tA48m h (Nat.le_of_ble_eq_true rfl))⟩, ⟨rfl, trivial⟩⟩ rfl ?_
        refine ⟨[(lab, _)], rfl, ?_⟩
        unfold joinR; rw [if_neg hc14, if_neg ho2, if_pos hc38]; exact ⟨none, 0, rfl, rfl⟩
      · -- c38.f
        refine w_skip ?_
        refine st_tn ?_
        refine w_seq ?_
        refine w_seq ?_
        refine w_region ?_
        refine wl_det rfl rfl rfl (op_fieldAddr (off := 0) rfl tF37_0m) ?_
        refine wl_det rfl rfl rfl (op_load1 rfl tO3m (Ent.lab (l := 8) rfl (says_cel 0))) ?_
        refine wl_det rfl rfl rfl (op_fieldAddr (off := 0) rfl tF37_0m) ?_
        refine wl_det rfl rfl rfl (op_load1 rfl tO3m (Ent.lab (l := 9) rfl (says_cel 0))) ?_
        refine wl_det rfl rfl rfl (op_max rfl rfl) ?_
        refine wl_det rfl rfl rfl (op_assign rfl) ?_
        refine wl_nil ?_
        refine st_tn ?_
        refine w_block ?_
        refine w_loopQ (X := Int) (fun z => (max fr fr' ≤ z ∧ z ≤ min (fr + l.length) (fr' + m.length)) ∧ ∀ q, max fr fr' ≤ q → q < z → atV l fr q = atV m fr' q) (fun z => [(10, .int .i64 (z))]) (fun _ => []) (fun z => (min (fr + l.length) (fr' + m.length) - z).toNat) (_) [(2, _), (3, _), (4, _), (8, _), (9, _)] [(2, _), (3, _), (4, _), (19, _), (6, _), (8, _), (9, _)] [2, 3, 4, 19, 6, 8, 9] rfl (rfl) (.cons rfl (.nil _)) (.cons rfl (.cons rfl (.cons rfl (.cons rfl (.cons rfl (.nil _)))))) (by
            try dsimp only
            exact ⟨by omega, fun q h1 h2 => by omega⟩) ?_
        rintro s ⟨hs, hn⟩
        refine w_norm2 (by dsimp only [List.cons_append, List.nil_append]) (by dsimp only [List.cons_append, List.nil_append]) ?_
        try dsimp only at hs hn ⊢
        refine w_seq ?_
        refine w_seq ?_
        refine w_region ?_
        refine wl_det rfl rfl rfl (op_move rfl) ?_
        refine wl_det rfl rfl rfl (op_fieldAddr (off := 1) rfl tF37_1m) ?_
        refine wl_det rfl rfl rfl (op_load1 rfl tO3m (Ent.lab (l := 8) rfl (says_cel 1))) ?_
        refine wl_det rfl rfl rfl (op_fieldAddr (off := 1) rfl tF37_1m) ?_
        refine wl_det rfl rfl rfl (op_load1 rfl tO3m (Ent.lab (l := 9) rfl (says_cel 1))) ?_
        refine wl_det rfl rfl rfl (op_min rfl rfl) ?_
        refine wl_det rfl rfl rfl (op_lss rfl rfl) ?_
        refine wl_nil ?_
        refine st_tn ?_
        refine w_cond_d rfl (fun hc51 => ?_) (fun hc51 => ?_)
        · -- c51.t
          obtain ⟨x, hx⟩ := getE (l := l) (i := (s - fr).toNat) (by omega)
          obtain ⟨y, hy⟩ := getE (l := m) (i := (s - fr').toNat) (by omega)
          have hxv : atV l fr s = x := by unfold atV; rw [if_pos (by omega), List.getD_eq_getElem?_getD, hx]; rfl
          have hyv : atV m fr' s = y := by unfold atV; rw [if_pos (by omega), List.getD_eq_getElem?_getD, hy]; rfl
          refine w_skip ?_
          refine st_tn ?_
          refine w_seq ?_
          refine w_block ?_
          refine w_seq ?_
          refine w_drawW (fun β => [⟨54, [], [], [], noW (_), false, [], []⟩, ⟨55, [0], [], [], noW (_), false, [], []⟩, ⟨56, [], [], [], noW (_), false, [], []⟩, ⟨57, [], [], [], noW (_), false, [], []⟩, ⟨58, [3], [], [], noW (_), false, [], []⟩, ⟨59, [2, 4], [], [], noW (_), false, [], []⟩, ⟨60, [1, 5], [], [], noW (_), false, [], []⟩, ⟨61, [6], [], [], noW (_), false, [], []⟩, ⟨62, [], [], [], noW (_), false, [], []⟩, ⟨63, [8], [], [], noW (_), false, [], []⟩, ⟨64, [], [], [], noW (_), false, [], []⟩, ⟨65, [], [], [], noW (_), false, [], []⟩, ⟨66, [11], [], [], noW (_), false, [], []⟩, ⟨67, [10, 12], [], [], noW (_), false, [], []⟩, ⟨68, [9, 13], [], [], noW (_), false, [], []⟩, ⟨69, [14], [], [], noW (_), false, [], []⟩]) [] [2, 10, 3] [⟨54, [], [], false, [], []⟩, ⟨55, [0], [], false, [], []⟩, ⟨56, [], [], false, [], []⟩, ⟨57, [], [], false, [], []⟩, ⟨58, [3], [], false, [], []⟩, ⟨59, [2, 4], [], false, [], []⟩, ⟨60, [1, 5], [], false, [], []⟩, ⟨61, [6], [], false, [], []⟩, ⟨62, [], [], false, [], []⟩, ⟨63, [8], [], false, [], []⟩, ⟨64, [], [], false, [], []⟩, ⟨65, [], [], false, [], []⟩, ⟨66, [11], [], false, [], []⟩, ⟨67, [10, 12], [], false, [], []⟩, ⟨68, [9, 13], [], false, [], []⟩, ⟨69, [14], [], false, [], []⟩] [[], [], [], [], [], [], [], [], [], [], [], [], [], [], [], []] [[], [], [], [], [], [], [], [], [], [], [], [], [], [], [], []] tMixm (fun _ => by rfl) (fun _ => by rfl) (by kernel_rfl) (by kernel_rfl) (by rfl) (by rfl)
              (fun β => ⟨.p rfl (by intro X; exact op_fieldAddr (off := 6) rfl tF48_5m),
              ⟨.p rfl (by intro X; rintro _ _ ⟨rfl, rfl⟩; exact op_load1 rfl tO25m (Ent.lab (l := 2) rfl (says_cel 6))),
              ⟨.p rfl (by intro X; exact op_move rfl),
              ⟨.p rfl (by intro X; exact op_fieldAddr (off := 5) rfl tF48_4m),
              ⟨.p rfl (by intro X; rintro _ _ ⟨rfl, rfl⟩; exact op_load1 rfl tO3m (Ent.lab (l := 2) rfl (says_cel 5))),
              ⟨.p rfl (by intro X; rintro _ _ ⟨rfl, rfl⟩ _ _ ⟨rfl, rfl⟩; exact op_sub' rfl rfl (by omega)),
              ⟨.p rfl (by intro X; rintro _ _ ⟨rfl, rfl⟩ _ _ ⟨rfl, rfl⟩; exact op_idxZ rfl rfl tS25m (Sl.ent (Sl.app (Sl.app h X) _)) (by omega) (by omega)),
              ⟨.p rfl (by intro X; rintro _ _ ⟨rfl, rfl⟩; exact op_ldx rfl tO3m (Sl.app (Sl.app h X) _) (by assumption) (by rfl)),
              ⟨.p rfl (by intro X; exact op_fieldAddr (off := 6) rfl tF48_5m),
              ⟨.p rfl (by intro X; rintro _ _ ⟨rfl, rfl⟩; exact op_load1 rfl tO25m (Ent.lab (l := 3) rfl (says_cel 6))),
              ⟨.p rfl (by intro X; exact op_move rfl),
              ⟨.p rfl (by intro X; exact op_fieldAddr (off := 5) rfl tF48_4m),
              ⟨.p rfl (by intro X; rintro _ _ ⟨rfl, rfl⟩; exact op_load1 rfl tO3m (Ent.lab (l := 3) rfl (says_cel 5))),
              ⟨.p rfl (by intro X; rintro _ _ ⟨rfl, rfl⟩ _ _ ⟨rfl, rfl⟩; exact op_sub' rfl rfl (by omega)),
              ⟨.p rfl (by intro X; rintro _ _ ⟨rfl, rfl⟩ _ _ ⟨rfl, rfl⟩; exact op_idxZ rfl rfl tS25m (Sl.ent (Sl.app (Sl.app g X) _)) (by omega) (by omega)),
              ⟨.p rfl (by intro X; rintro _ _ ⟨rfl, rfl⟩; exact op_ldx rfl tO3m (Sl.app (Sl.app g X) _) (by assumption) (by rfl)),
              trivial⟩⟩⟩⟩⟩⟩⟩⟩⟩⟩⟩⟩⟩⟩⟩⟩)
              (fun β β' => ⟨fun _ => by rfl, ⟨fun _ => by rfl, ⟨fun _ => by rfl, ⟨fun _ => by rfl, ⟨fun _ => by rfl, ⟨fun _ => by rfl, ⟨fun _ => by rfl, ⟨fun _ => by rfl, ⟨fun _ => by rfl, ⟨fun _ => by rfl, ⟨fun _ => by rfl, ⟨fun _ => by rfl, ⟨fun _ => by rfl, ⟨fun _ => by rfl, ⟨fun _ => by rfl, ⟨fun _ => by rfl, trivial⟩⟩⟩⟩⟩⟩⟩⟩⟩⟩⟩⟩⟩⟩⟩⟩) ?_
          intro β
          rintro _ _ ⟨rfl, rfl⟩ _ _ ⟨rfl, rfl⟩ _ _ ⟨rfl, rfl⟩ _ _ ⟨rfl, rfl⟩ _ _ ⟨rfl, rfl⟩ _ _ ⟨rfl, rfl⟩ _ _ ⟨rfl, rfl⟩ _ _ ⟨rfl, rfl⟩ _ _ ⟨rfl, rfl⟩ _ _ ⟨rfl, rfl⟩ _ _ ⟨rfl, rfl⟩ _ _ ⟨rfl, rfl⟩ _ _ ⟨rfl, rfl⟩ _ _ ⟨rfl, rfl⟩ _ _ ⟨rfl, rfl⟩ _ _ ⟨rfl, rfl⟩
          refine wl_norm (e' := [(2, _), (3, _), (4, _), (8, _), (9, _), (10, _), (61, _), (69, _)]) (.cons rfl (.cons rfl (.cons rfl (.cons rfl (.cons rfl (.cons rfl (.cons rfl (.cons rfl (.nil _))))))))) (by dsimp only [cond_false, cond_true, List.nil_append, List.cons_append]) ?_
          refine wl_det rfl rfl rfl (op_neq rfl rfl) ?_
          refine wl_nil ?_
          refine st_tn ?_
          refine w_cond_d rfl (fun hc70 => ?_) (fun hc70 => ?_)
          · -- c70.t
            refine w_seq ?_
            refine w_emp 77 (slO_nil 3 1) ?_
            refine w_region ?_
            refine wl_det rfl rfl rfl (op_build tB48m rfl rfl) ?_
            refine wl_op0 [4] rfl rfl rfl (op_store rfl rfl tZ48m (by rfl) (by rfl) (by exact Nat.le_of_ble_eq_true rfl)) ?_
            rintro _ _ ⟨rfl, rfl⟩
            refine wl_det rfl rfl rfl (op_assign rfl) ?_
            refine wl_nil ?_
            refine st_tn ?_
            refine w_ret ?_
            refine st_br ?_
            refine st_tr ?_
            refine st_tr ?_
            refine st_br ?_
            refine st_tr ?_
            refine st_ret (vs := [_, _]) [77] Try.results38 ⟨⟨_, rfl, Ent.mono (Ent.lab (l := 4) rfl (says_cel 0)) (fun _ h => run_load_agg tA48m h (Nat.le_of_ble_eq_true rfl))⟩, ⟨rfl, trivial⟩⟩ rfl ?_
            refine ⟨[(lab, _)], rfl, ?_⟩
            unfold joinR; rw [if_neg hc14, if_neg ho2, if_neg hc38, if_pos (List.any_eq_true.2 ⟨s, mem_slots.2 (by omega), decide_eq_true (by rw [hxv, hyv]; exact hc70)⟩)]; exact ⟨none, 0, rfl, rfl⟩
          · -- c70.f
            refine w_skip ?_
            refine st_bn ?_
            refine st_tn ?_
            refine w_region ?_
            refine wl_det rfl rfl rfl (op_move rfl) ?_
            refine wl_det rfl rfl rfl (op_add' rfl rfl (by omega)) ?_
            refine wl_det rfl rfl rfl (op_assign rfl) ?_
            refine wl_nil ?_
            refine st_roundQ (x := s) (s + 1) [2, 3, 4, 19, 6, 8, 9] rfl (rfl) (.cons rfl (.nil _)) (.cons rfl (.cons rfl (.cons rfl (.cons rfl (.cons rfl (.nil _)))))) (by
                try dsimp only
                refine ⟨by omega, fun q h1 h2 => ?_⟩
                by_cases hq : q = s
                · subst hq; rw [hxv, hyv]; omega
                · exact hn q h1 (by omega)) (by
                try dsimp only
                omega) 
        · -- c51.f
          refine w_exit ?_
          refine st_te ?_
          refine st_te ?_
          refine st_be ?_
          refine st_tn ?_
          refine w_seq ?_
          refine w_region ?_
          refine wl_det rfl rfl rfl (op_loadA rfl tA48m (Ent.lab (l := 2) rfl (says_cel 0)) (Nat.le_of_ble_eq_true rfl)) ?_
          refine wl_det rfl rfl rfl (op_loadA rfl tA48m (Ent.lab (l := 3) rfl (says_cel 0)) (Nat.le_of_ble_eq_true rfl)) ?_
          refine wl_det rfl rfl rfl (op_makeFunc rfl rfl) ?_
          refine wl_op [] rfl rfl rfl rfl (op_fn Try.func71 rfl rfl rfl (both_any (fs := []) (cs := [.pointer (some ⟨b2, 0, none⟩), .pointer (some ⟨b3, 0, none⟩)]) 75 k fr k' fr' (fun s => (joinV l fr m fr' s, 0)) (Sl.app h _) (Sl.app g _) hl hm hf hf' Try.func72 rfl rfl (fun X s h1 h2 => join1_any (k := k) (fr := fr) (k' := k') (fr' := fr') s (Ent.app (Ent.lab (l := 2) rfl (says_cel 0)) X) (Ent.app (Ent.lab (l := 3) rfl (says_cel 0)) X) (Sl.app (Sl.app h _) X) (Sl.app (Sl.app g _) X) hl hm hf hf' (by omega)))) ?_
          rintro _ _ ⟨a75, c75, rfl, rfl⟩
          refine wl_det rfl rfl rfl (op_extract rfl rfl) ?_
          refine wl_det rfl rfl rfl (op_extract rfl rfl) ?_
          refine wl_op0 [4] rfl rfl rfl (op_store rfl rfl tZ48m (by rfl) (by rfl) (by exact Nat.le_of_ble_eq_true rfl)) ?_
          rintro _ _ ⟨rfl, rfl⟩
          refine wl_det rfl rfl rfl (op_assign rfl) ?_
          refine wl_nil ?_
          refine st_tn ?_
          refine w_ret ?_
          refine st_ret (vs := [_, _]) [75] Try.results38 ⟨⟨_, rfl, Ent.mono (Ent.lab (l := 4) rfl (says_cel 0)) (fun _ h => run_load_agg tA48m h (Nat.le_of_ble_eq_true rfl))⟩, ⟨rfl, trivial⟩⟩ rfl ?_
          refine ⟨[(lab, _)], rfl, ?_⟩
          have hj : joinR k fr l k' fr' m = bothR k (min fr fr') (max (fr + l.length) (fr' + m.length)) (fun s => (joinV l fr m fr' s, 0)) := by
            unfold joinR; rw [if_neg hc14, if_neg ho2, if_neg hc38, if_neg]
            intro h1; obtain ⟨q, hq, h2⟩ := List.any_eq_true.1 h1
            have h3 := mem_slots.1 hq
            exact of_decide_eq_true h2 (hn q h3.1 (by omega))
          rw [hj]; exact ⟨_, _, rfl, rfl⟩

end Go.Proofs.Ytbgddblfalahfaa
