/- Contracts: nodes, the search (layer 9). Conditions: none. -/
import Derived.Test.YtgdjnjbipemdcaaK1
import Derived.Test.YtgdjnjbipemdcaaM0
namespace Go.Proofs.Ytgdjnjbipemdcaa
open Go Go.SL Go.RowKit Go.ConM
set_option linter.unusedVariables false
set_option linter.unusedSimpArgs false
theorem tA34b : aggB Try.prog 34 3 = true := by kernel_rfl
theorem tF34_0b : fieldB Try.prog 34 0 0 = true := by kernel_rfl
theorem tF34_1b : fieldB Try.prog 34 1 1 = true := by kernel_rfl
theorem tMixb : Try.prog.follows .mixedOrders = true := by kernel_rfl
theorem tN34b : (Try.prog.info? 34).bind (·.zero) = some (Value.agg #[Value.int .i64 0, Value.int .i64 0, Value.int .i64 0]) := by kernel_rfl
theorem tO3b : oneB Try.prog 3 = true := by kernel_rfl
theorem tQ90b : mapB Try.prog 90 3 4 KZ.desc := ⟨Try.underlying90, Try.underlying3⟩
theorem tS24b : sliceB Try.prog 24 34 3 = true := by kernel_rfl
theorem tZ34b : (Try.prog.info? 34).map (·.size) = some 3 := by kernel_rfl

/-- The bounds of a system. -/
def InB (l : List Con) : Prop := ∀ c ∈ l, I64 c.f ∧ I64 c.t ∧ I64 c.b
set_option maxHeartbeats 1000000 in
set_option maxRecDepth 100000 in
theorem nodes_any {σ : World} {F : List Res} {a : Option Addr} {c : Nat} {l : List Con} (lab : Nat) (h : Sl σ F encC 3 (.slice a l.length c) l) (hb : InB l) (hl : l.length ≤ 1048576) :
    FnT Try.prog σ F 36 [.slice a l.length c] [] (NewZ (nodes l) lab) := by
  refine fn_of 23 Try.func36 rfl Try.ntmps36 rfl ?_
  have hle := h.i64
  refine w_seq ?_
  refine w_region ?_
  refine wl_det rfl rfl rfl (op_assign rfl) ?_
  refine wl_nil ?_
  refine st_tn ?_
  refine w_seq ?_
  refine w_region ?_
  refine wl_op [] rfl rfl rfl rfl (op_makeMap (kt := KZ) (encV := encVB) (lab := 6)) ?_
  rintro _ _ ⟨b6, rfl, rfl⟩
  refine wl_det rfl rfl rfl (op_assign rfl) ?_
  refine wl_nil ?_
  refine st_tn ?_
  refine w_seq ?_
  refine w_seq ?_
  refine w_region ?_
  refine wl_det rfl rfl rfl (op_move rfl) ?_
  refine wl_det rfl rfl rfl (op_lenT rfl tS24b (Sl.ent (by first | exact Sl.app (by assumption) _ | exact Sl.app (Sl.app (by assumption) _) _))) ?_
  refine wl_det rfl rfl rfl (op_move rfl) ?_
  refine wl_nil ?_
  refine st_tn ?_
  refine w_block ?_
  refine w_loopQ (X := Nat × List (Int × Bool)) (fun z => z.1 ≤ l.length ∧ z.2 = nodesM (l.take z.1)) (fun z => [(9, .int .i64 (z.1))]) (fun z => [(6, mp KZ encVB b6 (z.2))]) (fun z => l.length - z.1) ((0, [])) [(3, _), (7, _), (8, _)] [] [6] rfl (rfl) (.cons rfl (.nil _)) (.cons rfl (.cons rfl (.cons rfl (.nil _)))) (by
      try dsimp only
      exact ⟨Nat.zero_le _, rfl⟩) ?_
  rintro ⟨i, m⟩ ⟨hi, hm⟩
  refine w_norm2 (by dsimp only [List.cons_append, List.nil_append]) (by dsimp only [List.cons_append, List.nil_append]) ?_
  try dsimp only at hi hm ⊢
  refine w_seq ?_
  refine w_region ?_
  refine wl_det rfl rfl rfl (op_lss rfl rfl) ?_
  refine wl_nil ?_
  refine st_tn ?_
  refine w_seq ?_
  refine w_cond_d rfl (fun hc10 => ?_) (fun hc10 => ?_)
  · -- c10.t
    obtain ⟨x, hx⟩ := getE (l := l) (i := i) (by omega)
    have hlt := ltE hx
    refine w_skip ?_
    refine st_tn ?_
    refine w_seq ?_
    refine w_block ?_
    refine w_seq ?_
    refine w_region ?_
    refine wl_det rfl rfl rfl (op_idx rfl rfl tS24b (Sl.ent (by first | exact Sl.app (by assumption) _ | exact Sl.app (Sl.app (by assumption) _) _)) (by omega)) ?_
    refine wl_det rfl rfl rfl (op_ldxA rfl tA34b (by first | exact Sl.app (by assumption) _ | exact Sl.app (Sl.app (by assumption) _) _) (by assumption) (by rfl) (by rfl)) ?_
    refine wl_op [] rfl rfl rfl rfl (op_alloc (l := 5) tN34b) ?_
    rintro _ _ ⟨b5, rfl, rfl⟩
    refine wl_op0 [5] rfl rfl rfl (op_store rfl rfl tZ34b (by rfl) (by rfl) (by exact Nat.le_of_ble_eq_true rfl)) ?_
    rintro _ _ ⟨rfl, rfl⟩
    refine wl_nil ?_
    refine st_tn ?_
    refine w_drawW (fun β => [⟨13, [], [], [], noW (_), false, [], []⟩, ⟨14, [], [], [], noW (_), false, [], []⟩, ⟨15, [1], [], [], noW (_), false, [], []⟩, ⟨16, [], [], [], noW (_), false, [], []⟩, ⟨17, [], [], [], noW (_), false, [], []⟩, ⟨18, [4], [], [], noW (_), false, [], []⟩, ⟨29, [0, 2], [], [(6, _)], noW (_), false, [], []⟩]) [6] [3, 5] [⟨13, [], [], false, [], []⟩, ⟨14, [], [], false, [], []⟩, ⟨15, [1], [], false, [], []⟩, ⟨16, [], [], false, [], []⟩, ⟨17, [], [], false, [], []⟩, ⟨18, [4], [], false, [], []⟩, ⟨29, [0, 2], [], false, [], []⟩] [[], [], [], [], [], [], []] [[], [], [], [], [], [], [(6, _)]] tMixb (fun _ => by rfl) (fun _ => by rfl) (by kernel_rfl) (by kernel_rfl) (by rfl) (by rfl)
        (fun β => ⟨.p rfl (by intro X; exact op_move rfl),
        ⟨.p rfl (by intro X; exact op_fieldAddr (off := 0) rfl tF34_0b),
        ⟨.p rfl (by intro X; rintro _ _ ⟨rfl, rfl⟩; exact op_load1 rfl tO3b (Ent.lab (l := 5) rfl (says_cel 0))),
        ⟨.p rfl (by intro X; exact op_move rfl),
        ⟨.p rfl (by intro X; exact op_fieldAddr (off := 1) rfl tF34_1b),
        ⟨.p rfl (by intro X; rintro _ _ ⟨rfl, rfl⟩; exact op_load1 rfl tO3b (Ent.lab (l := 5) rfl (says_cel 1))),
        ⟨.p rfl (by intro X; rintro _ _ ⟨rfl, rfl⟩ _ _ ⟨rfl, rfl⟩; exact op_mapUpdate (kt := KZ) (encV := encVB) (lab := 6) rfl rfl rfl tQ90b) (hu := by exact .inr fun _ _ h => h.1),
        trivial⟩⟩⟩⟩⟩⟩⟩)
        (fun β β' => ⟨fun _ => by rfl, ⟨fun _ => by rfl, ⟨fun _ => by rfl, ⟨fun _ => by rfl, ⟨fun _ => by rfl, ⟨fun _ => by rfl, ⟨fun _ => by rfl, trivial⟩⟩⟩⟩⟩⟩⟩) ?_
    intro β
    rintro _ _ ⟨rfl, rfl⟩ _ _ ⟨rfl, rfl⟩ _ _ ⟨rfl, rfl⟩ _ _ ⟨rfl, rfl⟩ _ _ ⟨rfl, rfl⟩ _ _ ⟨rfl, rfl⟩ _ _ ⟨rfl, rfl⟩
    refine wl_norm (e' := [(3, _), (7, _), (8, _), (9, _), (16, _), (18, _)]) (.cons rfl (.cons rfl (.cons rfl (.cons rfl (.cons rfl (.cons rfl (.nil _))))))) (by dsimp only [cond_false, cond_true, List.nil_append, List.cons_append]) ?_
    refine wl_op0 [6] rfl rfl rfl (op_mapUpdate (kt := KZ) (encV := encVB) (lab := 6) rfl rfl rfl tQ90b) ?_
    rintro _ _ ⟨rfl, rfl⟩
    refine wl_nil ?_
    refine st_bn ?_
    refine st_tn ?_
    refine w_region ?_
    refine wl_det rfl rfl rfl (op_add' rfl rfl (by omega)) ?_
    refine wl_det rfl rfl rfl (op_move rfl) ?_
    refine wl_nil ?_
    refine st_roundQ (x := (i, m)) ((i + 1, _)) [6] rfl (rfl) (.cons rfl (.nil _)) (.cons rfl (.cons rfl (.cons rfl (.nil _)))) (by
        try dsimp only
        refine ⟨by omega, ?_⟩
        rw [take_snoc hx]; unfold nodesM; rw [foldl_snoc]; rw [hm]; rfl) (by
        try dsimp only
        omega) 
  · -- c10.f
    refine w_exit ?_
    refine st_te ?_
    refine st_te ?_
    refine st_be ?_
    refine st_tn ?_
    refine w_seq ?_
    rw [take_all (by omega)] at hm
    have hlm := len_nodesM l
    rw [← hm] at hlm
    refine w_region ?_
    refine wl_det rfl rfl rfl (op_move rfl) ?_
    refine wl_op [] rfl rfl rfl rfl (op_fn Try.func61 rfl rfl rfl (keysB 21)) ?_
    rintro _ _ ⟨b21, rfl, rfl⟩
    refine wl_op [] rfl rfl rfl rfl (op_fn Try.func60 rfl rfl rfl (sortedB 22 (Ent.lab (l := 21) rfl (says_cel 0)) (Mr.lab 6 rfl) (fun p hp => by
  obtain ⟨c, hc, h⟩ := (mem_nodesM (x := p.1) l).1 (by rw [← hm]; exact List.mem_map.2 ⟨p, hp, rfl⟩)
  have := hb c hc
  rcases h with h | h <;> rw [h]
  · exact this.1
  · exact this.2.1) (by omega))) ?_
    rintro _ _ ⟨a22, c22, rfl, rfl⟩
    refine wl_det rfl rfl rfl (op_assign rfl) ?_
    refine wl_nil ?_
    refine st_tn ?_
    refine w_ret ?_
    refine st_ret (vs := [_]) [22] Try.results36 ⟨rfl, trivial⟩ rfl ?_
    refine ⟨[(lab, _)], rfl, ?_⟩
    unfold nodes; rw [← hm]; exact ⟨_, _, rfl, rfl⟩

end Go.Proofs.Ytgdjnjbipemdcaa
