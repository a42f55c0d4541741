/- Contracts: the model of layer 27: begin, open, truncate. Contracts: the model of layer 27: commit. Contracts: slices.Delete of the first segment. Contracts: Truncate of a log. Contracts: the model of layer 27: its states in pools; do. Contracts: do (layer 27's model): Discard, Open, Commit. Contracts: do (layer 27's model): Commit, Truncate. Contracts: agrees (layer 27's model). A log on a disk that does not fail, operation for operation (layer 27). do, whatever the operation, on a disk that does not fail; the law Runs (layer 27). The law Crashes (layer 27): a disk that fails and starts again. The law Reads (layer 27). Conditions: none. -/
import Derived.Test.YtcbigmgakdanjaaSlZ
import Derived.Test.YtcbigmgakdanjaaQEb
import Derived.Test.YtcbigmgakdanjaaSlL
namespace Go.Proofs.Ytcbigmgakdanjaa
open Go Go.SL Go.RowKit Go.RdM Go.WalM
set_option linter.unusedVariables false
set_option linter.unusedSimpArgs false
theorem tA52xa : aggB Try.prog 52 4 = true := by kernel_rfl
theorem tB52xa : placesB Try.prog 52 = some ([(0, 1), (1, 1), (2, 1), (3, 1)], [Value.slice none 0 0, Value.int .i64 0, Value.slice none 0 0, Value.bool false]) := by kernel_rfl
theorem tF52_0xa : fieldB Try.prog 52 0 0 = true := by kernel_rfl
theorem tF52_1xa : fieldB Try.prog 52 1 1 = true := by kernel_rfl
theorem tF52_2xa : fieldB Try.prog 52 2 2 = true := by kernel_rfl
theorem tF52_3xa : fieldB Try.prog 52 3 3 = true := by kernel_rfl
theorem tF96_2xa : fieldB Try.prog 96 2 2 = true := by kernel_rfl
theorem tMixxa : Try.prog.follows .mixedOrders = true := by kernel_rfl
theorem tN52xa : (Try.prog.info? 52).bind (·.zero) = some (Value.agg #[Value.slice none 0 0, Value.int .i64 0, Value.slice none 0 0, Value.bool false]) := by kernel_rfl
theorem tO3xa : oneB Try.prog 3 = true := by kernel_rfl
theorem tO35xa : oneB Try.prog 35 = true := by kernel_rfl
theorem tO50xa : oneB Try.prog 50 = true := by kernel_rfl
theorem tS35xa : sliceB Try.prog 35 9 1 = true := by kernel_rfl
theorem tS50xa : sliceB Try.prog 50 96 3 = true := by kernel_rfl
theorem tZ3xa : (Try.prog.info? 3).map (·.size) = some 1 := by kernel_rfl
theorem tZ35xa : (Try.prog.info? 35).map (·.size) = some 1 := by kernel_rfl
theorem tZ4xa : (Try.prog.info? 4).map (·.size) = some 1 := by kernel_rfl
theorem tZ50xa : (Try.prog.info? 50).map (·.size) = some 1 := by kernel_rfl
theorem tZ52xa : (Try.prog.info? 52).map (·.size) = some 4 := by kernel_rfl
set_option maxHeartbeats 400000 in
set_option maxRecDepth 100000 in
theorem mbegin_any {σ : World} {F : List Res} : FnT Try.prog σ F 26 [] [] (fun u ρ => u = .agg #[.slice none 0 0, .int .i64 1, .slice none 0 0, .bool true] ∧ ρ = []) := by
  refine fn_of 2 Try.func26 rfl Try.ntmps26 rfl ?_
  refine w_seq (w_region (wl_op [] rfl rfl rfl rfl (op_alloc (l := 0) tN52xa) ?_))
  rintro _ _ ⟨b0, rfl, rfl⟩
  refine wl_nil (st_tn (w_seq (w_region (zd rfl (op_build tB52xa rfl rfl) (wl_op0 [0] rfl rfl rfl (op_store rfl rfl tZ52xa (by rfl) (by rfl) (by exact Nat.le_of_ble_eq_true rfl)) ?_)))))
  rintro _ _ ⟨rfl, rfl⟩
  refine wl_nil (st_tn (w_ret (st_ret (vs := [_]) [] Try.results26 ⟨⟨_, rfl, Ent.mono (Ent.lab (l := 0) rfl (says_cel 0)) (fun _ h => run_load_agg tA52xa h (Nat.le_of_ble_eq_true rfl))⟩, trivial⟩ rfl ?_)))
  refine ⟨_, rfl, ?_⟩
  exact ⟨rfl, rfl⟩
set_option maxHeartbeats 400000 in
set_option maxRecDepth 100000 in
theorem mopen_any {σ : World} {F : List Res} {a p : Option Addr} {c cp k m : Nat} {f : Int} {o : Bool} :
    FnT Try.prog σ F 39 [.agg #[.slice a m c, .int .i64 f, .slice p k cp, .bool o]] [] (fun u ρ => u = .agg #[.slice a m c, .int .i64 f, .slice none 0 0, .bool true] ∧ ρ = []) := by
  refine fn_of 6 Try.func39 rfl Try.ntmps39 rfl ?_
  refine w_seq (w_region (wl_op [] rfl rfl rfl rfl (op_box (T := 52) (l := 1) rfl) ?_))
  rintro _ _ ⟨b1, rfl, rfl⟩
  refine wl_op [] rfl rfl rfl rfl (op_alloc (l := 2) tN52xa) ?_
  rintro _ _ ⟨b2, rfl, rfl⟩
  refine wl_nil (st_tn (w_seq (w_region (zd rfl (op_fieldAddr (off := 2) rfl tF52_2xa) (wl_op0 [1] rfl rfl rfl (op_store rfl rfl tZ35xa (by rfl) (by rfl) (by exact Nat.le_of_ble_eq_true rfl)) ?_)))))
  rintro _ _ ⟨rfl, rfl⟩
  refine zd rfl (op_fieldAddr (off := 3) rfl tF52_3xa) (wl_op0 [1] rfl rfl rfl (op_store rfl rfl tZ4xa (by rfl) (by rfl) (by exact Nat.le_of_ble_eq_true rfl)) ?_)
  rintro _ _ ⟨rfl, rfl⟩
  refine wl_nil (st_tn (w_seq (w_region (zd rfl (op_loadA rfl tA52xa (Ent.lab (l := 1) rfl (says_cel 0)) (Nat.le_of_ble_eq_true rfl)) (wl_op0 [2] rfl rfl rfl (op_store rfl rfl tZ52xa (by rfl) (by rfl) (by exact Nat.le_of_ble_eq_true rfl)) ?_)))))
  rintro _ _ ⟨rfl, rfl⟩
  refine wl_nil (st_tn (w_ret (st_ret (vs := [_]) [] Try.results39 ⟨⟨_, rfl, Ent.mono (Ent.lab (l := 2) rfl (says_cel 0)) (fun _ h => run_load_agg tA52xa h (Nat.le_of_ble_eq_true rfl))⟩, trivial⟩ rfl ?_)))
  refine ⟨_, rfl, ?_⟩
  exact ⟨rfl, rfl⟩
def subJ (a : Option Addr) (c : Nat) : Nat → Option Addr × Nat
  | 0 => (a, c)
  | j + 1 => (SL.sub (subJ a c j).1 (subJ a c j).2 1 3, (subJ a c j).2 - 1)
theorem sl_subJ {σ : World} {F : List Res} {a : Option Addr} {c : Nat} {X : List SegV} (h : Sl σ F encSegV 3 (.slice a X.length c) X) : ∀ j, j ≤ X.length → Sl σ F encSegV 3 (.slice (subJ a c j).1 (X.drop j).length (subJ a c j).2) (X.drop j)
  | 0, _ => by simpa [subJ] using h
  | j + 1, hj => by
    have ih := sl_subJ h j (by omega)
    have h1 := Sl.sub ih (lo := 1) (hi := (X.drop j).length) (by rw [List.length_drop]; omega) (Nat.le_refl _)
    rw [List.take_length, List.drop_drop] at h1
    have h2 : (X.drop j).length - 1 = (X.drop (j + 1)).length := by rw [List.length_drop, List.length_drop]; omega
    rw [h2] at h1
    exact h1
def trJ : Nat → List SegV → Int → Nat → Nat
  | f, x :: y :: l, n, k + 1 => if (f : Int) + x.recs.length - 1 ≤ n then trJ (f + x.recs.length) (y :: l) n k + 1 else 0
  | _, _, _, _ => 0
theorem trJ_lt : ∀ (k f : Nat) (X : List SegV) (n : Int), trJ f X n k ≤ X.length ∧ (X ≠ [] → trJ f X n k < X.length) ∧ trJ f X n k ≤ k
  | 0, f, X, n => by cases X <;> simp [trJ]
  | k + 1, f, [], n => by simp [trJ]
  | k + 1, f, [x], n => by simp [trJ]
  | k + 1, f, x :: y :: l, n => by
    rw [trJ]
    have := trJ_lt k (f + x.recs.length) (y :: l) n
    have h2 := this.2.1 (by simp)
    simp only [List.length_cons] at *
    split <;> exact ⟨by omega, fun _ => by omega, by omega⟩
theorem recsX_cons (x : SegV) (X : List SegV) : recsX (x :: X) = x.recs ++ recsX X := by unfold recsX; simp
theorem trJ_step {f : Nat} {n : Int} : ∀ {i k : Nat} {X : List SegV}, i < k → 1 < (X.drop i).length → i ≤ trJ f X n k → (∀ x, X[i]? = some x → ((f + (recsX (X.take i)).length : Nat) : Int) + x.recs.length - 1 ≤ n → i + 1 ≤ trJ f X n k) ∧ (∀ x, X[i]? = some x → ¬ ((f + (recsX (X.take i)).length : Nat) : Int) + x.recs.length - 1 ≤ n → trJ f X n k = i)
  | 0, k + 1, [], _, h, _ => by simp at h
  | 0, k + 1, [x], _, h, _ => by simp at h
  | 0, k + 1, x :: y :: l, _, _, _ => by
    rw [trJ]
    refine ⟨fun z hz hn => ?_, fun z hz hn => ?_⟩
    · simp at hz; subst hz
      rw [if_pos (by simpa [recsX] using hn)]; omega
    · simp at hz; subst hz
      rw [if_neg (by simpa [recsX] using hn)]
  | i + 1, k + 1, [], _, h, _ => by simp at h
  | i + 1, k + 1, [x], _, h, _ => by simp at h
  | i + 1, k + 1, x :: y :: l, hk, h, hi => by
    rw [trJ] at hi ⊢
    by_cases hx : (f : Int) + x.recs.length - 1 ≤ n
    · rw [if_pos hx] at hi ⊢
      have ih := trJ_step (f := f + x.recs.length) (n := n) (i := i) (k := k) (X := y :: l) (by omega) (by simpa using h) (by omega)
      refine ⟨fun z hz hn => ?_, fun z hz hn => ?_⟩
      · have := ih.1 z (by simpa using hz) (by rw [List.take_succ_cons, recsX_cons, List.length_append] at hn; omega)
        omega
      · have := ih.2 z (by simpa using hz) (by rw [List.take_succ_cons, recsX_cons, List.length_append] at hn; omega)
        omega
    · rw [if_neg hx] at hi; omega
set_option maxHeartbeats 2000000 in
set_option maxRecDepth 100000 in
theorem mtrunc_any {σ : World} {F : List Res} {a p : Option Addr} {c cp k : Nat} {Y : List SegV} {f : Nat} {o : Bool} (n : Int) (most : Nat) (hn : -9223372036854775808 ≤ n ∧ n ≤ 9223372036854775807) (hm : most ≤ 1099511627776) (hX : Sl σ F encSegV 3 (.slice a Y.length c) Y) (hR : SlX σ F Y) (hT : f + (recsX Y).length ≤ 1099511627776) :
    FnT Try.prog σ F 40 [.agg #[.slice a Y.length c, .int .i64 f, .slice p k cp, .bool o], .int .i64 n, .int .i64 most] [] (fun u ρ => u = .agg #[.slice (subJ a c (trJ f Y n most)).1 (Y.drop (trJ f Y n most)).length (subJ a c (trJ f Y n most)).2, .int .i64 ((f + (recsX (Y.take (trJ f Y n most))).length : Nat) : Int), .slice p k cp, .bool o] ∧ ρ = []) := by
  refine fn_of 48 Try.func40 rfl Try.ntmps40 rfl ?_
  have htj := trJ_lt most f Y n
  have hle := hX.i64
  refine w_seq (w_region (wl_op [] rfl rfl rfl rfl (op_box (T := 52) (l := 3) rfl) ?_))
  rintro _ _ ⟨b3, rfl, rfl⟩
  refine wl_op [] rfl rfl rfl rfl (op_alloc (l := 6) tN52xa) ?_
  rintro _ _ ⟨b6, rfl, rfl⟩
  refine wl_nil (st_tn (w_seq (w_seq (w_region (za rfl (wl_nil (st_tn (w_block ?_))))))))
  refine w_loopQ (X := Nat) (fun z => z ≤ trJ f Y n most) (fun z => [(7, .int .i64 (z))]) (fun z => [(3, cel b3 [.slice (subJ a c (z)).1 (Y.drop (z)).length (subJ a c (z)).2, .int .i64 ((f + (recsX (Y.take (z))).length : Nat) : Int), .slice p k cp, .bool o] 52)]) (fun z => trJ f Y n most - z) (0) [(1, _), (2, _), (3, _), (6, _)] [(6, _)] [3, 6] rfl (rfl) (.cons rfl (.nil _)) (.cons rfl (.cons rfl (.cons rfl (.cons rfl (.nil _))))) (by
      try dsimp only
      exact Nat.zero_le _) ?_
  rintro i hi
  refine w_norm2 (by dsimp only [List.cons_append, List.nil_append]) (by dsimp only [List.cons_append, List.nil_append]) ?_
  try dsimp only at hi ⊢
  refine w_seq (w_seq ?_)
  have hsub := sl_subJ hX i (by omega)
  have hdl : (Y.drop i).length = Y.length - i := List.length_drop ..
  have hrle := recsX_le Y i
  by_cases h1 : i < most
  · -- h1+
    by_cases h2 : 1 < (Y.drop i).length
    · -- h2+
      obtain ⟨x, hx⟩ := getE (l := Y) (i := i) (by omega)
      have hxd : (Y.drop i)[0]? = some x := by rw [List.getElem?_drop, Nat.add_zero]; exact hx
      have hhd : (Y.drop i).head? = some x := by rw [List.head?_eq_getElem?]; exact hxd
      have hxm := List.mem_of_getElem? hx
      have hgo := trJ_step (f := f) (n := n) (i := i) (k := most) (X := Y) h1 h2 (by assumption)
      have hl1 := recsX_le Y (i + 1)
      rw [recsX_snoc hx, List.length_append] at hl1
      have hxr := hR x hxm
      by_cases h3 : ((f + (recsX (Y.take i)).length : Nat) : Int) + ((Y.drop i).head?.map fun x => (x.recs.length : Int)).getD 0 - 1 ≤ n
      · -- h3+
        rw [hhd] at h3
        have h3 : ((f + (recsX (Y.take i)).length : Nat) : Int) + x.recs.length - 1 ≤ n := h3
        refine w_draw (D := [⟨8, [], [], [], _, false, [], []⟩, ⟨9, [], [], [], _, false, [], []⟩, ⟨10, [0, 1], [], [], _, false, [], []⟩, ⟨11, [2], [], [], _, false, [], []⟩, ⟨12, [], [], [], _, false, [], []⟩, ⟨13, [4], [], [], _, false, [], []⟩, ⟨14, [5], [], [], _, false, [], []⟩, ⟨15, [6], [], [], _, false, [], []⟩, ⟨16, [3, 7], [], [], _, false, [], []⟩, ⟨17, [8], [], [], _, false, [], []⟩, ⟨18, [], [], [], _, false, [], []⟩, ⟨19, [10], [], [], _, false, [], []⟩, ⟨20, [], [], [], _, false, [], []⟩, ⟨21, [12], [], [], _, false, [], []⟩, ⟨22, [13], [], [], _, false, [], []⟩, ⟨23, [14], [], [], _, false, [], []⟩, ⟨24, [15], [], [], _, false, [], []⟩, ⟨25, [16], [], [], _, false, [], []⟩, ⟨26, [11, 17], [], [], _, false, [], []⟩, ⟨27, [18], [], [], _, false, [], []⟩, ⟨28, [], [], [], _, false, [], []⟩, ⟨29, [19, 20], [], [], _, false, [], []⟩, ⟨30, [9, 21], [], [], _, false, [], []⟩]) [] [7, 2, 3, 1] [⟨8, [], [], false, [], []⟩, ⟨9, [], [], false, [], []⟩, ⟨10, [0, 1], [], false, [], []⟩, ⟨11, [2], [], false, [], []⟩, ⟨12, [], [], false, [], []⟩, ⟨13, [4], [], false, [], []⟩, ⟨14, [5], [], false, [], []⟩, ⟨15, [6], [], false, [], []⟩, ⟨16, [3, 7], [], false, [], []⟩, ⟨17, [8], [], false, [], []⟩, ⟨18, [], [], false, [], []⟩, ⟨19, [10], [], false, [], []⟩, ⟨20, [], [], false, [], []⟩, ⟨21, [12], [], false, [], []⟩, ⟨22, [13], [], false, [], []⟩, ⟨23, [14], [], false, [], []⟩, ⟨24, [15], [], false, [], []⟩, ⟨25, [16], [], false, [], []⟩, ⟨26, [11, 17], [], false, [], []⟩, ⟨27, [18], [], false, [], []⟩, ⟨28, [], [], false, [], []⟩, ⟨29, [19, 20], [], false, [], []⟩, ⟨30, [9, 21], [], false, [], []⟩] tMixxa (by rfl) (by kernel_rfl) (by rfl) (by rfl)
            ⟨.plain rfl (by intro X; exact op_move rfl),
            ⟨.plain rfl (by intro X; exact op_move rfl),
            ⟨.plain rfl (by intro X; rintro _ _ ⟨rfl, rfl⟩ _ _ ⟨rfl, rfl⟩; exact op_val (v' := .bool true) (by rw [decide_eq_true (by omega)]) (op_lss rfl rfl)),
            ⟨.plain rfl (by intro X; rintro _ _ ⟨rfl, rfl⟩; exact op_move rfl),
            ⟨.wanted rfl rfl rfl (by rintro _ _ ⟨rfl, rfl⟩; rfl) (by intro X; exact op_fieldAddr (off := 0) rfl tF52_0xa),
            ⟨.wanted rfl rfl rfl (by rintro _ _ ⟨rfl, rfl⟩; rfl) (by intro X; rintro _ _ ⟨rfl, rfl⟩; exact op_load1 rfl tO50xa (Ent.lab (l := 3) rfl (says_cel 0))),
            ⟨.wanted rfl rfl rfl (by rintro _ _ ⟨rfl, rfl⟩; rfl) (by intro X; rintro _ _ ⟨rfl, rfl⟩; exact op_lenT rfl tS50xa (Sl.ent (by first | exact Sl.app (by assumption) _ | exact Sl.app (Sl.app (by assumption) _) _))),
            ⟨.wanted rfl rfl rfl (by rintro _ _ ⟨rfl, rfl⟩; rfl) (by intro X; rintro _ _ ⟨rfl, rfl⟩; exact op_val (v' := .bool true) (by rw [decide_eq_true (by omega)]) (op_gtr rfl rfl)),
            ⟨.plain rfl (by intro X; rintro _ _ ⟨rfl, rfl⟩ _ _ ⟨rfl, rfl⟩; exact op_pick_t rfl rfl),
            ⟨.plain rfl (by intro X; rintro _ _ ⟨rfl, rfl⟩; exact op_move rfl),
            ⟨.wanted rfl rfl rfl (by rintro _ _ ⟨rfl, rfl⟩; rfl) (by intro X; exact op_fieldAddr (off := 1) rfl tF52_1xa),
            ⟨.wanted rfl rfl rfl (by rintro _ _ ⟨rfl, rfl⟩; rfl) (by intro X; rintro _ _ ⟨rfl, rfl⟩; exact op_load1 rfl tO3xa (Ent.lab (l := 3) rfl (says_cel 1))),
            ⟨.wanted rfl rfl rfl (by rintro _ _ ⟨rfl, rfl⟩; rfl) (by intro X; exact op_fieldAddr (off := 0) rfl tF52_0xa),
            ⟨.wanted rfl rfl rfl (by rintro _ _ ⟨rfl, rfl⟩; rfl) (by intro X; rintro _ _ ⟨rfl, rfl⟩; exact op_load1 rfl tO50xa (Ent.lab (l := 3) rfl (says_cel 0))),
            ⟨.wanted rfl rfl rfl (by rintro _ _ ⟨rfl, rfl⟩; rfl) (by intro X; rintro _ _ ⟨rfl, rfl⟩; exact op_idx (i := 0) rfl rfl tS50xa (Sl.ent (Sl.app (Sl.app hsub X) _)) (by omega)),
            ⟨.wanted rfl rfl rfl (by rintro _ _ ⟨rfl, rfl⟩; rfl) (by intro X; rintro _ _ ⟨rfl, rfl⟩; exact op_fieldAddr (off := 2) rfl tF96_2xa),
            ⟨.wanted rfl rfl rfl (by rintro _ _ ⟨rfl, rfl⟩; rfl) (by intro X; rintro _ _ ⟨rfl, rfl⟩; exact op_ldxf rfl tO35xa (by first | exact Sl.app (by assumption) _ | exact Sl.app (Sl.app (by assumption) _) _) (by assumption) (by rfl)),
            ⟨.wanted rfl rfl rfl (by rintro _ _ ⟨rfl, rfl⟩; rfl) (by intro X; rintro _ _ ⟨rfl, rfl⟩; exact op_lenT rfl tS35xa (Sl.ent (by first | exact Sl.app (by assumption) _ | exact Sl.app (Sl.app (by assumption) _) _))),
            ⟨.wanted rfl rfl rfl (by rintro _ _ ⟨rfl, rfl⟩; rfl) (by intro X; rintro _ _ ⟨rfl, rfl⟩ _ _ ⟨rfl, rfl⟩; exact op_add' rfl rfl (by omega)),
            ⟨.wanted rfl rfl rfl (by rintro _ _ ⟨rfl, rfl⟩; rfl) (by intro X; rintro _ _ ⟨rfl, rfl⟩; exact op_sub' rfl rfl (by omega)),
            ⟨.wanted rfl rfl rfl (by rintro _ _ ⟨rfl, rfl⟩; rfl) (by intro X; exact op_move rfl),
            ⟨.wanted rfl rfl rfl (by rintro _ _ ⟨rfl, rfl⟩; rfl) (by intro X; rintro _ _ ⟨rfl, rfl⟩ _ _ ⟨rfl, rfl⟩; exact op_val (v' := .bool true) (by rw [decide_eq_true (by omega)]) (op_leq rfl rfl)),
            ⟨.plain rfl (by intro X; rintro _ _ ⟨rfl, rfl⟩ _ _ ⟨rfl, rfl⟩; exact op_pick_t rfl rfl),
            trivial⟩⟩⟩⟩⟩⟩⟩⟩⟩⟩⟩⟩⟩⟩⟩⟩⟩⟩⟩⟩⟩⟩⟩ ?_
        rintro _ _ ⟨rfl, rfl⟩ _ _ ⟨rfl, rfl⟩ _ _ ⟨rfl, rfl⟩ _ _ ⟨rfl, rfl⟩ _ _ ⟨rfl, rfl⟩ _ _ ⟨rfl, rfl⟩ _ _ ⟨rfl, rfl⟩ _ _ ⟨rfl, rfl⟩ _ _ ⟨rfl, rfl⟩ _ _ ⟨rfl, rfl⟩ _ _ ⟨rfl, rfl⟩ _ _ ⟨rfl, rfl⟩ _ _ ⟨rfl, rfl⟩ _ _ ⟨rfl, rfl⟩ _ _ ⟨rfl, rfl⟩ _ _ ⟨rfl, rfl⟩ _ _ ⟨rfl, rfl⟩ _ _ ⟨rfl, rfl⟩ _ _ ⟨rfl, rfl⟩ _ _ ⟨rfl, rfl⟩ _ _ ⟨rfl, rfl⟩ _ _ ⟨rfl, rfl⟩ _ _ ⟨rfl, rfl⟩
        refine wl_norm (e' := [(1, _), (2, _), (3, _), (6, _), (7, _), (30, _)]) (.cons rfl (.cons rfl (.cons rfl (.cons rfl (.cons rfl (.cons rfl (.nil _))))))) (by dsimp only [cond_false, cond_true, List.nil_append, List.cons_append]) ?_
        refine wl_nil (st_tn (w_cond_t (rfl) ?_))
        refine w_skip (st_tn (w_seq (w_block (w_seq ?_))))
        refine w_draw (D := [⟨33, [], [], [], _, false, [], []⟩, ⟨34, [0], [], [], _, false, [], []⟩, ⟨35, [], [], [], _, false, [], []⟩, ⟨36, [2], [], [], _, false, [], []⟩, ⟨37, [3], [], [], _, false, [], []⟩, ⟨38, [4], [], [], _, false, [], []⟩, ⟨39, [5], [], [], _, false, [], []⟩, ⟨40, [6], [], [], _, false, [], []⟩]) [] [3] [⟨33, [], [], false, [], []⟩, ⟨34, [0], [], false, [], []⟩, ⟨35, [], [], false, [], []⟩, ⟨36, [2], [], false, [], []⟩, ⟨37, [3], [], false, [], []⟩, ⟨38, [4], [], false, [], []⟩, ⟨39, [5], [], false, [], []⟩, ⟨40, [6], [], false, [], []⟩] tMixxa (by rfl) (by kernel_rfl) (by rfl) (by rfl)
            ⟨.plain rfl (by intro X; exact op_fieldAddr (off := 1) rfl tF52_1xa),
            ⟨.plain rfl (by intro X; rintro _ _ ⟨rfl, rfl⟩; exact op_load1 rfl tO3xa (Ent.lab (l := 3) rfl (says_cel 1))),
            ⟨.plain rfl (by intro X; exact op_fieldAddr (off := 0) rfl tF52_0xa),
            ⟨.plain rfl (by intro X; rintro _ _ ⟨rfl, rfl⟩; exact op_load1 rfl tO50xa (Ent.lab (l := 3) rfl (says_cel 0))),
            ⟨.plain rfl (by intro X; rintro _ _ ⟨rfl, rfl⟩; exact op_idx (i := 0) rfl rfl tS50xa (Sl.ent (Sl.app (Sl.app hsub X) _)) (by omega)),
            ⟨.plain rfl (by intro X; rintro _ _ ⟨rfl, rfl⟩; exact op_fieldAddr (off := 2) rfl tF96_2xa),
            ⟨.plain rfl (by intro X; rintro _ _ ⟨rfl, rfl⟩; exact op_ldxf rfl tO35xa (by first | exact Sl.app (by assumption) _ | exact Sl.app (Sl.app (by assumption) _) _) (by assumption) (by rfl)),
            ⟨.plain rfl (by intro X; rintro _ _ ⟨rfl, rfl⟩; exact op_lenT rfl tS35xa (Sl.ent (by first | exact Sl.app (by assumption) _ | exact Sl.app (Sl.app (by assumption) _) _))),
            trivial⟩⟩⟩⟩⟩⟩⟩⟩ ?_
        rintro _ _ ⟨rfl, rfl⟩ _ _ ⟨rfl, rfl⟩ _ _ ⟨rfl, rfl⟩ _ _ ⟨rfl, rfl⟩ _ _ ⟨rfl, rfl⟩ _ _ ⟨rfl, rfl⟩ _ _ ⟨rfl, rfl⟩ _ _ ⟨rfl, rfl⟩
        refine wl_norm (e' := [(1, _), (2, _), (3, _), (6, _), (7, _), (34, _), (40, _)]) (.cons rfl (.cons rfl (.cons rfl (.cons rfl (.cons rfl (.cons rfl (.cons rfl (.nil _)))))))) (by dsimp only [cond_false, cond_true, List.nil_append, List.cons_append]) ?_
        refine zd rfl (op_add' rfl rfl (by omega)) ?_
        refine zd rfl (op_fieldAddr (off := 1) rfl tF52_1xa) (wl_op0 [3] rfl rfl rfl (op_store rfl rfl tZ3xa (by rfl) (by rfl) (by exact Nat.le_of_ble_eq_true rfl)) ?_)
        rintro _ _ ⟨rfl, rfl⟩
        refine wl_nil (st_tn (w_region (zd rfl (op_fieldAddr (off := 0) rfl tF52_0xa) (zd rfl (op_load1 rfl tO50xa (Ent.lab (l := 3) rfl (says_cel 0))) (zd rfl (op_sliceL (lo := 1) rfl rfl tS50xa (Sl.app hsub _) (by omega)) ?_)))))
        refine zd rfl (op_fieldAddr (off := 0) rfl tF52_0xa) (wl_op0 [3] rfl rfl rfl (op_store rfl rfl tZ50xa (by rfl) (by rfl) (by exact Nat.le_of_ble_eq_true rfl)) ?_)
        rintro _ _ ⟨rfl, rfl⟩
        refine wl_nil (st_bn (st_tn (w_region (zm rfl (zd rfl (op_add' rfl rfl (by omega)) ?_)))))
        refine za rfl (wl_nil ?_)
        refine st_roundQ (x := i) (i + 1) [3, 6] rfl (by
      have e1 : (Y.drop (i + 1)).length = (Y.drop i).length - 1 := by rw [List.length_drop, List.length_drop]; omega
      have e2 : ((f + (recsX (Y.take (i + 1))).length : Nat) : Int) = ((f + (recsX (Y.take i)).length : Nat) : Int) + x.recs.length := by rw [recsX_snoc hx, List.length_append]; omega
      dsimp only; rw [e1, e2]; rfl) (.cons rfl (.nil _)) (.cons rfl (.cons rfl (.cons rfl (.cons rfl (.nil _))))) (by
            try dsimp only
            exact hgo.1 x hx h3) (by
            try dsimp only
            have := hgo.1 x hx h3; omega)
      · -- h3-
        rw [hhd] at h3
        have h3 : ¬ ((f + (recsX (Y.take i)).length : Nat) : Int) + x.recs.length - 1 ≤ n := h3
        have hfin := hgo.2 x hx h3
        refine w_draw (D := [⟨8, [], [], [], _, false, [], []⟩, ⟨9, [], [], [], _, false, [], []⟩, ⟨10, [0, 1], [], [], _, false, [], []⟩, ⟨11, [2], [], [], _, false, [], []⟩, ⟨12, [], [], [], _, false, [], []⟩, ⟨13, [4], [], [], _, false, [], []⟩, ⟨14, [5], [], [], _, false, [], []⟩, ⟨15, [6], [], [], _, false, [], []⟩, ⟨16, [3, 7], [], [], _, false, [], []⟩, ⟨17, [8], [], [], _, false, [], []⟩, ⟨18, [], [], [], _, false, [], []⟩, ⟨19, [10], [], [], _, false, [], []⟩, ⟨20, [], [], [], _, false, [], []⟩, ⟨21, [12], [], [], _, false, [], []⟩, ⟨22, [13], [], [], _, false, [], []⟩, ⟨23, [14], [], [], _, false, [], []⟩, ⟨24, [15], [], [], _, false, [], []⟩, ⟨25, [16], [], [], _, false, [], []⟩, ⟨26, [11, 17], [], [], _, false, [], []⟩, ⟨27, [18], [], [], _, false, [], []⟩, ⟨28, [], [], [], _, false, [], []⟩, ⟨29, [19, 20], [], [], _, false, [], []⟩, ⟨30, [9, 21], [], [], _, false, [], []⟩]) [] [7, 2, 3, 1] [⟨8, [], [], false, [], []⟩, ⟨9, [], [], false, [], []⟩, ⟨10, [0, 1], [], false, [], []⟩, ⟨11, [2], [], false, [], []⟩, ⟨12, [], [], false, [], []⟩, ⟨13, [4], [], false, [], []⟩, ⟨14, [5], [], false, [], []⟩, ⟨15, [6], [], false, [], []⟩, ⟨16, [3, 7], [], false, [], []⟩, ⟨17, [8], [], false, [], []⟩, ⟨18, [], [], false, [], []⟩, ⟨19, [10], [], false, [], []⟩, ⟨20, [], [], false, [], []⟩, ⟨21, [12], [], false, [], []⟩, ⟨22, [13], [], false, [], []⟩, ⟨23, [14], [], false, [], []⟩, ⟨24, [15], [], false, [], []⟩, ⟨25, [16], [], false, [], []⟩, ⟨26, [11, 17], [], false, [], []⟩, ⟨27, [18], [], false, [], []⟩, ⟨28, [], [], false, [], []⟩, ⟨29, [19, 20], [], false, [], []⟩, ⟨30, [9, 21], [], false, [], []⟩] tMixxa (by rfl) (by kernel_rfl) (by rfl) (by rfl)
            ⟨.plain rfl (by intro X; exact op_move rfl),
            ⟨.plain rfl (by intro X; exact op_move rfl),
            ⟨.plain rfl (by intro X; rintro _ _ ⟨rfl, rfl⟩ _ _ ⟨rfl, rfl⟩; exact op_val (v' := .bool true) (by rw [decide_eq_true (by omega)]) (op_lss rfl rfl)),
            ⟨.plain rfl (by intro X; rintro _ _ ⟨rfl, rfl⟩; exact op_move rfl),
            ⟨.wanted rfl rfl rfl (by rintro _ _ ⟨rfl, rfl⟩; rfl) (by intro X; exact op_fieldAddr (off := 0) rfl tF52_0xa),
            ⟨.wanted rfl rfl rfl (by rintro _ _ ⟨rfl, rfl⟩; rfl) (by intro X; rintro _ _ ⟨rfl, rfl⟩; exact op_load1 rfl tO50xa (Ent.lab (l := 3) rfl (says_cel 0))),
            ⟨.wanted rfl rfl rfl (by rintro _ _ ⟨rfl, rfl⟩; rfl) (by intro X; rintro _ _ ⟨rfl, rfl⟩; exact op_lenT rfl tS50xa (Sl.ent (by first | exact Sl.app (by assumption) _ | exact Sl.app (Sl.app (by assumption) _) _))),
            ⟨.wanted rfl rfl rfl (by rintro _ _ ⟨rfl, rfl⟩; rfl) (by intro X; rintro _ _ ⟨rfl, rfl⟩; exact op_val (v' := .bool true) (by rw [decide_eq_true (by omega)]) (op_gtr rfl rfl)),
            ⟨.plain rfl (by intro X; rintro _ _ ⟨rfl, rfl⟩ _ _ ⟨rfl, rfl⟩; exact op_pick_t rfl rfl),
            ⟨.plain rfl (by intro X; rintro _ _ ⟨rfl, rfl⟩; exact op_move rfl),
            ⟨.wanted rfl rfl rfl (by rintro _ _ ⟨rfl, rfl⟩; rfl) (by intro X; exact op_fieldAddr (off := 1) rfl tF52_1xa),
            ⟨.wanted rfl rfl rfl (by rintro _ _ ⟨rfl, rfl⟩; rfl) (by intro X; rintro _ _ ⟨rfl, rfl⟩; exact op_load1 rfl tO3xa (Ent.lab (l := 3) rfl (says_cel 1))),
            ⟨.wanted rfl rfl rfl (by rintro _ _ ⟨rfl, rfl⟩; rfl) (by intro X; exact op_fieldAddr (off := 0) rfl tF52_0xa),
            ⟨.wanted rfl rfl rfl (by rintro _ _ ⟨rfl, rfl⟩; rfl) (by intro X; rintro _ _ ⟨rfl, rfl⟩; exact op_load1 rfl tO50xa (Ent.lab (l := 3) rfl (says_cel 0))),
            ⟨.wanted rfl rfl rfl (by rintro _ _ ⟨rfl, rfl⟩; rfl) (by intro X; rintro _ _ ⟨rfl, rfl⟩; exact op_idx (i := 0) rfl rfl tS50xa (Sl.ent (Sl.app (Sl.app hsub X) _)) (by omega)),
            ⟨.wanted rfl rfl rfl (by rintro _ _ ⟨rfl, rfl⟩; rfl) (by intro X; rintro _ _ ⟨rfl, rfl⟩; exact op_fieldAddr (off := 2) rfl tF96_2xa),
            ⟨.wanted rfl rfl rfl (by rintro _ _ ⟨rfl, rfl⟩; rfl) (by intro X; rintro _ _ ⟨rfl, rfl⟩; exact op_ldxf rfl tO35xa (by first | exact Sl.app (by assumption) _ | exact Sl.app (Sl.app (by assumption) _) _) (by assumption) (by rfl)),
            ⟨.wanted rfl rfl rfl (by rintro _ _ ⟨rfl, rfl⟩; rfl) (by intro X; rintro _ _ ⟨rfl, rfl⟩; exact op_lenT rfl tS35xa (Sl.ent (by first | exact Sl.app (by assumption) _ | exact Sl.app (Sl.app (by assumption) _) _))),
            ⟨.wanted rfl rfl rfl (by rintro _ _ ⟨rfl, rfl⟩; rfl) (by intro X; rintro _ _ ⟨rfl, rfl⟩ _ _ ⟨rfl, rfl⟩; exact op_add' rfl rfl (by omega)),
            ⟨.wanted rfl rfl rfl (by rintro _ _ ⟨rfl, rfl⟩; rfl) (by intro X; rintro _ _ ⟨rfl, rfl⟩; exact op_sub' rfl rfl (by omega)),
            ⟨.wanted rfl rfl rfl (by rintro _ _ ⟨rfl, rfl⟩; rfl) (by intro X; exact op_move rfl),
            ⟨.wanted rfl rfl rfl (by rintro _ _ ⟨rfl, rfl⟩; rfl) (by intro X; rintro _ _ ⟨rfl, rfl⟩ _ _ ⟨rfl, rfl⟩; exact op_val (v' := .bool false) (by rw [decide_eq_false (by omega)]) (op_leq rfl rfl)),
            ⟨.plain rfl (by intro X; rintro _ _ ⟨rfl, rfl⟩ _ _ ⟨rfl, rfl⟩; exact op_pick_t rfl rfl),
            trivial⟩⟩⟩⟩⟩⟩⟩⟩⟩⟩⟩⟩⟩⟩⟩⟩⟩⟩⟩⟩⟩⟩⟩ ?_
        rintro _ _ ⟨rfl, rfl⟩ _ _ ⟨rfl, rfl⟩ _ _ ⟨rfl, rfl⟩ _ _ ⟨rfl, rfl⟩ _ _ ⟨rfl, rfl⟩ _ _ ⟨rfl, rfl⟩ _ _ ⟨rfl, rfl⟩ _ _ ⟨rfl, rfl⟩ _ _ ⟨rfl, rfl⟩ _ _ ⟨rfl, rfl⟩ _ _ ⟨rfl, rfl⟩ _ _ ⟨rfl, rfl⟩ _ _ ⟨rfl, rfl⟩ _ _ ⟨rfl, rfl⟩ _ _ ⟨rfl, rfl⟩ _ _ ⟨rfl, rfl⟩ _ _ ⟨rfl, rfl⟩ _ _ ⟨rfl, rfl⟩ _ _ ⟨rfl, rfl⟩ _ _ ⟨rfl, rfl⟩ _ _ ⟨rfl, rfl⟩ _ _ ⟨rfl, rfl⟩ _ _ ⟨rfl, rfl⟩
        refine wl_norm (e' := [(1, _), (2, _), (3, _), (6, _), (7, _), (30, _)]) (.cons rfl (.cons rfl (.cons rfl (.cons rfl (.cons rfl (.cons rfl (.nil _))))))) (by dsimp only [cond_false, cond_true, List.nil_append, List.cons_append]) ?_
        refine wl_nil (st_tn (w_cond_f (rfl) ?_))
        refine w_exit (st_te ?_)
        refine st_te ?_
        refine st_be (st_tn (w_seq (w_region (zd rfl (op_loadA rfl tA52xa (Ent.lab (l := 3) rfl (says_cel 0)) (Nat.le_of_ble_eq_true rfl)) (wl_op0 [6] rfl rfl rfl (op_store rfl rfl tZ52xa (by rfl) (by rfl) (by exact Nat.le_of_ble_eq_true rfl)) ?_)))))
        rintro _ _ ⟨rfl, rfl⟩
        refine wl_nil (st_tn (w_ret (st_ret (vs := [_]) [] Try.results40 ⟨⟨_, rfl, Ent.mono (Ent.lab (l := 6) rfl (says_cel 0)) (fun _ h => run_load_agg tA52xa h (Nat.le_of_ble_eq_true rfl))⟩, trivial⟩ rfl ?_)))
        refine ⟨_, rfl, ?_⟩
        rw [hfin]; exact ⟨rfl, rfl⟩
    · -- h2-
      have hfin : trJ f Y n most = i := by
        by_cases hY : Y = []
        · have h0 : Y.length = 0 := by rw [hY]; rfl
          omega
        · have := htj.2.1 hY; omega
      refine w_draw (D := [⟨8, [], [], [], _, false, [], []⟩, ⟨9, [], [], [], _, false, [], []⟩, ⟨10, [0, 1], [], [], _, false, [], []⟩, ⟨11, [2], [], [], _, false, [], []⟩, ⟨12, [], [], [], _, false, [], []⟩, ⟨13, [4], [], [], _, false, [], []⟩, ⟨14, [5], [], [], _, false, [], []⟩, ⟨15, [6], [], [], _, false, [], []⟩, ⟨16, [3, 7], [], [], _, false, [], []⟩, ⟨17, [8], [], [], _, false, [], []⟩, ⟨18, [], [], [], Det undef, false, [], []⟩, ⟨19, [], [], [], Det undef, false, [], []⟩, ⟨20, [], [], [], Det undef, false, [], []⟩, ⟨21, [], [], [], Det undef, false, [], []⟩, ⟨22, [], [], [], Det undef, false, [], []⟩, ⟨23, [], [], [], Det undef, false, [], []⟩, ⟨24, [], [], [], Det undef, false, [], []⟩, ⟨25, [], [], [], Det undef, false, [], []⟩, ⟨26, [], [], [], Det undef, false, [], []⟩, ⟨27, [], [], [], Det undef, false, [], []⟩, ⟨28, [], [], [], Det undef, false, [], []⟩, ⟨29, [], [], [], Det undef, false, [], []⟩, ⟨30, [9, 21], [], [], _, false, [], []⟩]) [] [7, 2, 3, 1] [⟨8, [], [], false, [], []⟩, ⟨9, [], [], false, [], []⟩, ⟨10, [0, 1], [], false, [], []⟩, ⟨11, [2], [], false, [], []⟩, ⟨12, [], [], false, [], []⟩, ⟨13, [4], [], false, [], []⟩, ⟨14, [5], [], false, [], []⟩, ⟨15, [6], [], false, [], []⟩, ⟨16, [3, 7], [], false, [], []⟩, ⟨17, [8], [], false, [], []⟩, ⟨18, [], [], false, [], []⟩, ⟨19, [], [], false, [], []⟩, ⟨20, [], [], false, [], []⟩, ⟨21, [], [], false, [], []⟩, ⟨22, [], [], false, [], []⟩, ⟨23, [], [], false, [], []⟩, ⟨24, [], [], false, [], []⟩, ⟨25, [], [], false, [], []⟩, ⟨26, [], [], false, [], []⟩, ⟨27, [], [], false, [], []⟩, ⟨28, [], [], false, [], []⟩, ⟨29, [], [], false, [], []⟩, ⟨30, [9, 21], [], false, [], []⟩] tMixxa (by rfl) (by kernel_rfl) (by rfl) (by rfl)
          ⟨.plain rfl (by intro X; exact op_move rfl),
          ⟨.plain rfl (by intro X; exact op_move rfl),
          ⟨.plain rfl (by intro X; rintro _ _ ⟨rfl, rfl⟩ _ _ ⟨rfl, rfl⟩; exact op_val (v' := .bool true) (by rw [decide_eq_true (by omega)]) (op_lss rfl rfl)),
          ⟨.plain rfl (by intro X; rintro _ _ ⟨rfl, rfl⟩; exact op_move rfl),
          ⟨.wanted rfl rfl rfl (by rintro _ _ ⟨rfl, rfl⟩; rfl) (by intro X; exact op_fieldAddr (off := 0) rfl tF52_0xa),
          ⟨.wanted rfl rfl rfl (by rintro _ _ ⟨rfl, rfl⟩; rfl) (by intro X; rintro _ _ ⟨rfl, rfl⟩; exact op_load1 rfl tO50xa (Ent.lab (l := 3) rfl (says_cel 0))),
          ⟨.wanted rfl rfl rfl (by rintro _ _ ⟨rfl, rfl⟩; rfl) (by intro X; rintro _ _ ⟨rfl, rfl⟩; exact op_lenT rfl tS50xa (Sl.ent (by first | exact Sl.app (by assumption) _ | exact Sl.app (Sl.app (by assumption) _) _))),
          ⟨.wanted rfl rfl rfl (by rintro _ _ ⟨rfl, rfl⟩; rfl) (by intro X; rintro _ _ ⟨rfl, rfl⟩; exact op_val (v' := .bool false) (by rw [decide_eq_false (by omega)]) (op_gtr rfl rfl)),
          ⟨.plain rfl (by intro X; rintro _ _ ⟨rfl, rfl⟩ _ _ ⟨rfl, rfl⟩; exact op_pick_t rfl rfl),
          ⟨.plain rfl (by intro X; rintro _ _ ⟨rfl, rfl⟩; exact op_move rfl),
          ⟨.unwanted rfl rfl rfl (by rintro _ _ ⟨rfl, rfl⟩; exact congrArg (offB true) (by rfl : _ = Value.bool false)) ⟨rfl, rfl⟩ rfl rfl,
          ⟨.unwanted rfl rfl rfl (by rintro _ _ ⟨rfl, rfl⟩; exact congrArg (offB true) (by rfl : _ = Value.bool false)) ⟨rfl, rfl⟩ rfl rfl,
          ⟨.unwanted rfl rfl rfl (by rintro _ _ ⟨rfl, rfl⟩; exact congrArg (offB true) (by rfl : _ = Value.bool false)) ⟨rfl, rfl⟩ rfl rfl,
          ⟨.unwanted rfl rfl rfl (by rintro _ _ ⟨rfl, rfl⟩; exact congrArg (offB true) (by rfl : _ = Value.bool false)) ⟨rfl, rfl⟩ rfl rfl,
          ⟨.unwanted rfl rfl rfl (by rintro _ _ ⟨rfl, rfl⟩; exact congrArg (offB true) (by rfl : _ = Value.bool false)) ⟨rfl, rfl⟩ rfl rfl,
          ⟨.unwanted rfl rfl rfl (by rintro _ _ ⟨rfl, rfl⟩; exact congrArg (offB true) (by rfl : _ = Value.bool false)) ⟨rfl, rfl⟩ rfl rfl,
          ⟨.unwanted rfl rfl rfl (by rintro _ _ ⟨rfl, rfl⟩; exact congrArg (offB true) (by rfl : _ = Value.bool false)) ⟨rfl, rfl⟩ rfl rfl,
          ⟨.unwanted rfl rfl rfl (by rintro _ _ ⟨rfl, rfl⟩; exact congrArg (offB true) (by rfl : _ = Value.bool false)) ⟨rfl, rfl⟩ rfl rfl,
          ⟨.unwanted rfl rfl rfl (by rintro _ _ ⟨rfl, rfl⟩; exact congrArg (offB true) (by rfl : _ = Value.bool false)) ⟨rfl, rfl⟩ rfl rfl,
          ⟨.unwanted rfl rfl rfl (by rintro _ _ ⟨rfl, rfl⟩; exact congrArg (offB true) (by rfl : _ = Value.bool false)) ⟨rfl, rfl⟩ rfl rfl,
          ⟨.unwanted rfl rfl rfl (by rintro _ _ ⟨rfl, rfl⟩; exact congrArg (offB true) (by rfl : _ = Value.bool false)) ⟨rfl, rfl⟩ rfl rfl,
          ⟨.unwanted rfl rfl rfl (by rintro _ _ ⟨rfl, rfl⟩; exact congrArg (offB true) (by rfl : _ = Value.bool false)) ⟨rfl, rfl⟩ rfl rfl,
          ⟨.plain rfl (by intro X; rintro _ _ ⟨rfl, rfl⟩ _ _ ⟨rfl, rfl⟩; exact op_pick_f rfl rfl),
          trivial⟩⟩⟩⟩⟩⟩⟩⟩⟩⟩⟩⟩⟩⟩⟩⟩⟩⟩⟩⟩⟩⟩⟩ ?_
      rintro _ _ ⟨rfl, rfl⟩ _ _ ⟨rfl, rfl⟩ _ _ ⟨rfl, rfl⟩ _ _ ⟨rfl, rfl⟩ _ _ ⟨rfl, rfl⟩ _ _ ⟨rfl, rfl⟩ _ _ ⟨rfl, rfl⟩ _ _ ⟨rfl, rfl⟩ _ _ ⟨rfl, rfl⟩ _ _ ⟨rfl, rfl⟩ _ _ ⟨rfl, rfl⟩ _ _ ⟨rfl, rfl⟩ _ _ ⟨rfl, rfl⟩ _ _ ⟨rfl, rfl⟩ _ _ ⟨rfl, rfl⟩ _ _ ⟨rfl, rfl⟩ _ _ ⟨rfl, rfl⟩ _ _ ⟨rfl, rfl⟩ _ _ ⟨rfl, rfl⟩ _ _ ⟨rfl, rfl⟩ _ _ ⟨rfl, rfl⟩ _ _ ⟨rfl, rfl⟩ _ _ ⟨rfl, rfl⟩
      refine wl_norm (e' := [(1, _), (2, _), (3, _), (6, _), (7, _), (30, _)]) (.cons rfl (.cons rfl (.cons rfl (.cons rfl (.cons rfl (.cons rfl (.nil _))))))) (by dsimp only [cond_false, cond_true, List.nil_append, List.cons_append]) ?_
      refine wl_nil (st_tn (w_cond_f (rfl) ?_))
      refine w_exit (st_te ?_)
      refine st_te ?_
      refine st_be (st_tn (w_seq (w_region (zd rfl (op_loadA rfl tA52xa (Ent.lab (l := 3) rfl (says_cel 0)) (Nat.le_of_ble_eq_true rfl)) (wl_op0 [6] rfl rfl rfl (op_store rfl rfl tZ52xa (by rfl) (by rfl) (by exact Nat.le_of_ble_eq_true rfl)) ?_)))))
      rintro _ _ ⟨rfl, rfl⟩
      refine wl_nil (st_tn (w_ret (st_ret (vs := [_]) [] Try.results40 ⟨⟨_, rfl, Ent.mono (Ent.lab (l := 6) rfl (says_cel 0)) (fun _ h => run_load_agg tA52xa h (Nat.le_of_ble_eq_true rfl))⟩, trivial⟩ rfl ?_)))
      refine ⟨_, rfl, ?_⟩
      rw [hfin]; exact ⟨rfl, rfl⟩
  · -- h1-
    have hfin : trJ f Y n most = i := by omega
    refine w_draw (D := [⟨8, [], [], [], _, false, [], []⟩, ⟨9, [], [], [], _, false, [], []⟩, ⟨10, [0, 1], [], [], _, false, [], []⟩, ⟨11, [2], [], [], _, false, [], []⟩, ⟨12, [], [], [], Det undef, false, [], []⟩, ⟨13, [], [], [], Det undef, false, [], []⟩, ⟨14, [], [], [], Det undef, false, [], []⟩, ⟨15, [], [], [], Det undef, false, [], []⟩, ⟨16, [3, 7], [], [], _, false, [], []⟩, ⟨17, [8], [], [], _, false, [], []⟩, ⟨18, [], [], [], Det undef, false, [], []⟩, ⟨19, [], [], [], Det undef, false, [], []⟩, ⟨20, [], [], [], Det undef, false, [], []⟩, ⟨21, [], [], [], Det undef, false, [], []⟩, ⟨22, [], [], [], Det undef, false, [], []⟩, ⟨23, [], [], [], Det undef, false, [], []⟩, ⟨24, [], [], [], Det undef, false, [], []⟩, ⟨25, [], [], [], Det undef, false, [], []⟩, ⟨26, [], [], [], Det undef, false, [], []⟩, ⟨27, [], [], [], Det undef, false, [], []⟩, ⟨28, [], [], [], Det undef, false, [], []⟩, ⟨29, [], [], [], Det undef, false, [], []⟩, ⟨30, [9, 21], [], [], _, false, [], []⟩]) [] [7, 2, 3, 1] [⟨8, [], [], false, [], []⟩, ⟨9, [], [], false, [], []⟩, ⟨10, [0, 1], [], false, [], []⟩, ⟨11, [2], [], false, [], []⟩, ⟨12, [], [], false, [], []⟩, ⟨13, [], [], false, [], []⟩, ⟨14, [], [], false, [], []⟩, ⟨15, [], [], false, [], []⟩, ⟨16, [3, 7], [], false, [], []⟩, ⟨17, [8], [], false, [], []⟩, ⟨18, [], [], false, [], []⟩, ⟨19, [], [], false, [], []⟩, ⟨20, [], [], false, [], []⟩, ⟨21, [], [], false, [], []⟩, ⟨22, [], [], false, [], []⟩, ⟨23, [], [], false, [], []⟩, ⟨24, [], [], false, [], []⟩, ⟨25, [], [], false, [], []⟩, ⟨26, [], [], false, [], []⟩, ⟨27, [], [], false, [], []⟩, ⟨28, [], [], false, [], []⟩, ⟨29, [], [], false, [], []⟩, ⟨30, [9, 21], [], false, [], []⟩] tMixxa (by rfl) (by kernel_rfl) (by rfl) (by rfl)
        ⟨.plain rfl (by intro X; exact op_move rfl),
        ⟨.plain rfl (by intro X; exact op_move rfl),
        ⟨.plain rfl (by intro X; rintro _ _ ⟨rfl, rfl⟩ _ _ ⟨rfl, rfl⟩; exact op_val (v' := .bool false) (by rw [decide_eq_false (by omega)]) (op_lss rfl rfl)),
        ⟨.plain rfl (by intro X; rintro _ _ ⟨rfl, rfl⟩; exact op_move rfl),
        ⟨.unwanted rfl rfl rfl (by rintro _ _ ⟨rfl, rfl⟩; exact congrArg (offB true) (by rfl : _ = Value.bool false)) ⟨rfl, rfl⟩ rfl rfl,
        ⟨.unwanted rfl rfl rfl (by rintro _ _ ⟨rfl, rfl⟩; exact congrArg (offB true) (by rfl : _ = Value.bool false)) ⟨rfl, rfl⟩ rfl rfl,
        ⟨.unwanted rfl rfl rfl (by rintro _ _ ⟨rfl, rfl⟩; exact congrArg (offB true) (by rfl : _ = Value.bool false)) ⟨rfl, rfl⟩ rfl rfl,
        ⟨.unwanted rfl rfl rfl (by rintro _ _ ⟨rfl, rfl⟩; exact congrArg (offB true) (by rfl : _ = Value.bool false)) ⟨rfl, rfl⟩ rfl rfl,
        ⟨.plain rfl (by intro X; rintro _ _ ⟨rfl, rfl⟩ _ _ ⟨rfl, rfl⟩; exact op_pick_f rfl rfl),
        ⟨.plain rfl (by intro X; rintro _ _ ⟨rfl, rfl⟩; exact op_move rfl),
        ⟨.unwanted rfl rfl rfl (by rintro _ _ ⟨rfl, rfl⟩; exact congrArg (offB true) (by rfl : _ = Value.bool false)) ⟨rfl, rfl⟩ rfl rfl,
        ⟨.unwanted rfl rfl rfl (by rintro _ _ ⟨rfl, rfl⟩; exact congrArg (offB true) (by rfl : _ = Value.bool false)) ⟨rfl, rfl⟩ rfl rfl,
        ⟨.unwanted rfl rfl rfl (by rintro _ _ ⟨rfl, rfl⟩; exact congrArg (offB true) (by rfl : _ = Value.bool false)) ⟨rfl, rfl⟩ rfl rfl,
        ⟨.unwanted rfl rfl rfl (by rintro _ _ ⟨rfl, rfl⟩; exact congrArg (offB true) (by rfl : _ = Value.bool false)) ⟨rfl, rfl⟩ rfl rfl,
        ⟨.unwanted rfl rfl rfl (by rintro _ _ ⟨rfl, rfl⟩; exact congrArg (offB true) (by rfl : _ = Value.bool false)) ⟨rfl, rfl⟩ rfl rfl,
        ⟨.unwanted rfl rfl rfl (by rintro _ _ ⟨rfl, rfl⟩; exact congrArg (offB true) (by rfl : _ = Value.bool false)) ⟨rfl, rfl⟩ rfl rfl,
        ⟨.unwanted rfl rfl rfl (by rintro _ _ ⟨rfl, rfl⟩; exact congrArg (offB true) (by rfl : _ = Value.bool false)) ⟨rfl, rfl⟩ rfl rfl,
        ⟨.unwanted rfl rfl rfl (by rintro _ _ ⟨rfl, rfl⟩; exact congrArg (offB true) (by rfl : _ = Value.bool false)) ⟨rfl, rfl⟩ rfl rfl,
        ⟨.unwanted rfl rfl rfl (by rintro _ _ ⟨rfl, rfl⟩; exact congrArg (offB true) (by rfl : _ = Value.bool false)) ⟨rfl, rfl⟩ rfl rfl,
        ⟨.unwanted rfl rfl rfl (by rintro _ _ ⟨rfl, rfl⟩; exact congrArg (offB true) (by rfl : _ = Value.bool false)) ⟨rfl, rfl⟩ rfl rfl,
        ⟨.unwanted rfl rfl rfl (by rintro _ _ ⟨rfl, rfl⟩; exact congrArg (offB true) (by rfl : _ = Value.bool false)) ⟨rfl, rfl⟩ rfl rfl,
        ⟨.unwanted rfl rfl rfl (by rintro _ _ ⟨rfl, rfl⟩; exact congrArg (offB true) (by rfl : _ = Value.bool false)) ⟨rfl, rfl⟩ rfl rfl,
        ⟨.plain rfl (by intro X; rintro _ _ ⟨rfl, rfl⟩ _ _ ⟨rfl, rfl⟩; exact op_pick_f rfl rfl),
        trivial⟩⟩⟩⟩⟩⟩⟩⟩⟩⟩⟩⟩⟩⟩⟩⟩⟩⟩⟩⟩⟩⟩⟩ ?_
    rintro _ _ ⟨rfl, rfl⟩ _ _ ⟨rfl, rfl⟩ _ _ ⟨rfl, rfl⟩ _ _ ⟨rfl, rfl⟩ _ _ ⟨rfl, rfl⟩ _ _ ⟨rfl, rfl⟩ _ _ ⟨rfl, rfl⟩ _ _ ⟨rfl, rfl⟩ _ _ ⟨rfl, rfl⟩ _ _ ⟨rfl, rfl⟩ _ _ ⟨rfl, rfl⟩ _ _ ⟨rfl, rfl⟩ _ _ ⟨rfl, rfl⟩ _ _ ⟨rfl, rfl⟩ _ _ ⟨rfl, rfl⟩ _ _ ⟨rfl, rfl⟩ _ _ ⟨rfl, rfl⟩ _ _ ⟨rfl, rfl⟩ _ _ ⟨rfl, rfl⟩ _ _ ⟨rfl, rfl⟩ _ _ ⟨rfl, rfl⟩ _ _ ⟨rfl, rfl⟩ _ _ ⟨rfl, rfl⟩
    refine wl_norm (e' := [(1, _), (2, _), (3, _), (6, _), (7, _), (30, _)]) (.cons rfl (.cons rfl (.cons rfl (.cons rfl (.cons rfl (.cons rfl (.nil _))))))) (by dsimp only [cond_false, cond_true, List.nil_append, List.cons_append]) ?_
    refine wl_nil (st_tn (w_cond_f (rfl) ?_))
    refine w_exit (st_te ?_)
    refine st_te ?_
    refine st_be (st_tn (w_seq (w_region (zd rfl (op_loadA rfl tA52xa (Ent.lab (l := 3) rfl (says_cel 0)) (Nat.le_of_ble_eq_true rfl)) (wl_op0 [6] rfl rfl rfl (op_store rfl rfl tZ52xa (by rfl) (by rfl) (by exact Nat.le_of_ble_eq_true rfl)) ?_)))))
    rintro _ _ ⟨rfl, rfl⟩
    refine wl_nil (st_tn (w_ret (st_ret (vs := [_]) [] Try.results40 ⟨⟨_, rfl, Ent.mono (Ent.lab (l := 6) rfl (says_cel 0)) (fun _ h => run_load_agg tA52xa h (Nat.le_of_ble_eq_true rfl))⟩, trivial⟩ rfl ?_)))
    refine ⟨_, rfl, ?_⟩
    rw [hfin]; exact ⟨rfl, rfl⟩
end Go.Proofs.Ytcbigmgakdanjaa
namespace Go.Proofs.Ytcbigmgakdanjaa
open Go Go.SL Go.RowKit Go.RdM Go.WalM
set_option linter.unusedVariables false
set_option linter.unusedSimpArgs false
theorem tA52xb : aggB Try.prog 52 4 = true := by kernel_rfl
theorem tA96xb : aggB Try.prog 96 3 = true := by kernel_rfl
theorem tB96xb : placesB Try.prog 96 = some ([(0, 1), (1, 1), (2, 1)], [Value.int .i64 0, Value.int .i64 0, Value.slice none 0 0]) := by kernel_rfl
theorem tF52_0xb : fieldB Try.prog 52 0 0 = true := by kernel_rfl
theorem tF52_2xb : fieldB Try.prog 52 2 2 = true := by kernel_rfl
theorem tF52_3xb : fieldB Try.prog 52 3 3 = true := by kernel_rfl
theorem tF96_0xb : fieldB Try.prog 96 0 0 = true := by kernel_rfl
theorem tF96_1xb : fieldB Try.prog 96 1 1 = true := by kernel_rfl
theorem tF96_2xb : fieldB Try.prog 96 2 2 = true := by kernel_rfl
theorem tL50_1xb : zerosB Try.prog 50 96 3 1 = some [Value.int .i64 0, Value.int .i64 0, Value.slice none 0 0] := by kernel_rfl
theorem tMixxb : Try.prog.follows .mixedOrders = true := by kernel_rfl
theorem tN52xb : (Try.prog.info? 52).bind (·.zero) = some (Value.agg #[Value.slice none 0 0, Value.int .i64 0, Value.slice none 0 0, Value.bool false]) := by kernel_rfl
theorem tN96xb : (Try.prog.info? 96).bind (·.zero) = some (Value.agg #[Value.int .i64 0, Value.int .i64 0, Value.slice none 0 0]) := by kernel_rfl
theorem tO3xb : oneB Try.prog 3 = true := by kernel_rfl
theorem tO35xb : oneB Try.prog 35 = true := by kernel_rfl
theorem tO4xb : oneB Try.prog 4 = true := by kernel_rfl
theorem tO50xb : oneB Try.prog 50 = true := by kernel_rfl
theorem tP35xb : appB Try.prog 35 9 1 16 = true := by kernel_rfl
theorem tP50xb : appB Try.prog 50 96 3 40 = true := by kernel_rfl
theorem tS35xb : sliceB Try.prog 35 9 1 = true := by kernel_rfl
theorem tS50xb : sliceB Try.prog 50 96 3 = true := by kernel_rfl
theorem tZ3xb : (Try.prog.info? 3).map (·.size) = some 1 := by kernel_rfl
theorem tZ35xb : (Try.prog.info? 35).map (·.size) = some 1 := by kernel_rfl
theorem tZ4xb : (Try.prog.info? 4).map (·.size) = some 1 := by kernel_rfl
theorem tZ50xb : (Try.prog.info? 50).map (·.size) = some 1 := by kernel_rfl
theorem tZ52xb : (Try.prog.info? 52).map (·.size) = some 4 := by kernel_rfl
theorem tZ96xb : (Try.prog.info? 96).map (·.size) = some 3 := by kernel_rfl
set_option maxHeartbeats 400000 in
set_option maxRecDepth 100000 in
theorem mcommit_nil {σ : World} {F : List Res} {a p : Option Addr} {c cp m : Nat} {f : Int} {o : Bool} {pend : List RdM.Bs} (hP : Sl σ F encT 1 (.slice p pend.length cp) pend) (h0 : pend.length = 0) :
    FnT Try.prog σ F 56 [.agg #[.slice a m c, .int .i64 f, .slice p pend.length cp, .bool o]] [] (fun u ρ => u = .agg #[.slice a m c, .int .i64 f, .slice p pend.length cp, .bool o] ∧ ρ = []) := by
  refine fn_of 80 Try.func56 rfl Try.ntmps56 rfl ?_
  refine w_seq (w_region (wl_op [] rfl rfl rfl rfl (op_box (T := 52) (l := 1) rfl) ?_))
  rintro _ _ ⟨b1, rfl, rfl⟩
  refine wl_op [] rfl rfl rfl rfl (op_alloc (l := 2) tN52xb) ?_
  rintro _ _ ⟨b2, rfl, rfl⟩
  refine wl_nil (st_tn (w_seq (w_seq (w_region (zd rfl (op_fieldAddr (off := 2) rfl tF52_2xb) (zd rfl (op_load1 rfl tO35xb (Ent.lab (l := 1) rfl (says_cel 2))) (zd rfl (op_lenT rfl tS35xb (Sl.ent (by first | exact Sl.app (by assumption) _ | exact Sl.app (Sl.app (by assumption) _) _))) ?_)))))))
  refine zd rfl (op_val (v' := .bool true) (by rw [decide_eq_true (by omega)]) (op_eql rfl rfl)) ?_
  refine wl_nil (st_tn (w_cond_t (rfl) ?_))
  refine w_seq (w_region (zd rfl (op_loadA rfl tA52xb (Ent.lab (l := 1) rfl (says_cel 0)) (Nat.le_of_ble_eq_true rfl)) (wl_op0 [2] rfl rfl rfl (op_store rfl rfl tZ52xb (by rfl) (by rfl) (by exact Nat.le_of_ble_eq_true rfl)) ?_)))
  rintro _ _ ⟨rfl, rfl⟩
  refine wl_nil (st_tn (w_ret (st_tr (st_ret (vs := [_]) [] Try.results56 ⟨⟨_, rfl, Ent.mono (Ent.lab (l := 2) rfl (says_cel 0)) (fun _ h => run_load_agg tA52xb h (Nat.le_of_ble_eq_true rfl))⟩, trivial⟩ rfl ?_))))
  refine ⟨_, rfl, ?_⟩
  exact ⟨rfl, rfl⟩
def noteX (Y : List SegV) (o : Bool) (pend : List RdM.Bs) (q : Option Addr) (cq : Nat) : List SegV :=
  match Y.getLast? with
  | none => [⟨1, 1, q, cq, pend⟩]
  | some x => if o = true ∨ 8 ≤ x.grp then Y ++ [⟨x.num + 1, 1, q, cq, pend⟩] else Y.dropLast ++ [⟨x.num, x.grp + 1, q, cq, x.recs ++ pend⟩]
def recsN (Y : List SegV) (o : Bool) (pend : List RdM.Bs) : List RdM.Bs :=
  match Y.getLast? with
  | none => pend
  | some x => if o = true ∨ 8 ≤ x.grp then pend else x.recs ++ pend
theorem set_last {α : Type} {B : List α} {y z w : α} (h : B[((B.length : Int) - 1).toNat]? = some y) : ∃ S, B = S ++ [y] ∧ (B.set ((B.length : Int) - 1).toNat z).set ((B.length : Int) - 1).toNat w = S ++ [w] := by
  obtain ⟨S, hS⟩ := List.getLast?_eq_some_iff.1 (last_at h)
  refine ⟨S, hS, ?_⟩
  rw [List.set_set]
  subst hS
  have : (((S ++ [y]).length : Int) - 1).toNat = S.length := by simp
  rw [this, List.set_append_right _ _ (Nat.le_refl _), Nat.sub_self]; rfl
set_option maxHeartbeats 4000000 in
set_option maxRecDepth 100000 in
theorem mcommit_go {σ : World} {F : List Res} {a p : Option Addr} {c cp : Nat} {f : Int} {o : Bool} {Y : List SegV} {pend : List RdM.Bs} (lab1 lab2 : Nat) (hY : Sl σ F encSegV 3 (.slice a Y.length c) Y) (hR : SlX σ F Y) (hP : Sl σ F encT 1 (.slice p pend.length cp) pend) (h0 : 0 < pend.length) (hl : pend.length ≤ 1000000) (hYl : Y.length ≤ 1000000) (hb : ∀ x ∈ Y, x.num ≤ 1000000 ∧ x.grp ≤ 1000000 ∧ x.recs.length ≤ 1000000) :
    FnT Try.prog σ F 56 [.agg #[.slice a Y.length c, .int .i64 f, .slice p pend.length cp, .bool o]] [] (fun u ρ => ∃ a' c' q cq, u = .agg #[.slice a' (noteX Y o pend q cq).length c', .int .i64 f, .slice none 0 0, .bool false] ∧ ρ = [(lab1, slW 96 encSegV 3 (.slice a' (noteX Y o pend q cq).length c') (noteX Y o pend q cq)), (lab2, slW 9 encT 1 (.slice q (recsN Y o pend).length cq) (recsN Y o pend))]) := by
  refine fn_of 80 Try.func56 rfl Try.ntmps56 rfl ?_
  obtain ⟨gl, hgl⟩ : ∃ gl, gl = (Y.getLast?.map SegV.grp).getD 0 := ⟨_, rfl⟩
  refine w_seq (w_region (wl_op [] rfl rfl rfl rfl (op_box (T := 52) (l := 1) rfl) ?_))
  rintro _ _ ⟨b1, rfl, rfl⟩
  refine wl_op [] rfl rfl rfl rfl (op_alloc (l := 2) tN52xb) ?_
  rintro _ _ ⟨b2, rfl, rfl⟩
  refine wl_nil (st_tn (w_seq (w_seq (w_region (zd rfl (op_fieldAddr (off := 2) rfl tF52_2xb) (zd rfl (op_load1 rfl tO35xb (Ent.lab (l := 1) rfl (says_cel 2))) (zd rfl (op_lenT rfl tS35xb (Sl.ent (by first | exact Sl.app (by assumption) _ | exact Sl.app (Sl.app (by assumption) _) _))) ?_)))))))
  refine zd rfl (op_val (v' := .bool false) (by rw [decide_eq_false (by omega)]) (op_eql rfl rfl)) ?_
  refine wl_nil (st_tn (w_cond_f (rfl) ?_))
  refine w_skip (st_tn (w_seq (w_region (zd rfl (op_fieldAddr (off := 0) rfl tF52_0xb) (zd rfl (op_load1 rfl tO50xb (Ent.lab (l := 1) rfl (says_cel 0))) (zd rfl (op_lenT rfl tS50xb (Sl.ent (by first | exact Sl.app (by assumption) _ | exact Sl.app (Sl.app (by assumption) _) _))) ?_))))))
  refine za rfl (wl_nil (st_tn (w_seq (w_region (wl_op [] rfl rfl rfl rfl (op_lit0 (enc := encSegV) (lab := 14) tS50xb) ?_)))))
  rintro _ _ ⟨a14, c14, rfl, rfl⟩
  refine zd rfl (op_fieldAddr (off := 0) rfl tF52_0xb) (zd rfl (op_load1 rfl tO50xb (Ent.lab (l := 1) rfl (says_cel 0))) (wl_op [14] rfl rfl rfl rfl (op_append (lab := 14) (lab' := 17) rfl rfl tP50xb enc1SegV (Sl.app hY _) (by simp; omega) (by simp; omega)) ?_))
  rintro _ _ ⟨a17, c17, rfl, rfl⟩
  refine za rfl (wl_nil (st_tn (w_seq (w_seq ?_))))
  rw [List.nil_append]
  by_cases hz : Y.length = 0
  · -- hz+
    have hY0 : Y = [] := List.eq_nil_of_length_eq_zero hz
    refine w_region (zm rfl (zd rfl (op_val (v' := .bool true) (by rw [decide_eq_true (by omega)]) (op_eql rfl rfl)) ?_))
    refine zm rfl (wl_unwanted rfl rfl rfl rfl rfl rfl rfl rfl (wl_unwanted rfl rfl rfl rfl rfl rfl rfl rfl (zd rfl (op_pick_t rfl rfl) (zm rfl (wl_unwanted rfl rfl rfl rfl rfl rfl rfl rfl (wl_unwanted rfl rfl rfl rfl rfl rfl rfl rfl (wl_unwanted rfl rfl rfl rfl rfl rfl rfl rfl (wl_unwanted rfl rfl rfl rfl rfl rfl rfl rfl (wl_unwanted rfl rfl rfl rfl rfl rfl rfl rfl (wl_unwanted rfl rfl rfl rfl rfl rfl rfl rfl (wl_unwanted rfl rfl rfl rfl rfl rfl rfl rfl (zd rfl (op_pick_t rfl rfl) (wl_nil ?_)))))))))))))
    refine st_tn (w_cond_t (rfl) ?_)
    refine w_seq (w_region (zd rfl (op_build tB96xb rfl rfl) (wl_op [] rfl rfl rfl rfl (op_alloc (l := 5) tN96xb) ?_)))
    rintro _ _ ⟨b5, rfl, rfl⟩
    refine wl_op0 [5] rfl rfl rfl (op_store rfl rfl tZ96xb (by rfl) (by rfl) (by exact Nat.le_of_ble_eq_true rfl)) ?_
    rintro _ _ ⟨rfl, rfl⟩
    refine wl_nil (st_tn (w_seq (w_seq (w_region (zm rfl (zd rfl (op_val (v' := .bool false) (by rw [decide_eq_false (by omega)]) (op_gtr rfl rfl)) ?_))))))
    refine wl_nil (st_tn (w_cond_f (rfl) ?_))
    refine w_skip (st_tn (w_region (zm rfl (zd rfl (op_loadA rfl tA96xb (Ent.lab (l := 5) rfl (says_cel 0)) (Nat.le_of_ble_eq_true rfl)) (wl_op [] rfl rfl rfl rfl (op_buildSlice (enc := encSegV) (l := [(⟨1, 0, none, 0, []⟩ : SegV)]) (lab := 46) tL50_1xb rfl rfl (fun _ => rfl) rfl) ?_)))))
    rintro _ _ ⟨a46, c46, rfl, rfl⟩
    refine wl_op [17] rfl rfl rfl rfl (op_append (lab := 17) (lab' := 47) rfl rfl tP50xb enc1SegV (Sl.lab 46 rfl (by simp [maxLen])) (by simp; omega) (by simp; omega)) ?_
    rintro _ _ ⟨a47, c47, rfl, rfl⟩
    refine zm rfl (zd rfl (op_add' rfl rfl (by omega)) ?_)
    refine za rfl (za rfl (wl_nil (st_tn (w_seq ?_))))
    obtain ⟨B, hB⟩ : ∃ B, B = Y ++ [(⟨1, 0, none, 0, []⟩ : SegV)] := ⟨_, rfl⟩
    rw [← hB]
    have hBl : B.length = Y.length + 1 := by rw [hB]; simp
    have hy0 : ∀ y, B[((B.length : Int) - 1).toNat]? = some y → y = ⟨1, 0, none, 0, []⟩ := fun y hy => by
      rw [hBl] at hy
      rw [hB, List.getElem?_append_right (by omega), show (((Y.length + 1 : Nat) : Int) - 1).toNat - Y.length = 0 by omega] at hy
      simp at hy; exact hy.symm
    obtain ⟨y, hy⟩ := getE (l := B) (i := ((B.length : Int) - 1).toNat) (by omega)
    have hyr : Sl σ F encT 1 (.slice y.q y.recs.length y.cq) y.recs := by rw [hy0 y hy]; exact Sl.nilv
    have hyb : y.grp ≤ 1000000 ∧ y.recs.length ≤ 1000000 := by rw [hy0 y hy]; simp
    have hB1l : (B.set ((B.length : Int) - 1).toNat (⟨y.num, y.grp + 1, y.q, y.cq, y.recs⟩ : SegV)).length = B.length := List.length_set ..
    have hy1 : (B.set ((B.length : Int) - 1).toNat (⟨y.num, y.grp + 1, y.q, y.cq, y.recs⟩ : SegV))[((B.length : Int) - 1).toNat]? = some (⟨y.num, y.grp + 1, y.q, y.cq, y.recs⟩ : SegV) := List.getElem?_set_self (by omega)
    refine w_region (zm rfl (zm rfl (zd rfl (op_val (v' := .int .i64 ((B.length : Int) - 1)) (by congr 1; omega) (op_sub' rfl rfl (by omega))) ?_)))
    refine zd rfl (op_idxZ (l := B) rfl rfl tS50xb (Sl.ent (Sl.lab (E := 96) (enc := encSegV) (l := B) 47 rfl (by unfold maxLen; omega))) (by omega) (by omega)) ?_
    refine zd rfl (op_fieldAddr (off := 1) rfl tF96_1xb) (zd rfl (op_ldxf rfl tO3xb (Sl.lab (E := 96) (enc := encSegV) (l := B) 47 rfl (by unfold maxLen; omega)) hy (by rfl)) ?_)
    refine zd rfl (op_add' rfl rfl (by omega)) ?_
    refine zd rfl (op_idxZ (l := B) rfl rfl tS50xb (Sl.ent (Sl.lab (E := 96) (enc := encSegV) (l := B) 47 rfl (by unfold maxLen; omega))) (by omega) (by omega)) ?_
    refine zd rfl (op_fieldAddr (off := 1) rfl tF96_1xb) (wl_op0 [47] rfl rfl rfl (op_storeX (lab := 47) (j := 1) (b' := ⟨y.num, y.grp + 1, y.q, y.cq, y.recs⟩) rfl rfl tO3xb rfl rfl (by rfl) hy (Nat.le_of_ble_eq_true rfl) (by rfl)) ?_)
    rintro _ _ ⟨rfl, rfl⟩
    refine wl_nil (st_tn (w_seq ?_))
    refine w_drawW (fun β => [⟨59, [], [], [], noW (_), false, [], []⟩, ⟨60, [], [], [], noW (_), false, [], []⟩, ⟨61, [1], [], [], noW (_), false, [], []⟩, ⟨62, [], [], [], fun w => DetW _ _, true, [], []⟩, ⟨63, [], [], [], noW (_), false, [], []⟩, ⟨64, [], [], [], noW (_), false, [], []⟩, ⟨65, [5], [], [], noW (_), false, [], []⟩, ⟨66, [4, 6], [], [], noW (_), false, [], []⟩, ⟨67, [7], [], [], noW (_), false, [], []⟩, ⟨68, [8], [], [], noW (_), false, [], []⟩, ⟨69, [9], [3], [], fun w => DetW _ _, true, [], []⟩, ⟨70, [], [], [], noW (_), false, [], []⟩, ⟨71, [11], [], [], noW (_), false, [], []⟩, ⟨72, [12], [10], [], fun w => DetW _ _, false, [], []⟩]) [] [4, 3, 1] [⟨59, [], [], false, [], []⟩, ⟨60, [], [], false, [], []⟩, ⟨61, [1], [], false, [], []⟩, ⟨62, [], [], true, [], []⟩, ⟨63, [], [], false, [], []⟩, ⟨64, [], [], false, [], []⟩, ⟨65, [5], [], false, [], []⟩, ⟨66, [4, 6], [], false, [], []⟩, ⟨67, [7], [], false, [], []⟩, ⟨68, [8], [], false, [], []⟩, ⟨69, [9], [3], true, [], []⟩, ⟨70, [], [], false, [], []⟩, ⟨71, [11], [], false, [], []⟩, ⟨72, [12], [10], false, [], []⟩] [[], [], [], [], [], [], [], [], [], [], [3], [], [], [3, 10]] [[], [], [], [], [], [], [], [], [], [], [], [], [], []] tMixxb (fun _ => by rfl) (fun _ => by rfl) (by kernel_rfl) (by kernel_rfl) (by rfl) (by rfl)
        (fun β => ⟨.p rfl (by intro X; exact op_move rfl),
        ⟨.p rfl (by intro X; exact op_move rfl),
        ⟨.p rfl (by intro X; rintro _ _ ⟨rfl, rfl⟩; exact op_val (v' := .int .i64 ((B.length : Int) - 1)) (by congr 1; omega) (op_sub' rfl rfl (by omega))),
        ⟨.px rfl (by intro X; refine OpT.mono (op_lit0 (enc := encT) (lab := 62) tS35xb) ?_; rintro _ _ ⟨a62, c62, rfl, rfl⟩; obtain ⟨w, rfl, rfl⟩ : ∃ w : Wt, w.a = a62 ∧ w.c = c62 := ⟨{ a := a62, c := c62 }, rfl, rfl⟩; exact ⟨w, rfl, rfl⟩),
        ⟨.p rfl (by intro X; exact op_move rfl),
        ⟨.p rfl (by intro X; exact op_move rfl),
        ⟨.p rfl (by intro X; rintro _ _ ⟨rfl, rfl⟩; exact op_val (v' := .int .i64 ((B.length : Int) - 1)) (by congr 1; omega) (op_sub' rfl rfl (by omega))),
        ⟨.p rfl (by intro X; rintro _ _ ⟨rfl, rfl⟩ _ _ ⟨rfl, rfl⟩; exact op_idxZ (l := (B.set ((B.length : Int) - 1).toNat (⟨y.num, y.grp + 1, y.q, y.cq, y.recs⟩ : SegV))) rfl rfl tS50xb (Sl.ent (Sl.lab (E := 96) (enc := encSegV) (l := (B.set ((B.length : Int) - 1).toNat (⟨y.num, y.grp + 1, y.q, y.cq, y.recs⟩ : SegV))) 47 rfl (by rw [hB1l]; unfold maxLen; omega))) (by omega) (by rw [hB1l]; omega)),
        ⟨.p rfl (by intro X; rintro _ _ ⟨rfl, rfl⟩; exact op_fieldAddr (off := 2) rfl tF96_2xb),
        ⟨.p rfl (by intro X; rintro _ _ ⟨rfl, rfl⟩; exact op_ldxf rfl tO35xb (Sl.lab (E := 96) (enc := encSegV) (l := (B.set ((B.length : Int) - 1).toNat (⟨y.num, y.grp + 1, y.q, y.cq, y.recs⟩ : SegV))) 47 rfl (by rw [hB1l]; unfold maxLen; omega)) hy1 (by rfl)),
        ⟨.px rfl (by intro X; rintro _ _ ⟨rfl, rfl⟩ _ _ ⟨rfl, rfl⟩; show OpT _ _ _ _ _ _ [(_, _)] _; refine OpT.mono (op_append (lab := 62) (lab' := 69) rfl rfl tP35xb enc1T (Sl.app (Sl.app hyr X) _) (by simp; omega) (by simp; omega)) ?_; rintro _ _ ⟨a69, c69, rfl, rfl⟩; obtain ⟨w, rfl, rfl⟩ : ∃ w : Wt, w.a = a69 ∧ w.c = c69 := ⟨{ a := a69, c := c69 }, rfl, rfl⟩; exact ⟨w, rfl, rfl⟩),
        ⟨.p rfl (by intro X; exact op_fieldAddr (off := 2) rfl tF52_2xb),
        ⟨.p rfl (by intro X; rintro _ _ ⟨rfl, rfl⟩; exact op_load1 rfl tO35xb (Ent.lab (l := 1) rfl (says_cel 2))),
        ⟨.px rfl (by intro X; rintro _ _ ⟨rfl, rfl⟩ _ _ ⟨rfl, rfl⟩; show OpT _ _ _ _ _ _ [(_, _)] _; refine OpT.mono (op_append (lab := 69) (lab' := 72) rfl rfl tP35xb enc1T (Sl.app (Sl.app hP X) _) (by simp; omega) (by simp; omega)) ?_; rintro _ _ ⟨a72, c72, rfl, rfl⟩; obtain ⟨w, rfl, rfl⟩ : ∃ w : Wt, w.a = a72 ∧ w.c = c72 := ⟨{ a := a72, c := c72 }, rfl, rfl⟩; exact ⟨w, rfl, rfl⟩),
        trivial⟩⟩⟩⟩⟩⟩⟩⟩⟩⟩⟩⟩⟩⟩)
        (fun β β' => ⟨fun _ => by rfl, ⟨fun _ => by rfl, ⟨fun _ => by rfl, ⟨fun _ => by rfl, ⟨fun _ => by rfl, ⟨fun _ => by rfl, ⟨fun _ => by rfl, ⟨fun _ => by rfl, ⟨fun _ => by rfl, ⟨fun _ => by rfl, ⟨fun h => by first | rfl | (simp only [h 3 (by decide)]), ⟨fun _ => by rfl, ⟨fun _ => by rfl, ⟨fun h => by first | rfl | (simp only [h 3 (by decide), h 10 (by decide)]), trivial⟩⟩⟩⟩⟩⟩⟩⟩⟩⟩⟩⟩⟩⟩) ?_
    intro β
    rintro _ _ ⟨rfl, rfl⟩ _ _ ⟨rfl, rfl⟩ _ _ ⟨rfl, rfl⟩ _ _ ⟨rfl, rfl⟩ _ _ ⟨rfl, rfl⟩ _ _ ⟨rfl, rfl⟩ _ _ ⟨rfl, rfl⟩ _ _ ⟨rfl, rfl⟩ _ _ ⟨rfl, rfl⟩ _ _ ⟨rfl, rfl⟩ _ _ ⟨rfl, rfl⟩ _ _ ⟨rfl, rfl⟩ _ _ ⟨rfl, rfl⟩ _ _ ⟨rfl, rfl⟩
    generalize (β 3).a = a62
    generalize (β 3).c = c62
    generalize (β 10).a = a69
    generalize (β 10).c = c69
    generalize (β 13).a = a72
    generalize (β 13).c = c72
    refine wl_norm (e' := [(1, _), (2, _), (4, _), (59, _), (61, _), (72, _)]) (.cons rfl (.cons rfl (.cons rfl (.cons rfl (.cons rfl (.cons rfl (.nil _))))))) (by dsimp only [cond_false, cond_true, List.nil_append, List.cons_append]) ?_
    refine zd rfl (op_idxZ (l := (B.set ((B.length : Int) - 1).toNat (⟨y.num, y.grp + 1, y.q, y.cq, y.recs⟩ : SegV))) rfl rfl tS50xb (Sl.ent (Sl.lab (E := 96) (enc := encSegV) (l := (B.set ((B.length : Int) - 1).toNat (⟨y.num, y.grp + 1, y.q, y.cq, y.recs⟩ : SegV))) 47 rfl (by rw [hB1l]; unfold maxLen; omega))) (by omega) (by rw [hB1l]; omega)) ?_
    refine zd rfl (op_fieldAddr (off := 2) rfl tF96_2xb) (wl_op0 [47] rfl rfl rfl (op_storeX (lab := 47) (j := 2) (b' := ⟨y.num, y.grp + 1, a72, c72, y.recs ++ pend⟩) rfl rfl tO35xb rfl rfl (by rfl) hy1 (Nat.le_of_ble_eq_true rfl) (by rfl)) ?_)
    rintro _ _ ⟨rfl, rfl⟩
    refine wl_nil (st_tn (w_seq (w_region (zm rfl (zd rfl (op_fieldAddr (off := 0) rfl tF52_0xb) (wl_op0 [1] rfl rfl rfl (op_store rfl rfl tZ50xb (by rfl) (by rfl) (by exact Nat.le_of_ble_eq_true rfl)) ?_))))))
    rintro _ _ ⟨rfl, rfl⟩
    refine zd rfl (op_fieldAddr (off := 2) rfl tF52_2xb) (wl_op0 [1] rfl rfl rfl (op_store rfl rfl tZ35xb (by rfl) (by rfl) (by exact Nat.le_of_ble_eq_true rfl)) ?_)
    rintro _ _ ⟨rfl, rfl⟩
    refine zd rfl (op_fieldAddr (off := 3) rfl tF52_3xb) (wl_op0 [1] rfl rfl rfl (op_store rfl rfl tZ4xb (by rfl) (by rfl) (by exact Nat.le_of_ble_eq_true rfl)) ?_)
    rintro _ _ ⟨rfl, rfl⟩
    refine wl_nil (st_tn (w_seq (w_region (zd rfl (op_loadA rfl tA52xb (Ent.lab (l := 1) rfl (says_cel 0)) (Nat.le_of_ble_eq_true rfl)) (wl_op0 [2] rfl rfl rfl (op_store rfl rfl tZ52xb (by rfl) (by rfl) (by exact Nat.le_of_ble_eq_true rfl)) ?_)))))
    rintro _ _ ⟨rfl, rfl⟩
    refine wl_nil (st_tn (w_ret (st_ret (vs := [_]) [47, 72] Try.results56 ⟨⟨_, rfl, Ent.mono (Ent.lab (l := 2) rfl (says_cel 0)) (fun _ h => run_load_agg tA52xb h (Nat.le_of_ble_eq_true rfl))⟩, trivial⟩ rfl ?_)))
    refine ⟨[(lab1, _), (lab2, _)], rfl, ?_⟩
    skip
    refine ⟨a47, c47, a72, c72, ?_⟩
    obtain ⟨S, hS, hset⟩ := set_last (z := (⟨y.num, y.grp + 1, y.q, y.cq, y.recs⟩ : SegV)) (w := (⟨y.num, y.grp + 1, a72, c72, y.recs ++ pend⟩ : SegV)) hy
    rw [hset]
    have e1 : noteX Y o pend a72 c72 = S ++ [(⟨y.num, y.grp + 1, a72, c72, y.recs ++ pend⟩ : SegV)] := by
      obtain ⟨e2, e3⟩ := List.append_inj' (hB.symm.trans hS) rfl
      subst e2
      rw [hy0 y hy]
      rw [hY0]; rfl
    have e4 : recsN Y o pend = y.recs ++ pend := by rw [hy0 y hy]; rw [hY0]; rfl
    have e5 : B.length = (noteX Y o pend a72 c72).length := by rw [e1, hS]; simp
    rw [← e1, e4, e5]; exact ⟨rfl, rfl⟩
  · -- hz-
    obtain ⟨x, hx⟩ := getE (l := Y) (i := ((Y.length : Int) - 1).toNat) (by omega)
    have hxb := hb x (List.mem_of_getElem? hx)
    have hlast := last_at hx
    rw [hlast] at hgl
    have hgl : gl = x.grp := hgl
    by_cases ho : o = true
    · -- ho+
      refine w_region (zm rfl (zd rfl (op_val (v' := .bool false) (by rw [decide_eq_false (by omega)]) (op_eql rfl rfl)) ?_))
      refine zm rfl (wl_wanted_det rfl rfl rfl rfl rfl rfl rfl (op_fieldAddr (off := 3) rfl tF52_3xb) (wl_wanted_det rfl rfl rfl rfl rfl rfl rfl (op_val (v' := .bool true) (by rw [ho]) (op_load1 rfl tO4xb (Ent.lab (l := 1) rfl (says_cel 3)))) ?_))
      refine zd rfl (op_pick_f rfl rfl) (zm rfl (wl_unwanted rfl rfl rfl rfl rfl rfl rfl rfl (wl_unwanted rfl rfl rfl rfl rfl rfl rfl rfl (wl_unwanted rfl rfl rfl rfl rfl rfl rfl rfl (wl_unwanted rfl rfl rfl rfl rfl rfl rfl rfl (wl_unwanted rfl rfl rfl rfl rfl rfl rfl rfl (wl_unwanted rfl rfl rfl rfl rfl rfl rfl rfl (wl_unwanted rfl rfl rfl rfl rfl rfl rfl rfl (zd rfl (op_pick_t rfl rfl) (wl_nil (st_tn (w_cond_t (rfl) ?_))))))))))))
      refine w_seq (w_region (zd rfl (op_build tB96xb rfl rfl) (wl_op [] rfl rfl rfl rfl (op_alloc (l := 5) tN96xb) ?_)))
      rintro _ _ ⟨b5, rfl, rfl⟩
      refine wl_op0 [5] rfl rfl rfl (op_store rfl rfl tZ96xb (by rfl) (by rfl) (by exact Nat.le_of_ble_eq_true rfl)) ?_
      rintro _ _ ⟨rfl, rfl⟩
      refine wl_nil (st_tn (w_seq (w_seq (w_region (zm rfl (zd rfl (op_val (v' := .bool true) (by rw [decide_eq_true (by omega)]) (op_gtr rfl rfl)) ?_))))))
      refine wl_nil (st_tn (w_cond_t (rfl) ?_))
      refine w_region (zm rfl (zm rfl (zd rfl (op_sub' rfl rfl (by omega)) ?_)))
      refine zd rfl (op_idxZ rfl rfl tS50xb (Sl.ent (Sl.lab 17 rfl (by first | (unfold maxLen; omega) | (unfold maxLen; simp; omega)))) (by omega) (by omega)) ?_
      refine zd rfl (op_fieldAddr (off := 0) rfl tF96_0xb) (zd rfl (op_ldxf rfl tO3xb (Sl.lab 17 rfl (by first | (unfold maxLen; omega) | (unfold maxLen; simp; omega))) (by assumption) (by rfl)) ?_)
      refine zd rfl (op_add' rfl rfl (by omega)) ?_
      refine zd rfl (op_fieldAddr (off := 0) rfl tF96_0xb) (wl_op0 [5] rfl rfl rfl (op_store rfl rfl tZ3xb (by rfl) (by rfl) (by exact Nat.le_of_ble_eq_true rfl)) ?_)
      rintro _ _ ⟨rfl, rfl⟩
      refine wl_nil (st_tn (w_region (zm rfl (zd rfl (op_loadA rfl tA96xb (Ent.lab (l := 5) rfl (says_cel 0)) (Nat.le_of_ble_eq_true rfl)) (wl_op [] rfl rfl rfl rfl (op_buildSlice (enc := encSegV) (l := [(⟨x.num + 1, 0, none, 0, []⟩ : SegV)]) (lab := 46) tL50_1xb rfl rfl (fun _ => rfl) rfl) ?_)))))
      rintro _ _ ⟨a46, c46, rfl, rfl⟩
      refine wl_op [17] rfl rfl rfl rfl (op_append (lab := 17) (lab' := 47) rfl rfl tP50xb enc1SegV (Sl.lab 46 rfl (by simp [maxLen])) (by simp; omega) (by simp; omega)) ?_
      rintro _ _ ⟨a47, c47, rfl, rfl⟩
      refine zm rfl (zd rfl (op_add' rfl rfl (by omega)) ?_)
      refine za rfl (za rfl (wl_nil (st_tn (w_seq ?_))))
      obtain ⟨B, hB⟩ : ∃ B, B = Y ++ [(⟨x.num + 1, 0, none, 0, []⟩ : SegV)] := ⟨_, rfl⟩
      rw [← hB]
      have hBl : B.length = Y.length + 1 := by rw [hB]; simp
      have hy0 : ∀ y, B[((B.length : Int) - 1).toNat]? = some y → y = ⟨x.num + 1, 0, none, 0, []⟩ := fun y hy => by
        rw [hBl] at hy
        rw [hB, List.getElem?_append_right (by omega), show (((Y.length + 1 : Nat) : Int) - 1).toNat - Y.length = 0 by omega] at hy
        simp at hy; exact hy.symm
      obtain ⟨y, hy⟩ := getE (l := B) (i := ((B.length : Int) - 1).toNat) (by omega)
      have hyr : Sl σ F encT 1 (.slice y.q y.recs.length y.cq) y.recs := by rw [hy0 y hy]; exact Sl.nilv
      have hyb : y.grp ≤ 1000000 ∧ y.recs.length ≤ 1000000 := by rw [hy0 y hy]; simp
      have hB1l : (B.set ((B.length : Int) - 1).toNat (⟨y.num, y.grp + 1, y.q, y.cq, y.recs⟩ : SegV)).length = B.length := List.length_set ..
      have hy1 : (B.set ((B.length : Int) - 1).toNat (⟨y.num, y.grp + 1, y.q, y.cq, y.recs⟩ : SegV))[((B.length : Int) - 1).toNat]? = some (⟨y.num, y.grp + 1, y.q, y.cq, y.recs⟩ : SegV) := List.getElem?_set_self (by omega)
      refine w_region (zm rfl (zm rfl (zd rfl (op_val (v' := .int .i64 ((B.length : Int) - 1)) (by congr 1; omega) (op_sub' rfl rfl (by omega))) ?_)))
      refine zd rfl (op_idxZ (l := B) rfl rfl tS50xb (Sl.ent (Sl.lab (E := 96) (enc := encSegV) (l := B) 47 rfl (by unfold maxLen; omega))) (by omega) (by omega)) ?_
      refine zd rfl (op_fieldAddr (off := 1) rfl tF96_1xb) (zd rfl (op_ldxf rfl tO3xb (Sl.lab (E := 96) (enc := encSegV) (l := B) 47 rfl (by unfold maxLen; omega)) hy (by rfl)) ?_)
      refine zd rfl (op_add' rfl rfl (by omega)) ?_
      refine zd rfl (op_idxZ (l := B) rfl rfl tS50xb (Sl.ent (Sl.lab (E := 96) (enc := encSegV) (l := B) 47 rfl (by unfold maxLen; omega))) (by omega) (by omega)) ?_
      refine zd rfl (op_fieldAddr (off := 1) rfl tF96_1xb) (wl_op0 [47] rfl rfl rfl (op_storeX (lab := 47) (j := 1) (b' := ⟨y.num, y.grp + 1, y.q, y.cq, y.recs⟩) rfl rfl tO3xb rfl rfl (by rfl) hy (Nat.le_of_ble_eq_true rfl) (by rfl)) ?_)
      rintro _ _ ⟨rfl, rfl⟩
      refine wl_nil (st_tn (w_seq ?_))
      refine w_drawW (fun β => [⟨59, [], [], [], noW (_), false, [], []⟩, ⟨60, [], [], [], noW (_), false, [], []⟩, ⟨61, [1], [], [], noW (_), false, [], []⟩, ⟨62, [], [], [], fun w => DetW _ _, true, [], []⟩, ⟨63, [], [], [], noW (_), false, [], []⟩, ⟨64, [], [], [], noW (_), false, [], []⟩, ⟨65, [5], [], [], noW (_), false, [], []⟩, ⟨66, [4, 6], [], [], noW (_), false, [], []⟩, ⟨67, [7], [], [], noW (_), false, [], []⟩, ⟨68, [8], [], [], noW (_), false, [], []⟩, ⟨69, [9], [3], [], fun w => DetW _ _, true, [], []⟩, ⟨70, [], [], [], noW (_), false, [], []⟩, ⟨71, [11], [], [], noW (_), false, [], []⟩, ⟨72, [12], [10], [], fun w => DetW _ _, false, [], []⟩]) [] [4, 3, 1] [⟨59, [], [], false, [], []⟩, ⟨60, [], [], false, [], []⟩, ⟨61, [1], [], false, [], []⟩, ⟨62, [], [], true, [], []⟩, ⟨63, [], [], false, [], []⟩, ⟨64, [], [], false, [], []⟩, ⟨65, [5], [], false, [], []⟩, ⟨66, [4, 6], [], false, [], []⟩, ⟨67, [7], [], false, [], []⟩, ⟨68, [8], [], false, [], []⟩, ⟨69, [9], [3], true, [], []⟩, ⟨70, [], [], false, [], []⟩, ⟨71, [11], [], false, [], []⟩, ⟨72, [12], [10], false, [], []⟩] [[], [], [], [], [], [], [], [], [], [], [3], [], [], [3, 10]] [[], [], [], [], [], [], [], [], [], [], [], [], [], []] tMixxb (fun _ => by rfl) (fun _ => by rfl) (by kernel_rfl) (by kernel_rfl) (by rfl) (by rfl)
          (fun β => ⟨.p rfl (by intro X; exact op_move rfl),
          ⟨.p rfl (by intro X; exact op_move rfl),
          ⟨.p rfl (by intro X; rintro _ _ ⟨rfl, rfl⟩; exact op_val (v' := .int .i64 ((B.length : Int) - 1)) (by congr 1; omega) (op_sub' rfl rfl (by omega))),
          ⟨.px rfl (by intro X; refine OpT.mono (op_lit0 (enc := encT) (lab := 62) tS35xb) ?_; rintro _ _ ⟨a62, c62, rfl, rfl⟩; obtain ⟨w, rfl, rfl⟩ : ∃ w : Wt, w.a = a62 ∧ w.c = c62 := ⟨{ a := a62, c := c62 }, rfl, rfl⟩; exact ⟨w, rfl, rfl⟩),
          ⟨.p rfl (by intro X; exact op_move rfl),
          ⟨.p rfl (by intro X; exact op_move rfl),
          ⟨.p rfl (by intro X; rintro _ _ ⟨rfl, rfl⟩; exact op_val (v' := .int .i64 ((B.length : Int) - 1)) (by congr 1; omega) (op_sub' rfl rfl (by omega))),
          ⟨.p rfl (by intro X; rintro _ _ ⟨rfl, rfl⟩ _ _ ⟨rfl, rfl⟩; exact op_idxZ (l := (B.set ((B.length : Int) - 1).toNat (⟨y.num, y.grp + 1, y.q, y.cq, y.recs⟩ : SegV))) rfl rfl tS50xb (Sl.ent (Sl.lab (E := 96) (enc := encSegV) (l := (B.set ((B.length : Int) - 1).toNat (⟨y.num, y.grp + 1, y.q, y.cq, y.recs⟩ : SegV))) 47 rfl (by rw [hB1l]; unfold maxLen; omega))) (by omega) (by rw [hB1l]; omega)),
          ⟨.p rfl (by intro X; rintro _ _ ⟨rfl, rfl⟩; exact op_fieldAddr (off := 2) rfl tF96_2xb),
          ⟨.p rfl (by intro X; rintro _ _ ⟨rfl, rfl⟩; exact op_ldxf rfl tO35xb (Sl.lab (E := 96) (enc := encSegV) (l := (B.set ((B.length : Int) - 1).toNat (⟨y.num, y.grp + 1, y.q, y.cq, y.recs⟩ : SegV))) 47 rfl (by rw [hB1l]; unfold maxLen; omega)) hy1 (by rfl)),
          ⟨.px rfl (by intro X; rintro _ _ ⟨rfl, rfl⟩ _ _ ⟨rfl, rfl⟩; show OpT _ _ _ _ _ _ [(_, _)] _; refine OpT.mono (op_append (lab := 62) (lab' := 69) rfl rfl tP35xb enc1T (Sl.app (Sl.app hyr X) _) (by simp; omega) (by simp; omega)) ?_; rintro _ _ ⟨a69, c69, rfl, rfl⟩; obtain ⟨w, rfl, rfl⟩ : ∃ w : Wt, w.a = a69 ∧ w.c = c69 := ⟨{ a := a69, c := c69 }, rfl, rfl⟩; exact ⟨w, rfl, rfl⟩),
          ⟨.p rfl (by intro X; exact op_fieldAddr (off := 2) rfl tF52_2xb),
          ⟨.p rfl (by intro X; rintro _ _ ⟨rfl, rfl⟩; exact op_load1 rfl tO35xb (Ent.lab (l := 1) rfl (says_cel 2))),
          ⟨.px rfl (by intro X; rintro _ _ ⟨rfl, rfl⟩ _ _ ⟨rfl, rfl⟩; show OpT _ _ _ _ _ _ [(_, _)] _; refine OpT.mono (op_append (lab := 69) (lab' := 72) rfl rfl tP35xb enc1T (Sl.app (Sl.app hP X) _) (by simp; omega) (by simp; omega)) ?_; rintro _ _ ⟨a72, c72, rfl, rfl⟩; obtain ⟨w, rfl, rfl⟩ : ∃ w : Wt, w.a = a72 ∧ w.c = c72 := ⟨{ a := a72, c := c72 }, rfl, rfl⟩; exact ⟨w, rfl, rfl⟩),
          trivial⟩⟩⟩⟩⟩⟩⟩⟩⟩⟩⟩⟩⟩⟩)
          (fun β β' => ⟨fun _ => by rfl, ⟨fun _ => by rfl, ⟨fun _ => by rfl, ⟨fun _ => by rfl, ⟨fun _ => by rfl, ⟨fun _ => by rfl, ⟨fun _ => by rfl, ⟨fun _ => by rfl, ⟨fun _ => by rfl, ⟨fun _ => by rfl, ⟨fun h => by first | rfl | (simp only [h 3 (by decide)]), ⟨fun _ => by rfl, ⟨fun _ => by rfl, ⟨fun h => by first | rfl | (simp only [h 3 (by decide), h 10 (by decide)]), trivial⟩⟩⟩⟩⟩⟩⟩⟩⟩⟩⟩⟩⟩⟩) ?_
      intro β
      rintro _ _ ⟨rfl, rfl⟩ _ _ ⟨rfl, rfl⟩ _ _ ⟨rfl, rfl⟩ _ _ ⟨rfl, rfl⟩ _ _ ⟨rfl, rfl⟩ _ _ ⟨rfl, rfl⟩ _ _ ⟨rfl, rfl⟩ _ _ ⟨rfl, rfl⟩ _ _ ⟨rfl, rfl⟩ _ _ ⟨rfl, rfl⟩ _ _ ⟨rfl, rfl⟩ _ _ ⟨rfl, rfl⟩ _ _ ⟨rfl, rfl⟩ _ _ ⟨rfl, rfl⟩
      generalize (β 3).a = a62
      generalize (β 3).c = c62
      generalize (β 10).a = a69
      generalize (β 10).c = c69
      generalize (β 13).a = a72
      generalize (β 13).c = c72
      refine wl_norm (e' := [(1, _), (2, _), (4, _), (59, _), (61, _), (72, _)]) (.cons rfl (.cons rfl (.cons rfl (.cons rfl (.cons rfl (.cons rfl (.nil _))))))) (by dsimp only [cond_false, cond_true, List.nil_append, List.cons_append]) ?_
      refine zd rfl (op_idxZ (l := (B.set ((B.length : Int) - 1).toNat (⟨y.num, y.grp + 1, y.q, y.cq, y.recs⟩ : SegV))) rfl rfl tS50xb (Sl.ent (Sl.lab (E := 96) (enc := encSegV) (l := (B.set ((B.length : Int) - 1).toNat (⟨y.num, y.grp + 1, y.q, y.cq, y.recs⟩ : SegV))) 47 rfl (by rw [hB1l]; unfold maxLen; omega))) (by omega) (by rw [hB1l]; omega)) ?_
      refine zd rfl (op_fieldAddr (off := 2) rfl tF96_2xb) (wl_op0 [47] rfl rfl rfl (op_storeX (lab := 47) (j := 2) (b' := ⟨y.num, y.grp + 1, a72, c72, y.recs ++ pend⟩) rfl rfl tO35xb rfl rfl (by rfl) hy1 (Nat.le_of_ble_eq_true rfl) (by rfl)) ?_)
      rintro _ _ ⟨rfl, rfl⟩
      refine wl_nil (st_tn (w_seq (w_region (zm rfl (zd rfl (op_fieldAddr (off := 0) rfl tF52_0xb) (wl_op0 [1] rfl rfl rfl (op_store rfl rfl tZ50xb (by rfl) (by rfl) (by exact Nat.le_of_ble_eq_true rfl)) ?_))))))
      rintro _ _ ⟨rfl, rfl⟩
      refine zd rfl (op_fieldAddr (off := 2) rfl tF52_2xb) (wl_op0 [1] rfl rfl rfl (op_store rfl rfl tZ35xb (by rfl) (by rfl) (by exact Nat.le_of_ble_eq_true rfl)) ?_)
      rintro _ _ ⟨rfl, rfl⟩
      refine zd rfl (op_fieldAddr (off := 3) rfl tF52_3xb) (wl_op0 [1] rfl rfl rfl (op_store rfl rfl tZ4xb (by rfl) (by rfl) (by exact Nat.le_of_ble_eq_true rfl)) ?_)
      rintro _ _ ⟨rfl, rfl⟩
      refine wl_nil (st_tn (w_seq (w_region (zd rfl (op_loadA rfl tA52xb (Ent.lab (l := 1) rfl (says_cel 0)) (Nat.le_of_ble_eq_true rfl)) (wl_op0 [2] rfl rfl rfl (op_store rfl rfl tZ52xb (by rfl) (by rfl) (by exact Nat.le_of_ble_eq_true rfl)) ?_)))))
      rintro _ _ ⟨rfl, rfl⟩
      refine wl_nil (st_tn (w_ret (st_ret (vs := [_]) [47, 72] Try.results56 ⟨⟨_, rfl, Ent.mono (Ent.lab (l := 2) rfl (says_cel 0)) (fun _ h => run_load_agg tA52xb h (Nat.le_of_ble_eq_true rfl))⟩, trivial⟩ rfl ?_)))
      refine ⟨[(lab1, _), (lab2, _)], rfl, ?_⟩
      skip
      refine ⟨a47, c47, a72, c72, ?_⟩
      obtain ⟨S, hS, hset⟩ := set_last (z := (⟨y.num, y.grp + 1, y.q, y.cq, y.recs⟩ : SegV)) (w := (⟨y.num, y.grp + 1, a72, c72, y.recs ++ pend⟩ : SegV)) hy
      rw [hset]
      have e1 : noteX Y o pend a72 c72 = S ++ [(⟨y.num, y.grp + 1, a72, c72, y.recs ++ pend⟩ : SegV)] := by
        obtain ⟨e2, e3⟩ := List.append_inj' (hB.symm.trans hS) rfl
        subst e2
        rw [hy0 y hy]
        unfold noteX; rw [hlast]; dsimp only; rw [if_pos (.inl ho)]; rfl
      have e4 : recsN Y o pend = y.recs ++ pend := by rw [hy0 y hy]; unfold recsN; rw [hlast]; dsimp only; rw [if_pos (.inl ho)]; rfl
      have e5 : B.length = (noteX Y o pend a72 c72).length := by rw [e1, hS]; simp
      rw [← e1, e4, e5]; exact ⟨rfl, rfl⟩
    · -- ho-
      have ho : o = false := by simpa using ho
      by_cases hg : 8 ≤ gl
      · -- hg+
        refine w_region (zm rfl (zd rfl (op_val (v' := .bool false) (by rw [decide_eq_false (by omega)]) (op_eql rfl rfl)) ?_))
        refine zm rfl (wl_wanted_det rfl rfl rfl rfl rfl rfl rfl (op_fieldAddr (off := 3) rfl tF52_3xb) (wl_wanted_det rfl rfl rfl rfl rfl rfl rfl (op_val (v' := .bool false) (by rw [ho]) (op_load1 rfl tO4xb (Ent.lab (l := 1) rfl (says_cel 3)))) ?_))
        refine zd rfl (op_pick_f rfl rfl) (zm rfl (wl_wanted_det rfl rfl rfl rfl rfl rfl rfl (op_move rfl) (wl_wanted_det rfl rfl rfl rfl rfl rfl rfl (op_move rfl) (wl_wanted_det rfl rfl rfl rfl rfl rfl rfl (op_sub' rfl rfl (by omega)) ?_))))
        refine wl_wanted_det rfl rfl rfl rfl rfl rfl rfl (op_idxZ rfl rfl tS50xb (Sl.ent (Sl.lab 17 rfl (by first | (unfold maxLen; omega) | (unfold maxLen; simp; omega)))) (by omega) (by omega)) ?_
        refine wl_wanted_det rfl rfl rfl rfl rfl rfl rfl (op_fieldAddr (off := 1) rfl tF96_1xb) (wl_wanted_det rfl rfl rfl rfl rfl rfl rfl (op_ldxf rfl tO3xb (Sl.lab 17 rfl (by first | (unfold maxLen; omega) | (unfold maxLen; simp; omega))) (by assumption) (by rfl)) ?_)
        refine wl_wanted_det rfl rfl rfl rfl rfl rfl rfl (op_val (v' := .bool true) (by rw [decide_eq_true (by omega)]) (op_geq rfl rfl)) ?_
        refine zd rfl (op_pick_f rfl rfl) (wl_nil (st_tn (w_cond_t (rfl) ?_)))
        refine w_seq (w_region (zd rfl (op_build tB96xb rfl rfl) (wl_op [] rfl rfl rfl rfl (op_alloc (l := 5) tN96xb) ?_)))
        rintro _ _ ⟨b5, rfl, rfl⟩
        refine wl_op0 [5] rfl rfl rfl (op_store rfl rfl tZ96xb (by rfl) (by rfl) (by exact Nat.le_of_ble_eq_true rfl)) ?_
        rintro _ _ ⟨rfl, rfl⟩
        refine wl_nil (st_tn (w_seq (w_seq (w_region (zm rfl (zd rfl (op_val (v' := .bool true) (by rw [decide_eq_true (by omega)]) (op_gtr rfl rfl)) ?_))))))
        refine wl_nil (st_tn (w_cond_t (rfl) ?_))
        refine w_region (zm rfl (zm rfl (zd rfl (op_sub' rfl rfl (by omega)) ?_)))
        refine zd rfl (op_idxZ rfl rfl tS50xb (Sl.ent (Sl.lab 17 rfl (by first | (unfold maxLen; omega) | (unfold maxLen; simp; omega)))) (by omega) (by omega)) ?_
        refine zd rfl (op_fieldAddr (off := 0) rfl tF96_0xb) (zd rfl (op_ldxf rfl tO3xb (Sl.lab 17 rfl (by first | (unfold maxLen; omega) | (unfold maxLen; simp; omega))) (by assumption) (by rfl)) ?_)
        refine zd rfl (op_add' rfl rfl (by omega)) ?_
        refine zd rfl (op_fieldAddr (off := 0) rfl tF96_0xb) (wl_op0 [5] rfl rfl rfl (op_store rfl rfl tZ3xb (by rfl) (by rfl) (by exact Nat.le_of_ble_eq_true rfl)) ?_)
        rintro _ _ ⟨rfl, rfl⟩
        refine wl_nil (st_tn (w_region (zm rfl (zd rfl (op_loadA rfl tA96xb (Ent.lab (l := 5) rfl (says_cel 0)) (Nat.le_of_ble_eq_true rfl)) (wl_op [] rfl rfl rfl rfl (op_buildSlice (enc := encSegV) (l := [(⟨x.num + 1, 0, none, 0, []⟩ : SegV)]) (lab := 46) tL50_1xb rfl rfl (fun _ => rfl) rfl) ?_)))))
        rintro _ _ ⟨a46, c46, rfl, rfl⟩
        refine wl_op [17] rfl rfl rfl rfl (op_append (lab := 17) (lab' := 47) rfl rfl tP50xb enc1SegV (Sl.lab 46 rfl (by simp [maxLen])) (by simp; omega) (by simp; omega)) ?_
        rintro _ _ ⟨a47, c47, rfl, rfl⟩
        refine zm rfl (zd rfl (op_add' rfl rfl (by omega)) ?_)
        refine za rfl (za rfl (wl_nil (st_tn (w_seq ?_))))
        obtain ⟨B, hB⟩ : ∃ B, B = Y ++ [(⟨x.num + 1, 0, none, 0, []⟩ : SegV)] := ⟨_, rfl⟩
        rw [← hB]
        have hBl : B.length = Y.length + 1 := by rw [hB]; simp
        have hy0 : ∀ y, B[((B.length : Int) - 1).toNat]? = some y → y = ⟨x.num + 1, 0, none, 0, []⟩ := fun y hy => by
          rw [hBl] at hy
          rw [hB, List.getElem?_append_right (by omega), show (((Y.length + 1 : Nat) : Int) - 1).toNat - Y.length = 0 by omega] at hy
          simp at hy; exact hy.symm
        obtain ⟨y, hy⟩ := getE (l := B) (i := ((B.length : Int) - 1).toNat) (by omega)
        have hyr : Sl σ F encT 1 (.slice y.q y.recs.length y.cq) y.recs := by rw [hy0 y hy]; exact Sl.nilv
        have hyb : y.grp ≤ 1000000 ∧ y.recs.length ≤ 1000000 := by rw [hy0 y hy]; simp
        have hB1l : (B.set ((B.length : Int) - 1).toNat (⟨y.num, y.grp + 1, y.q, y.cq, y.recs⟩ : SegV)).length = B.length := List.length_set ..
        have hy1 : (B.set ((B.length : Int) - 1).toNat (⟨y.num, y.grp + 1, y.q, y.cq, y.recs⟩ : SegV))[((B.length : Int) - 1).toNat]? = some (⟨y.num, y.grp + 1, y.q, y.cq, y.recs⟩ : SegV) := List.getElem?_set_self (by omega)
        refine w_region (zm rfl (zm rfl (zd rfl (op_val (v' := .int .i64 ((B.length : Int) - 1)) (by congr 1; omega) (op_sub' rfl rfl (by omega))) ?_)))
        refine zd rfl (op_idxZ (l := B) rfl rfl tS50xb (Sl.ent (Sl.lab (E := 96) (enc := encSegV) (l := B) 47 rfl (by unfold maxLen; omega))) (by omega) (by omega)) ?_
        refine zd rfl (op_fieldAddr (off := 1) rfl tF96_1xb) (zd rfl (op_ldxf rfl tO3xb (Sl.lab (E := 96) (enc := encSegV) (l := B) 47 rfl (by unfold maxLen; omega)) hy (by rfl)) ?_)
        refine zd rfl (op_add' rfl rfl (by omega)) ?_
        refine zd rfl (op_idxZ (l := B) rfl rfl tS50xb (Sl.ent (Sl.lab (E := 96) (enc := encSegV) (l := B) 47 rfl (by unfold maxLen; omega))) (by omega) (by omega)) ?_
        refine zd rfl (op_fieldAddr (off := 1) rfl tF96_1xb) (wl_op0 [47] rfl rfl rfl (op_storeX (lab := 47) (j := 1) (b' := ⟨y.num, y.grp + 1, y.q, y.cq, y.recs⟩) rfl rfl tO3xb rfl rfl (by rfl) hy (Nat.le_of_ble_eq_true rfl) (by rfl)) ?_)
        rintro _ _ ⟨rfl, rfl⟩
        refine wl_nil (st_tn (w_seq ?_))
        refine w_drawW (fun β => [⟨59, [], [], [], noW (_), false, [], []⟩, ⟨60, [], [], [], noW (_), false, [], []⟩, ⟨61, [1], [], [], noW (_), false, [], []⟩, ⟨62, [], [], [], fun w => DetW _ _, true, [], []⟩, ⟨63, [], [], [], noW (_), false, [], []⟩, ⟨64, [], [], [], noW (_), false, [], []⟩, ⟨65, [5], [], [], noW (_), false, [], []⟩, ⟨66, [4, 6], [], [], noW (_), false, [], []⟩, ⟨67, [7], [], [], noW (_), false, [], []⟩, ⟨68, [8], [], [], noW (_), false, [], []⟩, ⟨69, [9], [3], [], fun w => DetW _ _, true, [], []⟩, ⟨70, [], [], [], noW (_), false, [], []⟩, ⟨71, [11], [], [], noW (_), false, [], []⟩, ⟨72, [12], [10], [], fun w => DetW _ _, false, [], []⟩]) [] [4, 3, 1] [⟨59, [], [], false, [], []⟩, ⟨60, [], [], false, [], []⟩, ⟨61, [1], [], false, [], []⟩, ⟨62, [], [], true, [], []⟩, ⟨63, [], [], false, [], []⟩, ⟨64, [], [], false, [], []⟩, ⟨65, [5], [], false, [], []⟩, ⟨66, [4, 6], [], false, [], []⟩, ⟨67, [7], [], false, [], []⟩, ⟨68, [8], [], false, [], []⟩, ⟨69, [9], [3], true, [], []⟩, ⟨70, [], [], false, [], []⟩, ⟨71, [11], [], false, [], []⟩, ⟨72, [12], [10], false, [], []⟩] [[], [], [], [], [], [], [], [], [], [], [3], [], [], [3, 10]] [[], [], [], [], [], [], [], [], [], [], [], [], [], []] tMixxb (fun _ => by rfl) (fun _ => by rfl) (by kernel_rfl) (by kernel_rfl) (by rfl) (by rfl)
            (fun β => ⟨.p rfl (by intro X; exact op_move rfl),
            ⟨.p rfl (by intro X; exact op_move rfl),
            ⟨.p rfl (by intro X; rintro _ _ ⟨rfl, rfl⟩; exact op_val (v' := .int .i64 ((B.length : Int) - 1)) (by congr 1; omega) (op_sub' rfl rfl (by omega))),
            ⟨.px rfl (by intro X; refine OpT.mono (op_lit0 (enc := encT) (lab := 62) tS35xb) ?_; rintro _ _ ⟨a62, c62, rfl, rfl⟩; obtain ⟨w, rfl, rfl⟩ : ∃ w : Wt, w.a = a62 ∧ w.c = c62 := ⟨{ a := a62, c := c62 }, rfl, rfl⟩; exact ⟨w, rfl, rfl⟩),
            ⟨.p rfl (by intro X; exact op_move rfl),
            ⟨.p rfl (by intro X; exact op_move rfl),
            ⟨.p rfl (by intro X; rintro _ _ ⟨rfl, rfl⟩; exact op_val (v' := .int .i64 ((B.length : Int) - 1)) (by congr 1; omega) (op_sub' rfl rfl (by omega))),
            ⟨.p rfl (by intro X; rintro _ _ ⟨rfl, rfl⟩ _ _ ⟨rfl, rfl⟩; exact op_idxZ (l := (B.set ((B.length : Int) - 1).toNat (⟨y.num, y.grp + 1, y.q, y.cq, y.recs⟩ : SegV))) rfl rfl tS50xb (Sl.ent (Sl.lab (E := 96) (enc := encSegV) (l := (B.set ((B.length : Int) - 1).toNat (⟨y.num, y.grp + 1, y.q, y.cq, y.recs⟩ : SegV))) 47 rfl (by rw [hB1l]; unfold maxLen; omega))) (by omega) (by rw [hB1l]; omega)),
            ⟨.p rfl (by intro X; rintro _ _ ⟨rfl, rfl⟩; exact op_fieldAddr (off := 2) rfl tF96_2xb),
            ⟨.p rfl (by intro X; rintro _ _ ⟨rfl, rfl⟩; exact op_ldxf rfl tO35xb (Sl.lab (E := 96) (enc := encSegV) (l := (B.set ((B.length : Int) - 1).toNat (⟨y.num, y.grp + 1, y.q, y.cq, y.recs⟩ : SegV))) 47 rfl (by rw [hB1l]; unfold maxLen; omega)) hy1 (by rfl)),
            ⟨.px rfl (by intro X; rintro _ _ ⟨rfl, rfl⟩ _ _ ⟨rfl, rfl⟩; show OpT _ _ _ _ _ _ [(_, _)] _; refine OpT.mono (op_append (lab := 62) (lab' := 69) rfl rfl tP35xb enc1T (Sl.app (Sl.app hyr X) _) (by simp; omega) (by simp; omega)) ?_; rintro _ _ ⟨a69, c69, rfl, rfl⟩; obtain ⟨w, rfl, rfl⟩ : ∃ w : Wt, w.a = a69 ∧ w.c = c69 := ⟨{ a := a69, c := c69 }, rfl, rfl⟩; exact ⟨w, rfl, rfl⟩),
            ⟨.p rfl (by intro X; exact op_fieldAddr (off := 2) rfl tF52_2xb),
            ⟨.p rfl (by intro X; rintro _ _ ⟨rfl, rfl⟩; exact op_load1 rfl tO35xb (Ent.lab (l := 1) rfl (says_cel 2))),
            ⟨.px rfl (by intro X; rintro _ _ ⟨rfl, rfl⟩ _ _ ⟨rfl, rfl⟩; show OpT _ _ _ _ _ _ [(_, _)] _; refine OpT.mono (op_append (lab := 69) (lab' := 72) rfl rfl tP35xb enc1T (Sl.app (Sl.app hP X) _) (by simp; omega) (by simp; omega)) ?_; rintro _ _ ⟨a72, c72, rfl, rfl⟩; obtain ⟨w, rfl, rfl⟩ : ∃ w : Wt, w.a = a72 ∧ w.c = c72 := ⟨{ a := a72, c := c72 }, rfl, rfl⟩; exact ⟨w, rfl, rfl⟩),
            trivial⟩⟩⟩⟩⟩⟩⟩⟩⟩⟩⟩⟩⟩⟩)
            (fun β β' => ⟨fun _ => by rfl, ⟨fun _ => by rfl, ⟨fun _ => by rfl, ⟨fun _ => by rfl, ⟨fun _ => by rfl, ⟨fun _ => by rfl, ⟨fun _ => by rfl, ⟨fun _ => by rfl, ⟨fun _ => by rfl, ⟨fun _ => by rfl, ⟨fun h => by first | rfl | (simp only [h 3 (by decide)]), ⟨fun _ => by rfl, ⟨fun _ => by rfl, ⟨fun h => by first | rfl | (simp only [h 3 (by decide), h 10 (by decide)]), trivial⟩⟩⟩⟩⟩⟩⟩⟩⟩⟩⟩⟩⟩⟩) ?_
        intro β
        rintro _ _ ⟨rfl, rfl⟩ _ _ ⟨rfl, rfl⟩ _ _ ⟨rfl, rfl⟩ _ _ ⟨rfl, rfl⟩ _ _ ⟨rfl, rfl⟩ _ _ ⟨rfl, rfl⟩ _ _ ⟨rfl, rfl⟩ _ _ ⟨rfl, rfl⟩ _ _ ⟨rfl, rfl⟩ _ _ ⟨rfl, rfl⟩ _ _ ⟨rfl, rfl⟩ _ _ ⟨rfl, rfl⟩ _ _ ⟨rfl, rfl⟩ _ _ ⟨rfl, rfl⟩
        generalize (β 3).a = a62
        generalize (β 3).c = c62
        generalize (β 10).a = a69
        generalize (β 10).c = c69
        generalize (β 13).a = a72
        generalize (β 13).c = c72
        refine wl_norm (e' := [(1, _), (2, _), (4, _), (59, _), (61, _), (72, _)]) (.cons rfl (.cons rfl (.cons rfl (.cons rfl (.cons rfl (.cons rfl (.nil _))))))) (by dsimp only [cond_false, cond_true, List.nil_append, List.cons_append]) ?_
        refine zd rfl (op_idxZ (l := (B.set ((B.length : Int) - 1).toNat (⟨y.num, y.grp + 1, y.q, y.cq, y.recs⟩ : SegV))) rfl rfl tS50xb (Sl.ent (Sl.lab (E := 96) (enc := encSegV) (l := (B.set ((B.length : Int) - 1).toNat (⟨y.num, y.grp + 1, y.q, y.cq, y.recs⟩ : SegV))) 47 rfl (by rw [hB1l]; unfold maxLen; omega))) (by omega) (by rw [hB1l]; omega)) ?_
        refine zd rfl (op_fieldAddr (off := 2) rfl tF96_2xb) (wl_op0 [47] rfl rfl rfl (op_storeX (lab := 47) (j := 2) (b' := ⟨y.num, y.grp + 1, a72, c72, y.recs ++ pend⟩) rfl rfl tO35xb rfl rfl (by rfl) hy1 (Nat.le_of_ble_eq_true rfl) (by rfl)) ?_)
        rintro _ _ ⟨rfl, rfl⟩
        refine wl_nil (st_tn (w_seq (w_region (zm rfl (zd rfl (op_fieldAddr (off := 0) rfl tF52_0xb) (wl_op0 [1] rfl rfl rfl (op_store rfl rfl tZ50xb (by rfl) (by rfl) (by exact Nat.le_of_ble_eq_true rfl)) ?_))))))
        rintro _ _ ⟨rfl, rfl⟩
        refine zd rfl (op_fieldAddr (off := 2) rfl tF52_2xb) (wl_op0 [1] rfl rfl rfl (op_store rfl rfl tZ35xb (by rfl) (by rfl) (by exact Nat.le_of_ble_eq_true rfl)) ?_)
        rintro _ _ ⟨rfl, rfl⟩
        refine zd rfl (op_fieldAddr (off := 3) rfl tF52_3xb) (wl_op0 [1] rfl rfl rfl (op_store rfl rfl tZ4xb (by rfl) (by rfl) (by exact Nat.le_of_ble_eq_true rfl)) ?_)
        rintro _ _ ⟨rfl, rfl⟩
        refine wl_nil (st_tn (w_seq (w_region (zd rfl (op_loadA rfl tA52xb (Ent.lab (l := 1) rfl (says_cel 0)) (Nat.le_of_ble_eq_true rfl)) (wl_op0 [2] rfl rfl rfl (op_store rfl rfl tZ52xb (by rfl) (by rfl) (by exact Nat.le_of_ble_eq_true rfl)) ?_)))))
        rintro _ _ ⟨rfl, rfl⟩
        refine wl_nil (st_tn (w_ret (st_ret (vs := [_]) [47, 72] Try.results56 ⟨⟨_, rfl, Ent.mono (Ent.lab (l := 2) rfl (says_cel 0)) (fun _ h => run_load_agg tA52xb h (Nat.le_of_ble_eq_true rfl))⟩, trivial⟩ rfl ?_)))
        refine ⟨[(lab1, _), (lab2, _)], rfl, ?_⟩
        skip
        refine ⟨a47, c47, a72, c72, ?_⟩
        obtain ⟨S, hS, hset⟩ := set_last (z := (⟨y.num, y.grp + 1, y.q, y.cq, y.recs⟩ : SegV)) (w := (⟨y.num, y.grp + 1, a72, c72, y.recs ++ pend⟩ : SegV)) hy
        rw [hset]
        have e1 : noteX Y o pend a72 c72 = S ++ [(⟨y.num, y.grp + 1, a72, c72, y.recs ++ pend⟩ : SegV)] := by
          obtain ⟨e2, e3⟩ := List.append_inj' (hB.symm.trans hS) rfl
          subst e2
          rw [hy0 y hy]
          unfold noteX; rw [hlast]; dsimp only; rw [if_pos (.inr (by omega))]; rfl
        have e4 : recsN Y o pend = y.recs ++ pend := by rw [hy0 y hy]; unfold recsN; rw [hlast]; dsimp only; rw [if_pos (.inr (by omega))]; rfl
        have e5 : B.length = (noteX Y o pend a72 c72).length := by rw [e1, hS]; simp
        rw [← e1, e4, e5]; exact ⟨rfl, rfl⟩
      · -- hg-
        refine w_region (zm rfl (zd rfl (op_val (v' := .bool false) (by rw [decide_eq_false (by omega)]) (op_eql rfl rfl)) ?_))
        refine zm rfl (wl_wanted_det rfl rfl rfl rfl rfl rfl rfl (op_fieldAddr (off := 3) rfl tF52_3xb) (wl_wanted_det rfl rfl rfl rfl rfl rfl rfl (op_val (v' := .bool false) (by rw [ho]) (op_load1 rfl tO4xb (Ent.lab (l := 1) rfl (says_cel 3)))) ?_))
        refine zd rfl (op_pick_f rfl rfl) (zm rfl (wl_wanted_det rfl rfl rfl rfl rfl rfl rfl (op_move rfl) (wl_wanted_det rfl rfl rfl rfl rfl rfl rfl (op_move rfl) (wl_wanted_det rfl rfl rfl rfl rfl rfl rfl (op_sub' rfl rfl (by omega)) ?_))))
        refine wl_wanted_det rfl rfl rfl rfl rfl rfl rfl (op_idxZ rfl rfl tS50xb (Sl.ent (Sl.lab 17 rfl (by first | (unfold maxLen; omega) | (unfold maxLen; simp; omega)))) (by omega) (by omega)) ?_
        refine wl_wanted_det rfl rfl rfl rfl rfl rfl rfl (op_fieldAddr (off := 1) rfl tF96_1xb) (wl_wanted_det rfl rfl rfl rfl rfl rfl rfl (op_ldxf rfl tO3xb (Sl.lab 17 rfl (by first | (unfold maxLen; omega) | (unfold maxLen; simp; omega))) (by assumption) (by rfl)) ?_)
        refine wl_wanted_det rfl rfl rfl rfl rfl rfl rfl (op_val (v' := .bool false) (by rw [decide_eq_false (by omega)]) (op_geq rfl rfl)) ?_
        refine zd rfl (op_pick_f rfl rfl) (wl_nil (st_tn (w_cond_f (rfl) ?_)))
        refine w_skip (st_tn (w_seq ?_))
        skip
        obtain ⟨y, hy⟩ := getE (l := Y) (i := ((Y.length : Int) - 1).toNat) (by omega)
        have hyr : Sl σ F encT 1 (.slice y.q y.recs.length y.cq) y.recs := hR y (List.mem_of_getElem? hy)
        have hyb : y.grp ≤ 1000000 ∧ y.recs.length ≤ 1000000 := by have := hb y (List.mem_of_getElem? hy); omega
        have hB1l : (Y.set ((Y.length : Int) - 1).toNat (⟨y.num, y.grp + 1, y.q, y.cq, y.recs⟩ : SegV)).length = Y.length := List.length_set ..
        have hy1 : (Y.set ((Y.length : Int) - 1).toNat (⟨y.num, y.grp + 1, y.q, y.cq, y.recs⟩ : SegV))[((Y.length : Int) - 1).toNat]? = some (⟨y.num, y.grp + 1, y.q, y.cq, y.recs⟩ : SegV) := List.getElem?_set_self (by omega)
        refine w_region (zm rfl (zm rfl (zd rfl (op_val (v' := .int .i64 ((Y.length : Int) - 1)) (by rfl) (op_sub' rfl rfl (by omega))) ?_)))
        refine zd rfl (op_idxZ (l := Y) rfl rfl tS50xb (Sl.ent (Sl.lab (E := 96) (enc := encSegV) (l := Y) 17 rfl (by unfold maxLen; omega))) (by omega) (by omega)) ?_
        refine zd rfl (op_fieldAddr (off := 1) rfl tF96_1xb) (zd rfl (op_ldxf rfl tO3xb (Sl.lab (E := 96) (enc := encSegV) (l := Y) 17 rfl (by unfold maxLen; omega)) hy (by rfl)) ?_)
        refine zd rfl (op_add' rfl rfl (by omega)) ?_
        refine zd rfl (op_idxZ (l := Y) rfl rfl tS50xb (Sl.ent (Sl.lab (E := 96) (enc := encSegV) (l := Y) 17 rfl (by unfold maxLen; omega))) (by omega) (by omega)) ?_
        refine zd rfl (op_fieldAddr (off := 1) rfl tF96_1xb) (wl_op0 [17] rfl rfl rfl (op_storeX (lab := 17) (j := 1) (b' := ⟨y.num, y.grp + 1, y.q, y.cq, y.recs⟩) rfl rfl tO3xb rfl rfl (by rfl) hy (Nat.le_of_ble_eq_true rfl) (by rfl)) ?_)
        rintro _ _ ⟨rfl, rfl⟩
        refine wl_nil (st_tn (w_seq ?_))
        refine w_drawW (fun β => [⟨59, [], [], [], noW (_), false, [], []⟩, ⟨60, [], [], [], noW (_), false, [], []⟩, ⟨61, [1], [], [], noW (_), false, [], []⟩, ⟨62, [], [], [], fun w => DetW _ _, true, [], []⟩, ⟨63, [], [], [], noW (_), false, [], []⟩, ⟨64, [], [], [], noW (_), false, [], []⟩, ⟨65, [5], [], [], noW (_), false, [], []⟩, ⟨66, [4, 6], [], [], noW (_), false, [], []⟩, ⟨67, [7], [], [], noW (_), false, [], []⟩, ⟨68, [8], [], [], noW (_), false, [], []⟩, ⟨69, [9], [3], [], fun w => DetW _ _, true, [], []⟩, ⟨70, [], [], [], noW (_), false, [], []⟩, ⟨71, [11], [], [], noW (_), false, [], []⟩, ⟨72, [12], [10], [], fun w => DetW _ _, false, [], []⟩]) [] [4, 3, 1] [⟨59, [], [], false, [], []⟩, ⟨60, [], [], false, [], []⟩, ⟨61, [1], [], false, [], []⟩, ⟨62, [], [], true, [], []⟩, ⟨63, [], [], false, [], []⟩, ⟨64, [], [], false, [], []⟩, ⟨65, [5], [], false, [], []⟩, ⟨66, [4, 6], [], false, [], []⟩, ⟨67, [7], [], false, [], []⟩, ⟨68, [8], [], false, [], []⟩, ⟨69, [9], [3], true, [], []⟩, ⟨70, [], [], false, [], []⟩, ⟨71, [11], [], false, [], []⟩, ⟨72, [12], [10], false, [], []⟩] [[], [], [], [], [], [], [], [], [], [], [3], [], [], [3, 10]] [[], [], [], [], [], [], [], [], [], [], [], [], [], []] tMixxb (fun _ => by rfl) (fun _ => by rfl) (by kernel_rfl) (by kernel_rfl) (by rfl) (by rfl)
            (fun β => ⟨.p rfl (by intro X; exact op_move rfl),
            ⟨.p rfl (by intro X; exact op_move rfl),
            ⟨.p rfl (by intro X; rintro _ _ ⟨rfl, rfl⟩; exact op_val (v' := .int .i64 ((Y.length : Int) - 1)) (by rfl) (op_sub' rfl rfl (by omega))),
            ⟨.px rfl (by intro X; refine OpT.mono (op_lit0 (enc := encT) (lab := 62) tS35xb) ?_; rintro _ _ ⟨a62, c62, rfl, rfl⟩; obtain ⟨w, rfl, rfl⟩ : ∃ w : Wt, w.a = a62 ∧ w.c = c62 := ⟨{ a := a62, c := c62 }, rfl, rfl⟩; exact ⟨w, rfl, rfl⟩),
            ⟨.p rfl (by intro X; exact op_move rfl),
            ⟨.p rfl (by intro X; exact op_move rfl),
            ⟨.p rfl (by intro X; rintro _ _ ⟨rfl, rfl⟩; exact op_val (v' := .int .i64 ((Y.length : Int) - 1)) (by rfl) (op_sub' rfl rfl (by omega))),
            ⟨.p rfl (by intro X; rintro _ _ ⟨rfl, rfl⟩ _ _ ⟨rfl, rfl⟩; exact op_idxZ (l := (Y.set ((Y.length : Int) - 1).toNat (⟨y.num, y.grp + 1, y.q, y.cq, y.recs⟩ : SegV))) rfl rfl tS50xb (Sl.ent (Sl.lab (E := 96) (enc := encSegV) (l := (Y.set ((Y.length : Int) - 1).toNat (⟨y.num, y.grp + 1, y.q, y.cq, y.recs⟩ : SegV))) 17 rfl (by rw [hB1l]; unfold maxLen; omega))) (by omega) (by rw [hB1l]; omega)),
            ⟨.p rfl (by intro X; rintro _ _ ⟨rfl, rfl⟩; exact op_fieldAddr (off := 2) rfl tF96_2xb),
            ⟨.p rfl (by intro X; rintro _ _ ⟨rfl, rfl⟩; exact op_ldxf rfl tO35xb (Sl.lab (E := 96) (enc := encSegV) (l := (Y.set ((Y.length : Int) - 1).toNat (⟨y.num, y.grp + 1, y.q, y.cq, y.recs⟩ : SegV))) 17 rfl (by rw [hB1l]; unfold maxLen; omega)) hy1 (by rfl)),
            ⟨.px rfl (by intro X; rintro _ _ ⟨rfl, rfl⟩ _ _ ⟨rfl, rfl⟩; show OpT _ _ _ _ _ _ [(_, _)] _; refine OpT.mono (op_append (lab := 62) (lab' := 69) rfl rfl tP35xb enc1T (Sl.app (Sl.app hyr X) _) (by simp; omega) (by simp; omega)) ?_; rintro _ _ ⟨a69, c69, rfl, rfl⟩; obtain ⟨w, rfl, rfl⟩ : ∃ w : Wt, w.a = a69 ∧ w.c = c69 := ⟨{ a := a69, c := c69 }, rfl, rfl⟩; exact ⟨w, rfl, rfl⟩),
            ⟨.p rfl (by intro X; exact op_fieldAddr (off := 2) rfl tF52_2xb),
            ⟨.p rfl (by intro X; rintro _ _ ⟨rfl, rfl⟩; exact op_load1 rfl tO35xb (Ent.lab (l := 1) rfl (says_cel 2))),
            ⟨.px rfl (by intro X; rintro _ _ ⟨rfl, rfl⟩ _ _ ⟨rfl, rfl⟩; show OpT _ _ _ _ _ _ [(_, _)] _; refine OpT.mono (op_append (lab := 69) (lab' := 72) rfl rfl tP35xb enc1T (Sl.app (Sl.app hP X) _) (by simp; omega) (by simp; omega)) ?_; rintro _ _ ⟨a72, c72, rfl, rfl⟩; obtain ⟨w, rfl, rfl⟩ : ∃ w : Wt, w.a = a72 ∧ w.c = c72 := ⟨{ a := a72, c := c72 }, rfl, rfl⟩; exact ⟨w, rfl, rfl⟩),
            trivial⟩⟩⟩⟩⟩⟩⟩⟩⟩⟩⟩⟩⟩⟩)
            (fun β β' => ⟨fun _ => by rfl, ⟨fun _ => by rfl, ⟨fun _ => by rfl, ⟨fun _ => by rfl, ⟨fun _ => by rfl, ⟨fun _ => by rfl, ⟨fun _ => by rfl, ⟨fun _ => by rfl, ⟨fun _ => by rfl, ⟨fun _ => by rfl, ⟨fun h => by first | rfl | (simp only [h 3 (by decide)]), ⟨fun _ => by rfl, ⟨fun _ => by rfl, ⟨fun h => by first | rfl | (simp only [h 3 (by decide), h 10 (by decide)]), trivial⟩⟩⟩⟩⟩⟩⟩⟩⟩⟩⟩⟩⟩⟩) ?_
        intro β
        rintro _ _ ⟨rfl, rfl⟩ _ _ ⟨rfl, rfl⟩ _ _ ⟨rfl, rfl⟩ _ _ ⟨rfl, rfl⟩ _ _ ⟨rfl, rfl⟩ _ _ ⟨rfl, rfl⟩ _ _ ⟨rfl, rfl⟩ _ _ ⟨rfl, rfl⟩ _ _ ⟨rfl, rfl⟩ _ _ ⟨rfl, rfl⟩ _ _ ⟨rfl, rfl⟩ _ _ ⟨rfl, rfl⟩ _ _ ⟨rfl, rfl⟩ _ _ ⟨rfl, rfl⟩
        generalize (β 3).a = a62
        generalize (β 3).c = c62
        generalize (β 10).a = a69
        generalize (β 10).c = c69
        generalize (β 13).a = a72
        generalize (β 13).c = c72
        refine wl_norm (e' := [(1, _), (2, _), (4, _), (59, _), (61, _), (72, _)]) (.cons rfl (.cons rfl (.cons rfl (.cons rfl (.cons rfl (.cons rfl (.nil _))))))) (by dsimp only [cond_false, cond_true, List.nil_append, List.cons_append]) ?_
        refine zd rfl (op_idxZ (l := (Y.set ((Y.length : Int) - 1).toNat (⟨y.num, y.grp + 1, y.q, y.cq, y.recs⟩ : SegV))) rfl rfl tS50xb (Sl.ent (Sl.lab (E := 96) (enc := encSegV) (l := (Y.set ((Y.length : Int) - 1).toNat (⟨y.num, y.grp + 1, y.q, y.cq, y.recs⟩ : SegV))) 17 rfl (by rw [hB1l]; unfold maxLen; omega))) (by omega) (by rw [hB1l]; omega)) ?_
        refine zd rfl (op_fieldAddr (off := 2) rfl tF96_2xb) (wl_op0 [17] rfl rfl rfl (op_storeX (lab := 17) (j := 2) (b' := ⟨y.num, y.grp + 1, a72, c72, y.recs ++ pend⟩) rfl rfl tO35xb rfl rfl (by rfl) hy1 (Nat.le_of_ble_eq_true rfl) (by rfl)) ?_)
        rintro _ _ ⟨rfl, rfl⟩
        refine wl_nil (st_tn (w_seq (w_region (zm rfl (zd rfl (op_fieldAddr (off := 0) rfl tF52_0xb) (wl_op0 [1] rfl rfl rfl (op_store rfl rfl tZ50xb (by rfl) (by rfl) (by exact Nat.le_of_ble_eq_true rfl)) ?_))))))
        rintro _ _ ⟨rfl, rfl⟩
        refine zd rfl (op_fieldAddr (off := 2) rfl tF52_2xb) (wl_op0 [1] rfl rfl rfl (op_store rfl rfl tZ35xb (by rfl) (by rfl) (by exact Nat.le_of_ble_eq_true rfl)) ?_)
        rintro _ _ ⟨rfl, rfl⟩
        refine zd rfl (op_fieldAddr (off := 3) rfl tF52_3xb) (wl_op0 [1] rfl rfl rfl (op_store rfl rfl tZ4xb (by rfl) (by rfl) (by exact Nat.le_of_ble_eq_true rfl)) ?_)
        rintro _ _ ⟨rfl, rfl⟩
        refine wl_nil (st_tn (w_seq (w_region (zd rfl (op_loadA rfl tA52xb (Ent.lab (l := 1) rfl (says_cel 0)) (Nat.le_of_ble_eq_true rfl)) (wl_op0 [2] rfl rfl rfl (op_store rfl rfl tZ52xb (by rfl) (by rfl) (by exact Nat.le_of_ble_eq_true rfl)) ?_)))))
        rintro _ _ ⟨rfl, rfl⟩
        refine wl_nil (st_tn (w_ret (st_ret (vs := [_]) [17, 72] Try.results56 ⟨⟨_, rfl, Ent.mono (Ent.lab (l := 2) rfl (says_cel 0)) (fun _ h => run_load_agg tA52xb h (Nat.le_of_ble_eq_true rfl))⟩, trivial⟩ rfl ?_)))
        refine ⟨[(lab1, _), (lab2, _)], rfl, ?_⟩
        skip
        refine ⟨a17, c17, a72, c72, ?_⟩
        obtain ⟨S, hS, hset⟩ := set_last (z := (⟨y.num, y.grp + 1, y.q, y.cq, y.recs⟩ : SegV)) (w := (⟨y.num, y.grp + 1, a72, c72, y.recs ++ pend⟩ : SegV)) hy
        rw [hset]
        have hyx : y = x := by rw [hx] at hy; simpa using hy.symm
        have e1 : noteX Y o pend a72 c72 = S ++ [(⟨y.num, y.grp + 1, a72, c72, y.recs ++ pend⟩ : SegV)] := by
          unfold noteX; rw [hlast]; dsimp only
          rw [if_neg (fun h => h.elim (fun h => by rw [ho] at h; simp at h) (fun h => by omega)), hyx, hS, List.dropLast_concat]
        have e4 : recsN Y o pend = y.recs ++ pend := by
          unfold recsN; rw [hlast]; dsimp only
          rw [if_neg (fun h => h.elim (fun h => by rw [ho] at h; simp at h) (fun h => by omega)), hyx]
        have e5 : Y.length = (noteX Y o pend a72 c72).length := by rw [e1, hS]; simp
        rw [← e1, e4, ← e5]; exact ⟨rfl, rfl⟩
end Go.Proofs.Ytcbigmgakdanjaa
namespace Go.Proofs.Ytcbigmgakdanjaa
open Go Go.SL Go.RowKit Go.RdM Go.WalM
set_option linter.unusedVariables false
set_option linter.unusedSimpArgs false
theorem tMixxc : Try.prog.follows .mixedOrders = true := by kernel_rfl
theorem tS73xc : sliceB Try.prog 73 87 4 = true := by kernel_rfl
theorem tP73xc : appB Try.prog 73 87 4 32 = true := by kernel_rfl
theorem z87 : (Try.prog.info? 87).bind (fun i => i.zero.map fun z => (Builtin.zeroCells z.cells 1).toList) = some [.int .i64 0, .int .i64 0, .int .i64 0, .int .i64 0] := by kernel_rfl
theorem z87' : ∀ i z, Try.prog.info? 87 = some i → i.zero = some z → (Builtin.zeroCells z.cells 1).toList = [.int .i64 0, .int .i64 0, .int .i64 0, .int .i64 0] := fun i z hi hz => by
  have h := z87
  rw [hi] at h
  simp only [Option.bind_some, hz, Option.map_some, Option.some.injEq] at h
  exact h
set_option maxHeartbeats 400000 in
set_option maxRecDepth 100000 in
theorem del_at {σ : World} {F : List Res} {g c : Nat} {R : List Row} (hR : 2 ≤ R.length) (hc : R.length ≤ c) (hm : R.length ≤ 1099511627776) :
    FnT Try.prog σ F 59 [.slice (some ⟨g, 0, none⟩) R.length c, .int .i64 0, .int .i64 1] [(612, slW 87 encRow 4 (.slice (some ⟨g, 0, none⟩) R.length c) R)] (fun u ρ => u = .slice (some ⟨g, 0, none⟩) (R.drop 1).length c ∧ ρ = [(612, slW 87 encRow 4 (.slice (some ⟨g, 0, none⟩) (R.drop 1).length c) (R.drop 1))]) := by
  refine fn_of 33 Try.func59 rfl Try.ntmps59 rfl ?_
  have hdl : (R.drop 1).length = R.length - 1 := List.length_drop ..
  refine w_seq (w_region (za rfl (wl_nil (st_tn (w_seq (w_region (zm rfl (zm rfl (zm rfl (zm rfl (zd rfl (op_lenT rfl tS73xc (Sl.ent (Sl.lab 612 rfl (by first | (unfold maxLen; omega) | (rw [hdl]; unfold maxLen; omega))))) ?_)))))))))))
  refine zd rfl (op_slice3 (lo := 0) (hi := 1) (l := R) rfl rfl rfl rfl tS73xc (Sl.lab (E := 87) (enc := encRow) (l := R) 612 rfl (by unfold maxLen; omega)) (by omega) (by omega) (Nat.le_refl _)) ?_
  refine wl_nil (st_tn (w_seq (w_seq (w_region (zm rfl (zm rfl (zd rfl (op_val (v' := .bool false) (by rfl) (op_eql rfl rfl)) ?_)))))))
  refine wl_nil (st_tn (w_cond_f (rfl) ?_))
  refine w_skip (st_tn (w_seq (w_region (zm rfl (zd rfl (op_lenT rfl tS73xc (Sl.ent (Sl.lab 612 rfl (by first | (unfold maxLen; omega) | (rw [hdl]; unfold maxLen; omega))))) ?_)))))
  refine za rfl (wl_nil (st_tn (w_seq ?_)))
  refine w_draw (D := [⟨20, [], [], [], _, false, [], []⟩, ⟨21, [], [], [], _, false, [], []⟩, ⟨22, [0, 1], [], [], _, false, [], []⟩, ⟨23, [], [], [], _, false, [], []⟩, ⟨24, [], [], [], _, false, [], []⟩, ⟨25, [3, 4], [], [], _, false, [], []⟩]) [] [0, 1, 2] [⟨20, [], [], false, [], []⟩, ⟨21, [], [], false, [], []⟩, ⟨22, [0, 1], [], false, [], []⟩, ⟨23, [], [], false, [], []⟩, ⟨24, [], [], false, [], []⟩, ⟨25, [3, 4], [], false, [], []⟩] tMixxc (by rfl) (by kernel_rfl) (by rfl) (by rfl)
      ⟨.plain rfl (by intro X; exact op_move rfl),
      ⟨.plain rfl (by intro X; exact op_move rfl),
      ⟨.plain rfl (by intro X; rintro _ _ ⟨rfl, rfl⟩ _ _ ⟨rfl, rfl⟩; exact op_val (v' := .slice (some ⟨g, 0, none⟩) 0 c) (by (have hc0 : ¬ c = 0 := by omega); (simp [SL.sub, hc0, Addr.add_mid])) (op_sliceR (hi := 0) (l := R) rfl rfl tS73xc (Sl.lab (E := 87) (enc := encRow) (l := R) 612 rfl (by unfold maxLen; omega)) (by omega))),
      ⟨.plain rfl (by intro X; exact op_move rfl),
      ⟨.plain rfl (by intro X; exact op_move rfl),
      ⟨.plain rfl (by intro X; rintro _ _ ⟨rfl, rfl⟩ _ _ ⟨rfl, rfl⟩; exact op_val (v' := .slice (some ⟨g, 4, none⟩) (R.length - 1) (c - 1)) (by (have hc1 : ¬ c = 1 := by omega); (simp [SL.sub, hc1, Addr.add_mid])) (op_sliceL (lo := 1) (l := R) rfl rfl tS73xc (Sl.lab (E := 87) (enc := encRow) (l := R) 612 rfl (by unfold maxLen; omega)) (by omega))),
      trivial⟩⟩⟩⟩⟩⟩ ?_
  rintro _ _ ⟨rfl, rfl⟩ _ _ ⟨rfl, rfl⟩ _ _ ⟨rfl, rfl⟩ _ _ ⟨rfl, rfl⟩ _ _ ⟨rfl, rfl⟩ _ _ ⟨rfl, rfl⟩
  refine wl_norm (e' := [(7, _), (22, _), (25, _)]) (.cons rfl (.cons rfl (.cons rfl (.nil _)))) (by dsimp only [cond_false, cond_true, List.nil_append, List.cons_append]) ?_
  refine wl_op [612] rfl rfl rfl rfl (op_shift (lab := 612) (R := R) rfl rfl tP73xc enc1Row (by omega)) ?_
  rintro _ _ ⟨rfl, rfl⟩
  refine za rfl (wl_nil (st_tn (w_seq (w_region (zm rfl (zm rfl (zd rfl (op_lenT (enc := encRow) (l := R.drop 1) rfl tS73xc (Sl.ent (Sl.lab (E := 87) (enc := encRow) (l := R.drop 1) 612 rfl (by rw [hdl]; unfold maxLen; omega)))) ?_)))))))
  refine zd rfl (op_val (v' := .int .i64 (((R.drop 1).length + 1 : Nat) : Int)) (by rw [hdl, show R.length - 1 + 1 = R.length by omega]) (op_move rfl)) ?_
  refine zd rfl (op_reslice (m := (R.drop 1).length) rfl rfl rfl tS73xc (by omega)) ?_
  refine wl_op0 [612] rfl rfl rfl (op_clear1 (lab := 612) (R := R.drop 1) (m := (R.drop 1).length) rfl tP73xc enc1Row rfl (by omega) (by omega) z87' (by decide) rfl) ?_
  rintro _ _ ⟨rfl, rfl⟩
  refine wl_nil (st_tn (w_seq (w_region (zm rfl (za rfl (wl_nil (st_tn (w_ret (st_ret (vs := [_]) [612] Try.results59 ⟨rfl, trivial⟩ rfl ?_)))))))))
  refine ⟨[(612, _)], rfl, ?_⟩
  exact ⟨rfl, rfl⟩
end Go.Proofs.Ytcbigmgakdanjaa
namespace Go.Proofs.Ytcbigmgakdanjaa
open Go Go.SL Go.RowKit Go.RdM Go.WalM
set_option linter.unusedVariables false
set_option linter.unusedSimpArgs false
theorem tA87xd : aggB Try.prog 87 4 = true := by kernel_rfl
theorem tF76_0xd : fieldB Try.prog 76 0 0 = true := by kernel_rfl
theorem tF76_2xd : fieldB Try.prog 76 2 2 = true := by kernel_rfl
theorem tF76_3xd : fieldB Try.prog 76 3 3 = true := by kernel_rfl
theorem tF87_0xd : fieldB Try.prog 87 0 0 = true := by kernel_rfl
theorem tF87_1xd : fieldB Try.prog 87 1 1 = true := by kernel_rfl
theorem tF87_2xd : fieldB Try.prog 87 2 2 = true := by kernel_rfl
theorem tMixxd : Try.prog.follows .mixedOrders = true := by kernel_rfl
theorem tN87xd : (Try.prog.info? 87).bind (·.zero) = some (Value.agg #[Value.int .i64 0, Value.int .i64 0, Value.int .i64 0, Value.int .i64 0]) := by kernel_rfl
theorem tO22xd : oneB Try.prog 22 = true := by kernel_rfl
theorem tO3xd : oneB Try.prog 3 = true := by kernel_rfl
theorem tO73xd : oneB Try.prog 73 = true := by kernel_rfl
theorem tO74xd : oneB Try.prog 74 = true := by kernel_rfl
theorem tQ74xd : mapB Try.prog 74 3 9 KZ.desc := ⟨Try.underlying74, Try.underlying3⟩
theorem tS73xd : sliceB Try.prog 73 87 4 = true := by kernel_rfl
theorem tZ73xd : (Try.prog.info? 73).map (·.size) = some 1 := by kernel_rfl
theorem tZ87xd : (Try.prog.info? 87).map (·.size) = some 4 := by kernel_rfl
abbrev SgL := List Sg
abbrev StE := DskM.St
theorem delK_len {l : List (Int × List UInt8)} {k : Int} (h : (lookK KZ l k).isSome = true) : (delK KZ l k).length + 1 = l.length := by
  induction l with
  | nil => simp [lookK] at h
  | cons q l ih =>
    unfold lookK at h
    unfold delK
    cases hq : KZ.eq k q.1 with
    | true => simp
    | false =>
      rw [hq] at h
      simp only [cond_false] at h ⊢
      have := ih h
      simp only [List.length_cons]; omega
theorem delK_sub {l : List (Int × List UInt8)} {k : Int} : (delK KZ l k).Sublist l := by
  induction l with
  | nil => exact List.Sublist.slnil
  | cons q l ih =>
    unfold delK
    cases hq : KZ.eq k q.1 with
    | true => exact List.sublist_cons_self _ _
    | false => exact ih.cons_cons _
theorem IsMap.del {l : List (Int × List UInt8)} {f : Nat} {x : RdM.Bs} {all : List RdM.Bs} (h : IsMap l f (x :: all)) : IsMap (delK KZ l (f : Int)) (f + 1) all := by
  obtain ⟨h1, h2, h3⟩ := h
  have hs : (lookK KZ l (f : Int)).isSome = true := by rw [h3, if_pos (Int.le_refl _)]; simp
  refine ⟨List.Nodup.sublist (List.Sublist.map _ delK_sub) h1, by have := delK_len hs; simp only [List.length_cons] at h2; omega, fun k => ?_⟩
  rw [look_del h1]
  by_cases hk : k = (f : Int)
  · have : KZ.eq k (f : Int) = true := by show (k == (f : Int)) = true; simpa using hk
    rw [this, cond_true, if_neg (by omega)]
  · have : KZ.eq k (f : Int) = false := by show (k == (f : Int)) = false; simpa using hk
    rw [this, cond_false, h3]
    by_cases h4 : ((f + 1 : Nat) : Int) ≤ k
    · rw [if_pos (by omega), if_pos h4]
      have e : (k - f).toNat = (k - ((f + 1 : Nat) : Int)).toNat + 1 := by omega
      rw [e, List.getElem?_cons_succ]
    · rw [if_neg (by omega), if_neg h4]
def truncG (nm : RdM.Bs) : Nat → List Sg → Int → DskM.St → Int × Nat × List Sg × DskM.St
  | f, x :: y :: l, n, s => if (f : Int) + x.recs.length - 1 ≤ n then
      (if (DskM.remO s (fileN nm x.num)).1 ≠ 0 then ((DskM.remO s (fileN nm x.num)).1, f, x :: y :: l, (DskM.remO s (fileN nm x.num)).2) else truncG nm (f + x.recs.length) (y :: l) n (DskM.remO s (fileN nm x.num)).2)
    else (0, f, x :: y :: l, s)
  | f, l, _, s => (0, f, l, s)
def truncO (nm : RdM.Bs) (L : Lg) (s : DskM.St) (n : Int) : Int × Lg × DskM.St :=
  if L.broken = true then (18, L, s)
  else ((truncG nm L.first L.segs n s).1, { L with first := (truncG nm L.first L.segs n s).2.1, segs := (truncG nm L.first L.segs n s).2.2.1, broken := decide ((truncG nm L.first L.segs n s).1 = 27) }, (truncG nm L.first L.segs n s).2.2.2)
theorem oks_tail {f : Nat} {x : Sg} {S : List Sg} (h : OkS f (x :: S)) (hS : S ≠ []) : OkS (f + x.recs.length) S := ⟨by have := h.pos; omega, fun h => absurd h hS, (List.pairwise_cons.1 h.inc).2, fun y hy => h.num y (by simp [hy]), fun y hy => h.grp y (by simp [hy])⟩
section
variable {P : Program} {σ : World} {n : Nat} {F : List Res} {e : Env} {R B0 : RL} {Q : Exit → Act → World → Prop}
theorem w_fact {c : Code} {φ : Prop} (lab : Nat) {r : Res} (ht : takeL R [lab] = some ([(lab, r)], B0)) (hφ : ∀ m, r m → φ) (k : φ → W P σ n c Q e R F) : W P σ n c Q e R F := fun a w hr hw => by
  have h1 : SL.Own σ (r :: (rs B0 ++ F)) w := by simpa [rs] using hw.take ht
  obtain ⟨m, hm, _⟩ := own_head h1
  exact k (hφ m hm) a w hr hw
end
theorem slO_fact {α : Type} {enc : α → List Value} {E k c : Nat} {a : Option Addr} {l : List α} (h : 0 < l.length) : ∀ m, slW E enc k (.slice a l.length c) l m → ∃ g, a = some ⟨g, 0, none⟩ ∧ l.length ≤ c := fun m hm => by
  obtain ⟨_, _, hv⟩ := hm
  rcases hv with ⟨_, hv⟩ | ⟨g, cap, cur, hv, _, h3, _⟩
  · have := congrArg List.length hv
    rw [List.length_map, List.length_nil] at this; omega
  · simp at hv
    obtain ⟨rfl, rfl⟩ := hv
    rw [List.length_map] at h3
    exact ⟨g, rfl, h3⟩
set_option maxHeartbeats 4000000 in
set_option maxRecDepth 100000 in
theorem ltrunc_any {σ : World} {F : List Res} {b d m c cp : Nat} {nm : RdM.Bs} {L : Lg} {a p : Option Addr} {l : List (Int × List UInt8)} {s : DskM.St} (n : Int) (hn : -9223372036854775808 ≤ n ∧ n ≤ 9223372036854775807) (hL : OkL L) (hg : DskM.Good s) (hnm : nm.length ≤ 48) (hm : IsMap l L.first (allR L.segs)) :
    FnT Try.prog σ F 34 [.pointer (some ⟨b, 0, none⟩), .int .i64 n] [(601, dkR d s), (611, cel b (cellL d nm (rawL L) m a c p cp) 76), (612, slW 87 encRow 4 (.slice a (rowsOf L.first L.segs).length c) (rowsOf L.first L.segs)), (613, mp KZ encSV m l), (614, slW 9 encT 1 (.slice p L.pend.length cp) L.pend)]
      (fun u ρ => ∃ i : LgT, IsMap i.2.2.2.2.2 (truncO nm L s n).2.1.first (allR (truncO nm L s n).2.1.segs) ∧ u = .int .i64 (truncO nm L s n).1 ∧ ρ = (601, dkR d (truncO nm L s n).2.2) :: cL b d nm (truncO nm L s n).2.1 i) := by
  refine fn_of 72 Try.func34 rfl Try.ntmps34 rfl ?_
  have hseg := hL.seg
  have hsz := hL.sz
  have hrl := hL.rowl
  refine w_seq (w_region (za rfl (wl_nil (st_tn (w_seq (w_seq (w_region (zm rfl (zd rfl (op_fn Try.func42 rfl rfl rfl (lready_any (v := rawL L) (celLg 611 rfl))) (za rfl (wl_nil (st_tn (w_seq ?_)))))))))))))
  refine w_region (zm rfl (zd rfl (op_neq rfl rfl) (wl_nil (st_tn (w_cond_d rfl (fun hc12 => ?_) (fun hc12 => ?_))))))
  · -- c12.t
    refine w_seq (w_region (zm rfl (za rfl (wl_nil (st_tn (w_ret (st_tr (st_ret (vs := [_]) [601, 611, 612, 613, 614] Try.results34 ⟨rfl, trivial⟩ rfl ?_))))))))
    refine ⟨[(601, _), (611, _), (612, _), (613, _), (614, _)], rfl, ?_⟩
    have hb : L.broken = true := ready_t hc12
    have h1 : truncO nm L s n = (18, L, s) := by unfold truncO; rw [if_pos hb]
    have h2 : readyL (rawL L) = 18 := by unfold readyL; rw [if_pos (show (rawL L).broken = true from hb)]
    rw [h1, h2]; exact ⟨(m, a, c, p, cp, l), hm, rfl, rfl⟩
  · -- c12.f
    have hb : L.broken = false := ready_f hc12
    have hbf : ¬ L.broken = true := by simp [hb]
    have htr : truncO nm L s n = ((truncG nm L.first L.segs n s).1, { L with first := (truncG nm L.first L.segs n s).2.1, segs := (truncG nm L.first L.segs n s).2.2.1, broken := decide ((truncG nm L.first L.segs n s).1 = 27) }, (truncG nm L.first L.segs n s).2.2.2) := by unfold truncO; rw [if_neg hbf]
    have hrw : rawL L = ⟨rowsOf L.first L.segs, L.pend, L.fresh, false⟩ := by unfold rawL; rw [hb]
    rw [hrw]
    refine w_skip (st_tn (w_seq (w_block ?_)))
    refine w_loopQ (X := Nat × SgL × StE × OA × Nat × List (Int × List UInt8)) (fun z => OkS z.1 z.2.1 ∧ DskM.Good z.2.2.1 ∧ truncG nm L.first L.segs n s = truncG nm z.1 z.2.1 n z.2.2.1 ∧ IsMap z.2.2.2.2.2 z.1 (allR z.2.1) ∧ z.1 + (allR z.2.1).length ≤ 1000000000000) (fun z => []) (fun z => [(613, mp KZ encSV m (z.2.2.2.2.2)), (601, dkR d (z.2.2.1)), (611, cel b (cellL d nm ⟨rowsOf (z.1) (z.2.1), L.pend, L.fresh, false⟩ m (z.2.2.2.1) (z.2.2.2.2.1) p cp) 76), (612, slW 87 encRow 4 (.slice (z.2.2.2.1) (rowsOf (z.1) (z.2.1)).length (z.2.2.2.2.1)) (rowsOf (z.1) (z.2.1)))]) (fun z => z.2.1.length) ((L.first, L.segs, s, a, c, l)) [(0, _), (1, _)] [(614, _)] [613, 601, 611, 612, 614] rfl (rfl) (.nil _) (.cons rfl (.cons rfl (.nil _))) (by
        try dsimp only
        exact ⟨hseg, hg, rfl, hm, hsz⟩) ?_
    rintro ⟨f1, S1, s1, a2, c2, D⟩ ⟨hS1, hg1, heq, hD, hz1⟩
    refine w_norm2 (by dsimp only [List.cons_append, List.nil_append]) (by dsimp only [List.cons_append, List.nil_append]) ?_
    try dsimp only at hS1 hg1 heq hD hz1 ⊢
    refine w_seq (w_seq ?_)
    have hr1 := rowsOf_len S1 f1
    have hSl := segs_le_all hS1.grp
    have hfp := hS1.pos
    obtain ⟨lst, hlst⟩ : ∃ lst : Int, lst = (f1 : Int) + ((S1.head?.map fun x => (x.recs.length : Int)).getD 0) - 1 := ⟨_, rfl⟩
    by_cases h1 : 1 < S1.length
    · -- h1+
      obtain ⟨x, y, S2, hS⟩ : ∃ x y S2, S1 = x :: y :: S2 := by
        match S1, h1 with
        | [], h1 => simp at h1
        | [x], h1 => simp at h1
        | x :: y :: S2, _ => exact ⟨x, y, S2, rfl⟩
      have hr0 : (rowsOf f1 S1)[0]? = some (x.num, f1, f1 + x.recs.length - 1, x.gs.length) := by rw [hS]; rfl
      have hl2 : lst = (f1 : Int) + x.recs.length - 1 := by rw [hlst, hS]; rfl
      have hxg := OkG.recs (hS1.grp x (by rw [hS]; simp))
      have hxn := hS1.num x (by rw [hS]; simp)
      have hall : allR S1 = x.recs ++ allR (y :: S2) := by rw [hS, allR_cons]
      have hxgl := gs_le (hS1.grp x (by rw [hS]; simp))
      by_cases h2 : lst ≤ n
      · -- h2+
        refine w_region (zm rfl (zd rfl (op_nilCheck rfl) (zd rfl (op_fieldAddr (off := 2) rfl tF76_2xd) (zd rfl (op_load1 rfl tO73xd (Ent.lab (l := 611) rfl (says_cel 2))) (zd rfl (op_lenT (enc := encRow) (l := rowsOf f1 S1) rfl tS73xd (Sl.ent (Sl.lab (E := 87) (enc := encRow) (l := rowsOf f1 S1) 612 rfl (by rw [hr1]; unfold maxLen; omega)))) ?_)))))
        refine zd rfl (op_val (v' := .bool true) (by rw [decide_eq_true (by omega)]) (op_gtr rfl rfl)) ?_
        refine zm rfl (wl_wanted_det rfl rfl rfl rfl rfl rfl rfl (op_move rfl) (wl_wanted_det rfl rfl rfl rfl rfl rfl rfl (op_nilCheck rfl) (wl_wanted_det rfl rfl rfl rfl rfl rfl rfl (op_fieldAddr (off := 2) rfl tF76_2xd) (wl_wanted_det rfl rfl rfl rfl rfl rfl rfl (op_load1 rfl tO73xd (Ent.lab (l := 611) rfl (says_cel 2))) (wl_wanted_det rfl rfl rfl rfl rfl rfl rfl (op_idx (i := 0) (l := rowsOf f1 S1) rfl rfl tS73xd (Sl.ent (Sl.lab (E := 87) (enc := encRow) (l := rowsOf f1 S1) 612 rfl (by rw [hr1]; unfold maxLen; omega))) (by omega)) ?_)))))
        refine wl_wanted_det rfl rfl rfl rfl rfl rfl rfl (op_fieldAddr (off := 2) rfl tF87_2xd) (wl_wanted_det rfl rfl rfl rfl rfl rfl rfl (op_ldxf rfl tO3xd (Sl.lab (E := 87) (enc := encRow) (l := rowsOf f1 S1) 612 rfl (by rw [hr1]; unfold maxLen; omega)) hr0 (by rfl)) ?_)
        refine wl_wanted_det rfl rfl rfl rfl rfl rfl rfl (op_move rfl) (wl_wanted_det rfl rfl rfl rfl rfl rfl rfl (op_val (v' := .bool true) (by rw [decide_eq_true]; show ((f1 + x.recs.length - 1 : Nat) : Int) ≤ n; omega) (op_leq rfl rfl)) ?_)
        refine zd rfl (op_pick_t rfl rfl) (wl_nil (st_tn (w_cond_t (rfl) ?_)))
        refine w_skip (st_tn (w_block (w_seq (w_region (zm rfl (zd rfl (op_nilCheck rfl) (zd rfl (op_fieldAddr (off := 2) rfl tF76_2xd) (zd rfl (op_load1 rfl tO73xd (Ent.lab (l := 611) rfl (says_cel 2))) (zd rfl (op_idx (i := 0) (l := rowsOf f1 S1) rfl rfl tS73xd (Sl.ent (Sl.lab (E := 87) (enc := encRow) (l := rowsOf f1 S1) 612 rfl (by rw [hr1]; unfold maxLen; omega))) (by omega)) ?_)))))))))
        refine zd rfl (op_ldxA rfl tA87xd (Sl.lab (E := 87) (enc := encRow) (l := rowsOf f1 S1) 612 rfl (by rw [hr1]; unfold maxLen; omega)) hr0 (by rfl) (by rfl)) ?_
        refine wl_op [] rfl rfl rfl rfl (op_alloc (l := 6) tN87xd) ?_
        rintro _ _ ⟨b6, rfl, rfl⟩
        refine wl_op0 [6] rfl rfl rfl (op_store rfl rfl tZ87xd (by rfl) (by rfl) (by exact Nat.le_of_ble_eq_true rfl)) ?_
        rintro _ _ ⟨rfl, rfl⟩
        refine wl_nil (st_tn (w_seq (w_seq ?_)))
        refine w_draw (D := [⟨37, [], [], [], _, false, [], []⟩, ⟨38, [0], [], [], _, false, [], []⟩, ⟨39, [1], [], [], _, false, [], []⟩, ⟨40, [2], [], [], _, false, [], []⟩, ⟨41, [], [], [], _, false, [], []⟩, ⟨42, [], [], [], _, false, [], []⟩, ⟨43, [5], [], [], _, false, [], []⟩, ⟨44, [4, 6], [], [], _, false, [], []⟩]) [] [0, 6] [⟨37, [], [], false, [], []⟩, ⟨38, [0], [], false, [], []⟩, ⟨39, [1], [], false, [], []⟩, ⟨40, [2], [], false, [], []⟩, ⟨41, [], [], false, [], []⟩, ⟨42, [], [], false, [], []⟩, ⟨43, [5], [], false, [], []⟩, ⟨44, [4, 6], [], false, [], []⟩] tMixxd (by rfl) (by kernel_rfl) (by rfl) (by rfl)
            ⟨.plain rfl (by intro X; exact op_move rfl),
            ⟨.plain rfl (by intro X; rintro _ _ ⟨rfl, rfl⟩; exact op_nilCheck rfl),
            ⟨.plain rfl (by intro X; rintro _ _ ⟨rfl, rfl⟩; exact op_fieldAddr (off := 0) rfl tF76_0xd),
            ⟨.plain rfl (by intro X; rintro _ _ ⟨rfl, rfl⟩; exact op_load1 rfl tO22xd (Ent.lab (l := 611) rfl (says_cel 0))),
            ⟨.plain rfl (by intro X; exact op_move rfl),
            ⟨.plain rfl (by intro X; exact op_fieldAddr (off := 0) rfl tF87_0xd),
            ⟨.plain rfl (by intro X; rintro _ _ ⟨rfl, rfl⟩; exact op_load1 rfl tO3xd (Ent.lab (l := 6) rfl (says_cel 0))),
            ⟨.plain rfl (by intro X; rintro _ _ ⟨rfl, rfl⟩ _ _ ⟨rfl, rfl⟩; exact op_fn Try.func45 rfl rfl rfl (file_any x.num hxn.2 (by omega) (celLg (v := ⟨rowsOf f1 S1, L.pend, L.fresh, false⟩) 611 rfl))),
            trivial⟩⟩⟩⟩⟩⟩⟩⟩ ?_
        rintro _ _ ⟨rfl, rfl⟩ _ _ ⟨rfl, rfl⟩ _ _ ⟨rfl, rfl⟩ _ _ ⟨rfl, rfl⟩ _ _ ⟨rfl, rfl⟩ _ _ ⟨rfl, rfl⟩ _ _ ⟨rfl, rfl⟩ _ _ ⟨rfl, rfl⟩
        refine wl_norm (e' := [(0, _), (1, _), (6, _), (40, _), (44, _)]) (.cons rfl (.cons rfl (.cons rfl (.cons rfl (.cons rfl (.nil _)))))) (by dsimp only [cond_false, cond_true, List.nil_append, List.cons_append]) ?_
        refine wl_op [601] rfl rfl rfl rfl (op_fn Try.func58 rfl rfl rfl (drem_c 601 (fileN nm x.num) hg1 (by rw [len_fileN]; unfold maxLen; omega))) ?_
        rintro _ _ ⟨rfl, rfl⟩
        refine za rfl (wl_nil (st_tn (w_seq (w_region (zm rfl (zd rfl (op_neq rfl rfl) (wl_nil (st_tn (w_cond_d rfl (fun hc47 => ?_) (fun hc47 => ?_))))))))))
        · -- c47.t
          refine w_seq (w_region (zm rfl (zm rfl (wl_op [611] rfl rfl rfl rfl (op_fn Try.func47 rfl rfl rfl (lfail_any (v := ⟨rowsOf f1 S1, L.pend, L.fresh, false⟩) (DskM.remO s1 (fileN nm x.num)).1)) ?_))))
          rintro _ _ ⟨rfl, rfl⟩
          refine za rfl (wl_nil (st_tn (w_ret (st_tr (st_br (st_tr (st_br (st_tr (st_ret (vs := [_]) [601, 611, 612, 613, 614] Try.results34 ⟨rfl, trivial⟩ rfl ?_)))))))))
          refine ⟨[(601, _), (611, _), (612, _), (613, _), (614, _)], rfl, ?_⟩
          have h3 : truncG nm L.first L.segs n s = ((DskM.remO s1 (fileN nm x.num)).1, f1, S1, (DskM.remO s1 (fileN nm x.num)).2) := by
            rw [heq, hS, truncG, if_pos (by omega), if_pos (by assumption)]
          rw [htr, h3]
          exact ⟨(m, a2, c2, p, cp, D), hD, rfl, rfl⟩
        · -- c47.f
          have hstep : truncG nm f1 S1 n s1 = truncG nm (f1 + x.recs.length) (y :: S2) n (DskM.remO s1 (fileN nm x.num)).2 := by
            rw [hS, truncG, if_pos (by omega), if_neg (by assumption)]
          refine w_skip (st_tn (w_seq (w_seq (w_region (zd rfl (op_fieldAddr (off := 1) rfl tF87_1xd) (zd rfl (op_load1 rfl tO3xd (Ent.lab (l := 6) rfl (says_cel 1))) (za rfl (wl_nil (st_tn (w_block ?_))))))))))
          refine w_loopQ (X := Nat × List (Int × List UInt8)) (fun z => f1 ≤ z.1 ∧ z.1 ≤ f1 + x.recs.length ∧ IsMap z.2 z.1 ((allR S1).drop (z.1 - f1))) (fun z => [(8, .int .i64 (z.1))]) (fun z => [(613, mp KZ encSV m (z.2))]) (fun z => f1 + x.recs.length - z.1) ((f1, D)) [(0, _), (1, _), (6, _)] [(601, _), (611, _), (612, _), (614, _), (6, _)] [613, 601, 611, 612, 614, 6] rfl (rfl) (.cons rfl (.nil _)) (.cons rfl (.cons rfl (.cons rfl (.nil _)))) (by
              try dsimp only
              exact ⟨Nat.le_refl _, by omega, by simpa using hD⟩) ?_
          rintro ⟨q, D2⟩ ⟨hq1, hq2, hD2⟩
          refine w_norm2 (by dsimp only [List.cons_append, List.nil_append]) (by dsimp only [List.cons_append, List.nil_append]) ?_
          try dsimp only at hq1 hq2 hD2 ⊢
          refine w_seq (w_seq (w_region (zm rfl (zd rfl (op_fieldAddr (off := 2) rfl tF87_2xd) (zd rfl (op_load1 rfl tO3xd (Ent.lab (l := 6) rfl (says_cel 2))) (zd rfl (op_leq rfl rfl) (wl_nil (st_tn (w_cond_d rfl (fun hc56 => ?_) (fun hc56 => ?_))))))))))
          · -- c56.t
            have hq3 : q < f1 + x.recs.length := by
              have : (q : Int) ≤ ((f1 + x.recs.length - 1 : Nat) : Int) := hc56
              omega
            have hal := congrArg List.length hall
            rw [List.length_append] at hal
            have hdel : IsMap (delK KZ D2 (q : Int)) (q + 1) ((allR S1).drop (q + 1 - f1)) := by
              obtain ⟨r, hr⟩ := getE (l := allR S1) (i := q - f1) (by omega)
              have hre := (List.getElem?_eq_some_iff.1 hr).2
              have hlt := (List.getElem?_eq_some_iff.1 hr).1
              rw [List.drop_eq_getElem_cons hlt] at hD2
              have := hD2.del
              rwa [show q - f1 + 1 = q + 1 - f1 by omega] at this
            refine w_skip (st_tn (w_seq (w_block (w_region (zm rfl (zd rfl (op_nilCheck rfl) (zd rfl (op_fieldAddr (off := 3) rfl tF76_3xd) (zd rfl (op_load1 rfl tO74xd (Ent.lab (l := 611) rfl (says_cel 3))) (zm rfl (wl_op0 [613] rfl rfl rfl (op_delete (kt := KZ) (encV := encSV) (lab := 613) rfl rfl tQ74xd) ?_))))))))))
            rintro _ _ ⟨rfl, rfl⟩
            refine wl_nil (st_bn (st_tn (w_region (zm rfl (zd rfl (op_add' rfl rfl (by omega)) ?_)))))
            refine za rfl (wl_nil ?_)
            refine st_roundQ (x := (q, D2)) ((q + 1, delK KZ D2 (q : Int))) [613, 601, 611, 612, 614, 6] rfl (rfl) (.cons rfl (.nil _)) (.cons rfl (.cons rfl (.cons rfl (.nil _)))) (by
                try dsimp only
                exact ⟨by omega, by omega, hdel⟩) (by
                try dsimp only
                omega)
          · -- c56.f
            have hq3 : q = f1 + x.recs.length := by
              have : ¬ (q : Int) ≤ ((f1 + x.recs.length - 1 : Nat) : Int) := hc56
              omega
            have hD3 : IsMap D2 (f1 + x.recs.length) (allR (y :: S2)) := by
              rw [hall, hq3, show f1 + x.recs.length - f1 = x.recs.length by omega, List.drop_left] at hD2
              exact hD2
            refine w_exit (st_te ?_)
            refine st_te ?_
            refine st_be (st_tn (w_fact 612 rfl (slO_fact (by rw [hr1]; omega)) (fun hga => ?_)))
            obtain ⟨g, hga, hgc⟩ := hga
            subst hga
            refine w_region (zm rfl (zm rfl (zd rfl (op_nilCheck rfl) (zd rfl (op_fieldAddr (off := 2) rfl tF76_2xd) (zd rfl (op_load1 rfl tO73xd (Ent.lab (l := 611) rfl (says_cel 2))) (wl_op [612] rfl rfl rfl rfl (op_fn Try.func59 rfl rfl rfl (del_at (R := rowsOf f1 S1) (by omega) hgc (by omega))) ?_))))))
            rintro _ _ ⟨rfl, rfl⟩
            refine zd rfl (op_nilCheck rfl) (zd rfl (op_fieldAddr (off := 2) rfl tF76_2xd) (wl_op0 [611] rfl rfl rfl (op_store rfl rfl tZ73xd (by rfl) (by rfl) (by exact Nat.le_of_ble_eq_true rfl)) ?_))
            rintro _ _ ⟨rfl, rfl⟩
            refine wl_nil (st_bn ?_)
            refine st_roundQ (x := (f1, S1, s1, some ⟨g, 0, none⟩, c2, D)) ((f1 + x.recs.length, y :: S2, (DskM.remO s1 (fileN nm x.num)).2, some ⟨g, 0, none⟩, c2, D2)) [613, 601, 611, 612, 614] rfl (by rw [hS]; rfl) (.nil _) (.cons rfl (.cons rfl (.nil _))) (by
                try dsimp only
                exact ⟨oks_tail (hS ▸ hS1) (by simp), hg1.rem _, heq.trans hstep, hD3, by rw [hall, List.length_append] at hz1; omega⟩) (by
                try dsimp only
                rw [hS]; simp)
      · -- h2-
        have hend : truncG nm f1 S1 n s1 = (0, f1, S1, s1) := by rw [hS, truncG, if_neg (by omega)]
        refine w_region (zm rfl (zd rfl (op_nilCheck rfl) (zd rfl (op_fieldAddr (off := 2) rfl tF76_2xd) (zd rfl (op_load1 rfl tO73xd (Ent.lab (l := 611) rfl (says_cel 2))) (zd rfl (op_lenT (enc := encRow) (l := rowsOf f1 S1) rfl tS73xd (Sl.ent (Sl.lab (E := 87) (enc := encRow) (l := rowsOf f1 S1) 612 rfl (by rw [hr1]; unfold maxLen; omega)))) ?_)))))
        refine zd rfl (op_val (v' := .bool true) (by rw [decide_eq_true (by omega)]) (op_gtr rfl rfl)) ?_
        refine zm rfl (wl_wanted_det rfl rfl rfl rfl rfl rfl rfl (op_move rfl) (wl_wanted_det rfl rfl rfl rfl rfl rfl rfl (op_nilCheck rfl) (wl_wanted_det rfl rfl rfl rfl rfl rfl rfl (op_fieldAddr (off := 2) rfl tF76_2xd) (wl_wanted_det rfl rfl rfl rfl rfl rfl rfl (op_load1 rfl tO73xd (Ent.lab (l := 611) rfl (says_cel 2))) (wl_wanted_det rfl rfl rfl rfl rfl rfl rfl (op_idx (i := 0) (l := rowsOf f1 S1) rfl rfl tS73xd (Sl.ent (Sl.lab (E := 87) (enc := encRow) (l := rowsOf f1 S1) 612 rfl (by rw [hr1]; unfold maxLen; omega))) (by omega)) ?_)))))
        refine wl_wanted_det rfl rfl rfl rfl rfl rfl rfl (op_fieldAddr (off := 2) rfl tF87_2xd) (wl_wanted_det rfl rfl rfl rfl rfl rfl rfl (op_ldxf rfl tO3xd (Sl.lab (E := 87) (enc := encRow) (l := rowsOf f1 S1) 612 rfl (by rw [hr1]; unfold maxLen; omega)) hr0 (by rfl)) ?_)
        refine wl_wanted_det rfl rfl rfl rfl rfl rfl rfl (op_move rfl) (wl_wanted_det rfl rfl rfl rfl rfl rfl rfl (op_val (v' := .bool false) (by rw [decide_eq_false]; show ¬ ((f1 + x.recs.length - 1 : Nat) : Int) ≤ n; omega) (op_leq rfl rfl)) ?_)
        refine zd rfl (op_pick_t rfl rfl) (wl_nil (st_tn (w_cond_f (rfl) ?_)))
        refine w_exit (st_te ?_)
        refine st_te ?_
        refine st_be (st_tn (w_seq (w_region (za rfl (wl_nil (st_tn (w_ret (st_ret (vs := [_]) [601, 611, 612, 613, 614] Try.results34 ⟨rfl, trivial⟩ rfl ?_))))))))
        refine ⟨[(601, _), (611, _), (612, _), (613, _), (614, _)], rfl, ?_⟩
        rw [htr, heq, hend]
        exact ⟨(m, a2, c2, p, cp, D), hD, rfl, rfl⟩
    · -- h1-
      have hend : truncG nm f1 S1 n s1 = (0, f1, S1, s1) := by
        match S1, h1 with
        | [], _ => rfl
        | [x], _ => rfl
        | x :: y :: S2, h1 => simp at h1
      refine w_region (zm rfl (zd rfl (op_nilCheck rfl) (zd rfl (op_fieldAddr (off := 2) rfl tF76_2xd) (zd rfl (op_load1 rfl tO73xd (Ent.lab (l := 611) rfl (says_cel 2))) (zd rfl (op_lenT (enc := encRow) (l := rowsOf f1 S1) rfl tS73xd (Sl.ent (Sl.lab (E := 87) (enc := encRow) (l := rowsOf f1 S1) 612 rfl (by rw [hr1]; unfold maxLen; omega)))) ?_)))))
      refine zd rfl (op_val (v' := .bool false) (by rw [decide_eq_false (by omega)]) (op_gtr rfl rfl)) ?_
      refine zm rfl (wl_unwanted rfl rfl rfl rfl rfl rfl rfl rfl (wl_unwanted rfl rfl rfl rfl rfl rfl rfl rfl (wl_unwanted rfl rfl rfl rfl rfl rfl rfl rfl (wl_unwanted rfl rfl rfl rfl rfl rfl rfl rfl (wl_unwanted rfl rfl rfl rfl rfl rfl rfl rfl (wl_unwanted rfl rfl rfl rfl rfl rfl rfl rfl (wl_unwanted rfl rfl rfl rfl rfl rfl rfl rfl (wl_unwanted rfl rfl rfl rfl rfl rfl rfl rfl (wl_unwanted rfl rfl rfl rfl rfl rfl rfl rfl (zd rfl (op_pick_f rfl rfl) (wl_nil (st_tn (w_cond_f (rfl) ?_)))))))))))))
      refine w_exit (st_te ?_)
      refine st_te ?_
      refine st_be (st_tn (w_seq (w_region (za rfl (wl_nil (st_tn (w_ret (st_ret (vs := [_]) [601, 611, 612, 613, 614] Try.results34 ⟨rfl, trivial⟩ rfl ?_))))))))
      refine ⟨[(601, _), (611, _), (612, _), (613, _), (614, _)], rfl, ?_⟩
      rw [htr, heq, hend]
      exact ⟨(m, a2, c2, p, cp, D), hD, rfl, rfl⟩
end Go.Proofs.Ytcbigmgakdanjaa
namespace Go.Proofs.Ytcbigmgakdanjaa
open Go Go.SL Go.RowKit Go.RdM Go.WalM
set_option linter.unusedVariables false
set_option linter.unusedSimpArgs false
theorem tA41xe : aggB Try.prog 41 3 = true := by kernel_rfl
theorem tA52xe : aggB Try.prog 52 4 = true := by kernel_rfl
theorem tF41_0xe : fieldB Try.prog 41 0 0 = true := by kernel_rfl
theorem tF52_2xe : fieldB Try.prog 52 2 2 = true := by kernel_rfl
theorem tL35_1xe : zerosB Try.prog 35 9 1 1 = some [Value.string .empty] := by kernel_rfl
theorem tMixxe : Try.prog.follows .mixedOrders = true := by kernel_rfl
theorem tN52xe : (Try.prog.info? 52).bind (·.zero) = some (Value.agg #[Value.slice none 0 0, Value.int .i64 0, Value.slice none 0 0, Value.bool false]) := by kernel_rfl
theorem tO35xe : oneB Try.prog 35 = true := by kernel_rfl
theorem tO5xe : oneB Try.prog 5 = true := by kernel_rfl
theorem tP35xe : appB Try.prog 35 9 1 16 = true := by kernel_rfl
theorem tS35xe : sliceB Try.prog 35 9 1 = true := by kernel_rfl
theorem tZ35xe : (Try.prog.info? 35).map (·.size) = some 1 := by kernel_rfl
theorem tZ52xe : (Try.prog.info? 52).map (·.size) = some 4 := by kernel_rfl
theorem ltrunc_c {σ : World} {F : List Res} {b d : Nat} {nm : RdM.Bs} {L L' : Lg} {s s' : DskM.St} {e : Int} (lab1 lab2 : Nat) (n : Int) (hn : -9223372036854775808 ≤ n ∧ n ≤ 9223372036854775807) (h : truncO nm L s n = (e, L', s')) (hL : OkL L) (hg : DskM.Good s) (hnm : nm.length ≤ 48) :
    FnT Try.prog σ F 34 [.pointer (some ⟨b, 0, none⟩), .int .i64 n] [(lab1, dkR d s), (lab2, lgR b d nm L)] (fun u ρ => u = .int .i64 e ∧ ρ = [(lab1, dkR d s'), (lab2, lgR b d nm L')]) :=
  fn_oc ((opens_id [dkR d s]).app (lg_opens b d nm L)) rfl (R := fun i => (601, dkR d s) :: cL b d nm L i.2.1) (fun i => rfl) (fun i => ltrunc_any n hn hL hg hnm i.2.2)
    fun i u ρ ⟨j, h1, h2, h3⟩ => ⟨[(lab1, dkR d s'), (lab2, lgR b d nm L')], by rw [h] at h2; exact ⟨h2, rfl⟩, by rw [h] at h1 h3; rw [h3]; exact Closes.app (Closes.refl [dkR d s']) (lg_closes j h1)⟩
abbrev PS := List (Value × List RdM.Bs)
abbrev PX := List (Value × List SegV)
def poolS (P : PS) : Res := pool 9 encT 1 P
def poolX (P : PX) : Res := pool 96 encSegV 3 P
def InS (P : PS) (q : Option Addr) (cq : Nat) (l : List RdM.Bs) : Prop := (q = none ∧ cq = 0 ∧ l = []) ∨ (Value.slice q l.length cq, l) ∈ P
inductive InX (P : PX) : Option Addr → Nat → List SegV → Prop
  | nil : InX P none 0 []
  | base {a c Y} : (Value.slice a Y.length c, Y) ∈ P → InX P a c Y
  | sub {a c Y} (j : Nat) : InX P a c Y → j ≤ Y.length → InX P (subJ a c j).1 (subJ a c j).2 (Y.drop j)
theorem InS.sl {σ : World} {R : RL} {F : List Res} {P : PS} {q : Option Addr} {cq : Nat} {l : List RdM.Bs} (h : InS P q cq l) (lab : Nat) (hg : getL R lab = some (poolS P)) (hl : l.length ≤ maxLen) : Sl σ (rs R ++ F) encT 1 (.slice q l.length cq) l := by
  rcases h with ⟨rfl, rfl, rfl⟩ | h
  · exact Sl.nilv
  · exact Sl.pool lab hg h hl
theorem InX.sl {σ : World} {R : RL} {F : List Res} {P : PX} {a : Option Addr} {c : Nat} {Y : List SegV} (h : InX P a c Y) (lab : Nat) (hg : getL R lab = some (poolX P)) (hl : Y.length ≤ 1000000) : Sl σ (rs R ++ F) encSegV 3 (.slice a Y.length c) Y := by
  have key : ∀ {a c Y}, InX P a c Y → Ent σ (rs R ++ F) (slT encSegV 3 (.slice a Y.length c) Y) := by
    intro a c Y h
    induction h with
    | nil => exact Sl.nilv.ent
    | base h => exact Ent.lab hg (says_pool h)
    | sub j h hj ih =>
      rename_i a c Y
      by_cases hle : Y.length ≤ maxLen
      · exact (sl_subJ ⟨ih, hle⟩ j hj).ent
      · intro w hw
        exact absurd (ih w hw).le hle
  exact ⟨key h, by unfold maxLen; omega⟩
theorem InS.mono {P P' : PS} {q : Option Addr} {cq : Nat} {l : List RdM.Bs} (h : InS P q cq l) (hp : P ⊆ P') : InS P' q cq l := h.imp id (fun h => hp h)
theorem InX.mono {P P' : PX} {a : Option Addr} {c : Nat} {Y : List SegV} (h : InX P a c Y) (hp : P ⊆ P') : InX P' a c Y := by
  induction h with
  | nil => exact .nil
  | base h => exact .base (hp h)
  | sub j h hj ih => exact .sub j ih hj
def Yrel (Y : List SegV) (S : List Sg) : Prop := Y.map (fun x => (x.num, x.grp, x.recs)) = S.map (fun s => (s.num, s.gs.length, s.recs))
theorem Yrel.len {Y : List SegV} {S : List Sg} (h : Yrel Y S) : Y.length = S.length := by have := congrArg List.length h; simpa using this
theorem Yrel.recs {Y : List SegV} {S : List Sg} (h : Yrel Y S) : recsX Y = allR S := by
  have h1 := congrArg (List.map (fun x : Nat × Nat × List RdM.Bs => x.2.2)) h
  rw [List.map_map, List.map_map] at h1
  unfold recsX allR
  exact congrArg List.flatten h1
theorem Yrel.mem {Y : List SegV} {S : List Sg} (h : Yrel Y S) {x : SegV} (hx : x ∈ Y) : ∃ s ∈ S, x.num = s.num ∧ x.grp = s.gs.length ∧ x.recs = s.recs := by
  have h1 : (x.num, x.grp, x.recs) ∈ Y.map (fun x => (x.num, x.grp, x.recs)) := List.mem_map.2 ⟨x, hx, rfl⟩
  rw [h] at h1
  obtain ⟨s, hs, he⟩ := List.mem_map.1 h1
  simp only [Prod.mk.injEq] at he
  exact ⟨s, hs, he.1.symm, he.2.1.symm, he.2.2.symm⟩
theorem recs_le' {Y : List SegV} {S : List Sg} (h : Yrel Y S) {x : SegV} (hx : x ∈ Y) : x.recs.length ≤ (allR S).length := by
  obtain ⟨s, hs, _, _, he⟩ := h.mem hx
  rw [he]; exact recs_le hs
structure MSt (P1 : PS) (P2 : PX) (v : Value) (M : Lg) (a : Option Addr) (c : Nat) (p : Option Addr) (cp : Nat) (Y : List SegV) : Prop where
  val : v = .agg #[.slice a Y.length c, .int .i64 M.first, .slice p M.pend.length cp, .bool M.fresh]
  inx : InX P2 a c Y
  ins : ∀ x ∈ Y, InS P1 x.q x.cq x.recs
  inp : InS P1 p cp M.pend
  rel : Yrel Y M.segs
def MS (P1 : PS) (P2 : PX) (v : Value) (M : Lg) : Prop := ∃ a c p cp Y, MSt P1 P2 v M a c p cp Y
section
variable {σ : World} {R : RL} {F : List Res} {P1 : PS} {P2 : PX} {v : Value} {M : Lg} {a p : Option Addr} {c cp : Nat} {Y : List SegV}
theorem MSt.slx (h : MSt P1 P2 v M a c p cp Y) (h2 : getL R 606 = some (poolX P2)) (hl : M.segs.length ≤ 1000000) : Sl σ (rs R ++ F) encSegV 3 (.slice a Y.length c) Y := h.inx.sl 606 h2 (by rw [h.rel.len]; exact hl)
theorem MSt.slr (h : MSt P1 P2 v M a c p cp Y) (h1 : getL R 605 = some (poolS P1)) (hl : (allR M.segs).length ≤ 1000000) : SlX σ (rs R ++ F) Y := fun x hx => by
  obtain ⟨s, hs, _, _, he⟩ := h.rel.mem hx
  exact (h.ins x hx).sl 605 h1 (by rw [he]; have := recs_le hs; unfold maxLen; omega)
theorem MSt.slp (h : MSt P1 P2 v M a c p cp Y) (h1 : getL R 605 = some (poolS P1)) (hl : M.pend.length ≤ 1000000) : Sl σ (rs R ++ F) encT 1 (.slice p M.pend.length cp) M.pend := h.inp.sl 605 h1 (by unfold maxLen; omega)
end
theorem poolS_nil : poolS [] (fun _ => none) := rfl
theorem poolX_nil : poolX [] (fun _ => none) := rfl
theorem ms_begin : MS [] [] (.agg #[.slice none 0 0, .int .i64 1, .slice none 0 0, .bool true]) newL := ⟨none, 0, none, 0, [], rfl, .nil, fun x hx => by simp at hx, .inl ⟨rfl, rfl, rfl⟩, rfl⟩
structure Sm (L : Lg) : Prop where
  ok : OkL L
  br : L.broken = false
  all : (allR L.segs).length ≤ 100000
  fst : L.first ≤ 100000
  pe : L.pend.length ≤ 200
theorem Sm.segl {L : Lg} (h : Sm L) : L.segs.length ≤ 100000 := by have := segs_le_all h.ok.seg.grp; have := h.all; omega
theorem recB_len' (z n : Int) : (recB z n).length ≤ 39 := by unfold recB; rw [recI_len]; omega
set_option maxHeartbeats 4000000 in
set_option maxRecDepth 100000 in
theorem do_app {σ : World} {F : List Res} {b d : Nat} {nm : RdM.Bs} {L : Lg} {s : DskM.St} {P1 : PS} {P2 : PX} {v : Value} (x : OpL) (hx : (0 ≤ x.k ∧ x.k ≤ 255) ∧ (0 ≤ x.z ∧ x.z ≤ 255) ∧ (0 ≤ x.n ∧ x.n ≤ 255)) (hk : x.k % 8 ≤ 2) (hS : Sm L) (hM : MS P1 P2 v L) :
    FnT Try.prog σ F 27 [.pointer (some ⟨d, 0, none⟩), .pointer (some ⟨b, 0, none⟩), v, .agg (encOpL x).toArray, .string (str nm)] [(601, dkR d s), (611, lgR b d nm L), (605, poolS P1), (606, poolX P2)]
      (fun u ρ => ∃ v' P1', MS P1' P2 v' { L with pend := L.pend ++ [recB x.z x.n] } ∧ u = .tuple #[.pointer (some ⟨b, 0, none⟩), v', .bool true, .bool false] ∧ ρ = [(601, dkR d s), (611, lgR b d nm { L with pend := L.pend ++ [recB x.z x.n] }), (605, poolS P1'), (606, poolX P2)]) := by
  refine fn_of 132 Try.func27 rfl Try.ntmps27 rfl ?_
  obtain ⟨a, c, p, cp, Y, hm⟩ := hM
  have hval := hm.val
  subst hval
  have hb := hS.br
  have hpe := hS.pe
  have hal := hS.all
  have hfs := hS.fst
  have hsg := hS.segl
  obtain ⟨r, hr⟩ : ∃ r, r = recB x.z x.n := ⟨_, rfl⟩
  have hrl : r.length ≤ 39 := by rw [hr]; exact recB_len' _ _
  rw [← hr]
  have happ : appL L r = ((((lastN L + (L.pend.length + 1) : Nat) : Int), 0), { L with pend := L.pend ++ [r] }) := by
    unfold appL; rw [if_neg (by simp [hb]), if_neg (by omega), if_neg (by omega)]
  refine w_seq (w_region (wl_op [] rfl rfl rfl rfl (op_box (T := 52) (l := 7) rfl) ?_))
  rintro _ _ ⟨b7, rfl, rfl⟩
  refine wl_op [] rfl rfl rfl rfl (op_box (T := 41) (l := 8) rfl) ?_
  rintro _ _ ⟨b8, rfl, rfl⟩
  refine za rfl (wl_op [] rfl rfl rfl rfl (op_alloc (l := 11) tN52xe) ?_)
  rintro _ _ ⟨b11, rfl, rfl⟩
  refine za rfl (za rfl (wl_nil (st_tn (w_seq (w_seq (w_region (zd rfl (op_fieldAddr (off := 0) rfl tF41_0xe) (zd rfl (op_load1 rfl tO5xe (Ent.lab (l := 8) rfl (says_cel 0))) (zd rfl (op_remN rfl rfl (by omega) (by omega)) ?_)))))))))
  refine wl_nil (st_tn (w_block (w_seq (w_seq ?_))))
  by_cases h0 : x.k % 8 = 0
  · -- h0+
    refine w_region (zd rfl (op_val (v' := .bool true) (by rw [decide_eq_true h0]) (op_eql rfl rfl)) ?_)
    refine za rfl (wl_nil (st_tn (w_cond_t (rfl) ?_)))
    refine w_skip (st_tn (w_cond_t (rfl) ?_))
    refine w_seq (w_region (zm rfl (zd rfl (op_loadA rfl tA41xe (Ent.lab (l := 8) rfl (says_cel 0)) (Nat.le_of_ble_eq_true rfl)) (zd rfl (op_fn Try.func19 rfl rfl rfl (fn_imp (record_any x.k x.z x.n hx.2.1 hx.2.2) (fun u ρ hu => (by rw [← hr] at hu; exact hu : u = .string (str r) ∧ ρ = [])))) ?_))))
    refine wl_op [611] rfl rfl rfl rfl (op_fn Try.func14 rfl rfl rfl (lappend_to 611 happ hS.ok (by omega))) ?_
    rintro _ _ ⟨rfl, rfl⟩
    refine zm rfl (zd rfl (op_extract rfl rfl) (zd rfl (op_extract rfl rfl) (za rfl (za rfl (wl_nil (st_tn (w_seq (w_region (zd rfl (op_loadA rfl tA52xe (Ent.lab (l := 7) rfl (says_cel 0)) (Nat.le_of_ble_eq_true rfl)) (wl_op0 [11] rfl rfl rfl (op_store rfl rfl tZ52xe (by rfl) (by rfl) (by exact Nat.le_of_ble_eq_true rfl)) ?_))))))))))
    rintro _ _ ⟨rfl, rfl⟩
    refine wl_nil (st_tn (w_seq ?_))
    refine w_drawW (fun β => [⟨35, [], [], [], fun w => DetW _ _, true, [], []⟩, ⟨36, [], [], [], noW (_), false, [], []⟩, ⟨37, [1], [], [], noW (_), false, [], []⟩, ⟨38, [2], [0], [], fun w => DetW _ _, false, [], []⟩, ⟨39, [], [], [], noW (_), false, [], []⟩]) [] [7, 8] [⟨35, [], [], true, [], []⟩, ⟨36, [], [], false, [], []⟩, ⟨37, [1], [], false, [], []⟩, ⟨38, [2], [0], false, [], []⟩, ⟨39, [], [], false, [], []⟩] [[], [], [], [0], []] [[], [], [], [], []] tMixxe (fun _ => by rfl) (fun _ => by rfl) (by kernel_rfl) (by kernel_rfl) (by rfl) (by rfl)
        (fun β => ⟨.px rfl (by intro X; refine OpT.mono (op_lit0 (enc := encT) (lab := 35) tS35xe) ?_; rintro _ _ ⟨a35, c35, rfl, rfl⟩; obtain ⟨w, rfl, rfl⟩ : ∃ w : Wt, w.a = a35 ∧ w.c = c35 := ⟨{ a := a35, c := c35 }, rfl, rfl⟩; exact ⟨w, rfl, rfl⟩),
        ⟨.p rfl (by intro X; exact op_fieldAddr (off := 2) rfl tF52_2xe),
        ⟨.p rfl (by intro X; rintro _ _ ⟨rfl, rfl⟩; exact op_load1 rfl tO35xe (Ent.lab (l := 7) rfl (says_cel 2))),
        ⟨.px rfl (by intro X; rintro _ _ ⟨rfl, rfl⟩ _ _ ⟨rfl, rfl⟩; show OpT _ _ _ _ _ _ [(_, _)] _; refine OpT.mono (op_append (lab := 35) (lab' := 38) rfl rfl tP35xe enc1T (hm.slp rfl (by omega)) (by simp; omega) (by simp; omega)) ?_; rintro _ _ ⟨a38, c38, rfl, rfl⟩; obtain ⟨w, rfl, rfl⟩ : ∃ w : Wt, w.a = a38 ∧ w.c = c38 := ⟨{ a := a38, c := c38 }, rfl, rfl⟩; exact ⟨w, rfl, rfl⟩),
        ⟨.p rfl (by intro X; exact op_loadA rfl tA41xe (Ent.lab (l := 8) rfl (says_cel 0)) (Nat.le_of_ble_eq_true rfl)),
        trivial⟩⟩⟩⟩⟩)
        (fun β β' => ⟨fun _ => by rfl, ⟨fun _ => by rfl, ⟨fun _ => by rfl, ⟨fun h => by first | rfl | (simp only [h 0 (by decide)]), ⟨fun _ => by rfl, trivial⟩⟩⟩⟩⟩) ?_
    intro β
    rintro _ _ ⟨rfl, rfl⟩ _ _ ⟨rfl, rfl⟩ _ _ ⟨rfl, rfl⟩ _ _ ⟨rfl, rfl⟩ _ _ ⟨rfl, rfl⟩
    generalize (β 0).a = a35
    generalize (β 0).c = c35
    generalize (β 3).a = a38
    generalize (β 3).c = c38
    refine wl_norm (e' := [(1, _), (7, _), (11, _), (14, _), (15, _), (38, _), (39, _)]) (.cons rfl (.cons rfl (.cons rfl (.cons rfl (.cons rfl (.cons rfl (.cons rfl (.nil _)))))))) (by dsimp only [cond_false, cond_true, List.nil_append, List.cons_append]) ?_
    refine zd rfl (op_fn Try.func19 rfl rfl rfl (fn_imp (record_any x.k x.z x.n hx.2.1 hx.2.2) (fun u ρ hu => (by rw [← hr] at hu; exact hu : u = .string (str r) ∧ ρ = [])))) ?_
    refine wl_op [] rfl rfl rfl rfl (op_buildSlice (enc := encT) (l := [r]) (lab := 41) tL35_1xe rfl rfl (fun _ => rfl) rfl) ?_
    rintro _ _ ⟨a41, c41, rfl, rfl⟩
    refine wl_op [38] rfl rfl rfl rfl (op_append (lab := 38) (lab' := 42) rfl rfl tP35xe enc1T (Sl.lab 41 rfl (by simp [maxLen])) (by simp; omega) (by simp; omega)) ?_
    rintro _ _ ⟨a42, c42, rfl, rfl⟩
    refine zd rfl (op_fieldAddr (off := 2) rfl tF52_2xe) (wl_op0 [11] rfl rfl rfl (op_store rfl rfl tZ35xe (by rfl) (by rfl) (by exact Nat.le_of_ble_eq_true rfl)) ?_)
    rintro _ _ ⟨rfl, rfl⟩
    refine wl_nil (st_tn (w_seq ?_))
    rw [List.nil_append]
    refine w_star 42 605 605 rfl ?_
    refine w_wk 605 (poolS ((.slice a42 (L.pend ++ [r]).length c42, L.pend ++ [r]) :: P1)) rfl (fun _ h => h) ?_
    have hrec := congrArg List.length hm.rel.recs
    have hpos := hS.ok.seg.pos
    refine w_drawW (fun β => [⟨44, [], [], [], noW (_), false, [], []⟩, ⟨45, [], [], [], noW (_), false, [15], []⟩, ⟨46, [], [], [], noW (_), false, [], []⟩, ⟨47, [2], [], [], noW (_), false, [], []⟩, ⟨48, [3], [], [], noW (_), false, [], []⟩, ⟨49, [], [], [], noW (_), false, [], []⟩, ⟨50, [], [], [], noW (_), false, [], []⟩, ⟨51, [6], [], [], noW (_), false, [], []⟩, ⟨52, [], [], [], noW (_), false, [], []⟩, ⟨53, [8], [], [], noW (_), false, [15], []⟩, ⟨54, [9], [], [], noW (_), false, [], []⟩, ⟨55, [7, 10], [], [], noW (_), false, [], []⟩, ⟨56, [5, 11], [], [], noW (_), false, [], []⟩, ⟨57, [4, 12], [], [], noW (_), false, [], []⟩, ⟨10, [0], [], [], noW (_), false, [], []⟩, ⟨147, [1], [], [(11, _)], noW (_), false, [], []⟩]) [11] [1, 11, 15, 14, 7] [⟨44, [], [], false, [], []⟩, ⟨45, [], [], false, [15], []⟩, ⟨46, [], [], false, [], []⟩, ⟨47, [2], [], false, [], []⟩, ⟨48, [3], [], false, [], []⟩, ⟨49, [], [], false, [], []⟩, ⟨50, [], [], false, [], []⟩, ⟨51, [6], [], false, [], []⟩, ⟨52, [], [], false, [], []⟩, ⟨53, [8], [], false, [15], []⟩, ⟨54, [9], [], false, [], []⟩, ⟨55, [7, 10], [], false, [], []⟩, ⟨56, [5, 11], [], false, [], []⟩, ⟨57, [4, 12], [], false, [], []⟩, ⟨10, [0], [], false, [], []⟩, ⟨147, [1], [], false, [], []⟩] [[], [], [], [], [], [], [], [], [], [], [], [], [], [], [], []] [[], [], [], [], [], [], [], [], [], [], [], [], [], [], [], [(11, _)]] tMixxe (fun _ => by rfl) (fun _ => by rfl) (by kernel_rfl) (by kernel_rfl) (by rfl) (by rfl)
        (fun β => ⟨.p rfl (by intro X; exact op_move rfl),
        ⟨.p rfl (by intro X; exact op_loadA rfl tA52xe (Ent.lab (l := 11) rfl (says_cel 0)) (Nat.le_of_ble_eq_true rfl)),
        ⟨.p rfl (by intro X; exact op_move rfl),
        ⟨.p rfl (by intro X; rintro _ _ ⟨rfl, rfl⟩; exact op_val (v' := .bool true) (by rfl) (op_eql rfl rfl)),
        ⟨.p rfl (by intro X; rintro _ _ ⟨rfl, rfl⟩; exact op_move rfl),
        ⟨.w rfl rfl rfl (by rintro _ _ ⟨rfl, rfl⟩; rfl) (by intro X; exact op_move rfl),
        ⟨.w rfl rfl rfl (by rintro _ _ ⟨rfl, rfl⟩; rfl) (by intro X; exact op_loadA rfl tA52xe (Ent.lab (l := 7) rfl (says_cel 0)) (Nat.le_of_ble_eq_true rfl)),
        ⟨.w rfl rfl rfl (by rintro _ _ ⟨rfl, rfl⟩; rfl) (by intro X; rintro _ _ ⟨rfl, rfl⟩; exact op_fn Try.func29 rfl rfl rfl (mlast_any (hm.slx rfl (by omega)) (fun x hx => (hm.ins x hx).mono (List.subset_cons_self _ _) |>.sl 605 rfl (by have := recs_le' hm.rel hx; unfold maxLen; omega)) (by omega) (by omega))),
        ⟨.w rfl rfl rfl (by rintro _ _ ⟨rfl, rfl⟩; rfl) (by intro X; exact op_fieldAddr (off := 2) rfl tF52_2xe),
        ⟨.w rfl rfl rfl (by rintro _ _ ⟨rfl, rfl⟩; rfl) (by intro X; rintro _ _ ⟨rfl, rfl⟩; exact op_load1 rfl tO35xe (Ent.lab (l := 11) rfl (says_cel 2))),
        ⟨.w rfl rfl rfl (by rintro _ _ ⟨rfl, rfl⟩; rfl) (by intro X; rintro _ _ ⟨rfl, rfl⟩; exact op_lenT (enc := encT) (l := L.pend ++ [r]) rfl tS35xe (Sl.ent (Sl.pool (E := 9) (enc := encT) (k := 1) 605 rfl List.mem_cons_self (by unfold maxLen; simp; omega)))),
        ⟨.w rfl rfl rfl (by rintro _ _ ⟨rfl, rfl⟩; rfl) (by intro X; rintro _ _ ⟨rfl, rfl⟩ _ _ ⟨rfl, rfl⟩; exact op_add' rfl rfl (by simp; omega)),
        ⟨.w rfl rfl rfl (by rintro _ _ ⟨rfl, rfl⟩; rfl) (by intro X; rintro _ _ ⟨rfl, rfl⟩ _ _ ⟨rfl, rfl⟩; exact op_val (v' := .bool true) (by rw [decide_eq_true]; show ((lastN L + (L.pend.length + 1) : Nat) : Int) = _; rw [List.length_append, List.length_singleton]; unfold lastN; omega) (op_eql rfl rfl)),
        ⟨.p rfl (by intro X; rintro _ _ ⟨rfl, rfl⟩ _ _ ⟨rfl, rfl⟩; exact op_pick_t rfl rfl),
        ⟨.p rfl (by intro X; rintro _ _ ⟨rfl, rfl⟩; exact op_assign rfl),
        ⟨.p rfl (by intro X; rintro _ _ ⟨rfl, rfl⟩; exact op_store rfl rfl tZ52xe (by rfl) (by rfl) (by exact Nat.le_of_ble_eq_true rfl)) (hu := by exact .inr fun _ _ h => h.1),
        trivial⟩⟩⟩⟩⟩⟩⟩⟩⟩⟩⟩⟩⟩⟩⟩⟩)
        (fun β β' => ⟨fun _ => by rfl, ⟨fun _ => by rfl, ⟨fun _ => by rfl, ⟨fun _ => by rfl, ⟨fun _ => by rfl, ⟨fun _ => by rfl, ⟨fun _ => by rfl, ⟨fun _ => by rfl, ⟨fun _ => by rfl, ⟨fun _ => by rfl, ⟨fun _ => by rfl, ⟨fun _ => by rfl, ⟨fun _ => by rfl, ⟨fun _ => by rfl, ⟨fun _ => by rfl, ⟨fun _ => by rfl, trivial⟩⟩⟩⟩⟩⟩⟩⟩⟩⟩⟩⟩⟩⟩⟩⟩) ?_
    intro β
    rintro _ _ ⟨rfl, rfl⟩ _ _ ⟨rfl, rfl⟩ _ _ ⟨rfl, rfl⟩ _ _ ⟨rfl, rfl⟩ _ _ ⟨rfl, rfl⟩ _ _ ⟨rfl, rfl⟩ _ _ ⟨rfl, rfl⟩ _ _ ⟨rfl, rfl⟩ _ _ ⟨rfl, rfl⟩ _ _ ⟨rfl, rfl⟩ _ _ ⟨rfl, rfl⟩ _ _ ⟨rfl, rfl⟩ _ _ ⟨rfl, rfl⟩ _ _ ⟨rfl, rfl⟩ _ _ ⟨rfl, rfl⟩ _ _ ⟨rfl, rfl⟩
    refine wl_norm (e' := [(10, _), (11, _), (57, _)]) (.cons rfl (.cons rfl (.cons rfl (.nil _)))) (by dsimp only [cond_false, cond_true, List.nil_append, List.cons_append]) ?_
    refine za rfl (za rfl (wl_nil (st_tn (w_ret (st_br (st_tr (st_ret (vs := [_, _, _, _]) [601, 611, 605, 606] Try.results27 ⟨rfl, ⟨⟨_, rfl, Ent.mono (Ent.lab (l := 11) rfl (says_cel 0)) (fun _ h => run_load_agg tA52xe h (Nat.le_of_ble_eq_true rfl))⟩, ⟨rfl, ⟨rfl, trivial⟩⟩⟩⟩ rfl ?_)))))))
    refine ⟨[(601, _), (611, _), (605, _), (606, _)], rfl, ?_⟩
    exact ⟨_, _, ⟨a, c, a42, c42, Y, rfl, hm.inx, fun x hx => (hm.ins x hx).mono (List.subset_cons_self _ _), .inr List.mem_cons_self, hm.rel⟩, rfl, rfl⟩
  · -- h0-
    refine w_region (zd rfl (op_val (v' := .bool false) (by rw [decide_eq_false h0]) (op_eql rfl rfl)) ?_)
    refine za rfl (wl_nil (st_tn (w_cond_f (rfl) ?_)))
    refine w_seq ?_
    by_cases h1 : x.k % 8 = 1
    · -- h1+
      refine w_region (zd rfl (op_val (v' := .bool true) (by rw [decide_eq_true h1]) (op_eql rfl rfl)) ?_)
      refine za rfl (wl_nil (st_tn (w_cond_t (rfl) ?_)))
      refine w_skip (st_tn (w_cond_t (rfl) ?_))
      refine w_seq (w_region (zm rfl (zd rfl (op_loadA rfl tA41xe (Ent.lab (l := 8) rfl (says_cel 0)) (Nat.le_of_ble_eq_true rfl)) (zd rfl (op_fn Try.func19 rfl rfl rfl (fn_imp (record_any x.k x.z x.n hx.2.1 hx.2.2) (fun u ρ hu => (by rw [← hr] at hu; exact hu : u = .string (str r) ∧ ρ = [])))) ?_))))
      refine wl_op [611] rfl rfl rfl rfl (op_fn Try.func14 rfl rfl rfl (lappend_to 611 happ hS.ok (by omega))) ?_
      rintro _ _ ⟨rfl, rfl⟩
      refine zm rfl (zd rfl (op_extract rfl rfl) (zd rfl (op_extract rfl rfl) (za rfl (za rfl (wl_nil (st_tn (w_seq (w_region (zd rfl (op_loadA rfl tA52xe (Ent.lab (l := 7) rfl (says_cel 0)) (Nat.le_of_ble_eq_true rfl)) (wl_op0 [11] rfl rfl rfl (op_store rfl rfl tZ52xe (by rfl) (by rfl) (by exact Nat.le_of_ble_eq_true rfl)) ?_))))))))))
      rintro _ _ ⟨rfl, rfl⟩
      refine wl_nil (st_tn (w_seq ?_))
      refine w_drawW (fun β => [⟨35, [], [], [], fun w => DetW _ _, true, [], []⟩, ⟨36, [], [], [], noW (_), false, [], []⟩, ⟨37, [1], [], [], noW (_), false, [], []⟩, ⟨38, [2], [0], [], fun w => DetW _ _, false, [], []⟩, ⟨39, [], [], [], noW (_), false, [], []⟩]) [] [7, 8] [⟨35, [], [], true, [], []⟩, ⟨36, [], [], false, [], []⟩, ⟨37, [1], [], false, [], []⟩, ⟨38, [2], [0], false, [], []⟩, ⟨39, [], [], false, [], []⟩] [[], [], [], [0], []] [[], [], [], [], []] tMixxe (fun _ => by rfl) (fun _ => by rfl) (by kernel_rfl) (by kernel_rfl) (by rfl) (by rfl)
          (fun β => ⟨.px rfl (by intro X; refine OpT.mono (op_lit0 (enc := encT) (lab := 35) tS35xe) ?_; rintro _ _ ⟨a35, c35, rfl, rfl⟩; obtain ⟨w, rfl, rfl⟩ : ∃ w : Wt, w.a = a35 ∧ w.c = c35 := ⟨{ a := a35, c := c35 }, rfl, rfl⟩; exact ⟨w, rfl, rfl⟩),
          ⟨.p rfl (by intro X; exact op_fieldAddr (off := 2) rfl tF52_2xe),
          ⟨.p rfl (by intro X; rintro _ _ ⟨rfl, rfl⟩; exact op_load1 rfl tO35xe (Ent.lab (l := 7) rfl (says_cel 2))),
          ⟨.px rfl (by intro X; rintro _ _ ⟨rfl, rfl⟩ _ _ ⟨rfl, rfl⟩; show OpT _ _ _ _ _ _ [(_, _)] _; refine OpT.mono (op_append (lab := 35) (lab' := 38) rfl rfl tP35xe enc1T (hm.slp rfl (by omega)) (by simp; omega) (by simp; omega)) ?_; rintro _ _ ⟨a38, c38, rfl, rfl⟩; obtain ⟨w, rfl, rfl⟩ : ∃ w : Wt, w.a = a38 ∧ w.c = c38 := ⟨{ a := a38, c := c38 }, rfl, rfl⟩; exact ⟨w, rfl, rfl⟩),
          ⟨.p rfl (by intro X; exact op_loadA rfl tA41xe (Ent.lab (l := 8) rfl (says_cel 0)) (Nat.le_of_ble_eq_true rfl)),
          trivial⟩⟩⟩⟩⟩)
          (fun β β' => ⟨fun _ => by rfl, ⟨fun _ => by rfl, ⟨fun _ => by rfl, ⟨fun h => by first | rfl | (simp only [h 0 (by decide)]), ⟨fun _ => by rfl, trivial⟩⟩⟩⟩⟩) ?_
      intro β
      rintro _ _ ⟨rfl, rfl⟩ _ _ ⟨rfl, rfl⟩ _ _ ⟨rfl, rfl⟩ _ _ ⟨rfl, rfl⟩ _ _ ⟨rfl, rfl⟩
      generalize (β 0).a = a35
      generalize (β 0).c = c35
      generalize (β 3).a = a38
      generalize (β 3).c = c38
      refine wl_norm (e' := [(1, _), (7, _), (11, _), (14, _), (15, _), (38, _), (39, _)]) (.cons rfl (.cons rfl (.cons rfl (.cons rfl (.cons rfl (.cons rfl (.cons rfl (.nil _)))))))) (by dsimp only [cond_false, cond_true, List.nil_append, List.cons_append]) ?_
      refine zd rfl (op_fn Try.func19 rfl rfl rfl (fn_imp (record_any x.k x.z x.n hx.2.1 hx.2.2) (fun u ρ hu => (by rw [← hr] at hu; exact hu : u = .string (str r) ∧ ρ = [])))) ?_
      refine wl_op [] rfl rfl rfl rfl (op_buildSlice (enc := encT) (l := [r]) (lab := 41) tL35_1xe rfl rfl (fun _ => rfl) rfl) ?_
      rintro _ _ ⟨a41, c41, rfl, rfl⟩
      refine wl_op [38] rfl rfl rfl rfl (op_append (lab := 38) (lab' := 42) rfl rfl tP35xe enc1T (Sl.lab 41 rfl (by simp [maxLen])) (by simp; omega) (by simp; omega)) ?_
      rintro _ _ ⟨a42, c42, rfl, rfl⟩
      refine zd rfl (op_fieldAddr (off := 2) rfl tF52_2xe) (wl_op0 [11] rfl rfl rfl (op_store rfl rfl tZ35xe (by rfl) (by rfl) (by exact Nat.le_of_ble_eq_true rfl)) ?_)
      rintro _ _ ⟨rfl, rfl⟩
      refine wl_nil (st_tn (w_seq ?_))
      rw [List.nil_append]
      refine w_star 42 605 605 rfl ?_
      refine w_wk 605 (poolS ((.slice a42 (L.pend ++ [r]).length c42, L.pend ++ [r]) :: P1)) rfl (fun _ h => h) ?_
      have hrec := congrArg List.length hm.rel.recs
      have hpos := hS.ok.seg.pos
      refine w_drawW (fun β => [⟨44, [], [], [], noW (_), false, [], []⟩, ⟨45, [], [], [], noW (_), false, [15], []⟩, ⟨46, [], [], [], noW (_), false, [], []⟩, ⟨47, [2], [], [], noW (_), false, [], []⟩, ⟨48, [3], [], [], noW (_), false, [], []⟩, ⟨49, [], [], [], noW (_), false, [], []⟩, ⟨50, [], [], [], noW (_), false, [], []⟩, ⟨51, [6], [], [], noW (_), false, [], []⟩, ⟨52, [], [], [], noW (_), false, [], []⟩, ⟨53, [8], [], [], noW (_), false, [15], []⟩, ⟨54, [9], [], [], noW (_), false, [], []⟩, ⟨55, [7, 10], [], [], noW (_), false, [], []⟩, ⟨56, [5, 11], [], [], noW (_), false, [], []⟩, ⟨57, [4, 12], [], [], noW (_), false, [], []⟩, ⟨10, [0], [], [], noW (_), false, [], []⟩, ⟨147, [1], [], [(11, _)], noW (_), false, [], []⟩]) [11] [1, 11, 15, 14, 7] [⟨44, [], [], false, [], []⟩, ⟨45, [], [], false, [15], []⟩, ⟨46, [], [], false, [], []⟩, ⟨47, [2], [], false, [], []⟩, ⟨48, [3], [], false, [], []⟩, ⟨49, [], [], false, [], []⟩, ⟨50, [], [], false, [], []⟩, ⟨51, [6], [], false, [], []⟩, ⟨52, [], [], false, [], []⟩, ⟨53, [8], [], false, [15], []⟩, ⟨54, [9], [], false, [], []⟩, ⟨55, [7, 10], [], false, [], []⟩, ⟨56, [5, 11], [], false, [], []⟩, ⟨57, [4, 12], [], false, [], []⟩, ⟨10, [0], [], false, [], []⟩, ⟨147, [1], [], false, [], []⟩] [[], [], [], [], [], [], [], [], [], [], [], [], [], [], [], []] [[], [], [], [], [], [], [], [], [], [], [], [], [], [], [], [(11, _)]] tMixxe (fun _ => by rfl) (fun _ => by rfl) (by kernel_rfl) (by kernel_rfl) (by rfl) (by rfl)
          (fun β => ⟨.p rfl (by intro X; exact op_move rfl),
          ⟨.p rfl (by intro X; exact op_loadA rfl tA52xe (Ent.lab (l := 11) rfl (says_cel 0)) (Nat.le_of_ble_eq_true rfl)),
          ⟨.p rfl (by intro X; exact op_move rfl),
          ⟨.p rfl (by intro X; rintro _ _ ⟨rfl, rfl⟩; exact op_val (v' := .bool true) (by rfl) (op_eql rfl rfl)),
          ⟨.p rfl (by intro X; rintro _ _ ⟨rfl, rfl⟩; exact op_move rfl),
          ⟨.w rfl rfl rfl (by rintro _ _ ⟨rfl, rfl⟩; rfl) (by intro X; exact op_move rfl),
          ⟨.w rfl rfl rfl (by rintro _ _ ⟨rfl, rfl⟩; rfl) (by intro X; exact op_loadA rfl tA52xe (Ent.lab (l := 7) rfl (says_cel 0)) (Nat.le_of_ble_eq_true rfl)),
          ⟨.w rfl rfl rfl (by rintro _ _ ⟨rfl, rfl⟩; rfl) (by intro X; rintro _ _ ⟨rfl, rfl⟩; exact op_fn Try.func29 rfl rfl rfl (mlast_any (hm.slx rfl (by omega)) (fun x hx => (hm.ins x hx).mono (List.subset_cons_self _ _) |>.sl 605 rfl (by have := recs_le' hm.rel hx; unfold maxLen; omega)) (by omega) (by omega))),
          ⟨.w rfl rfl rfl (by rintro _ _ ⟨rfl, rfl⟩; rfl) (by intro X; exact op_fieldAddr (off := 2) rfl tF52_2xe),
          ⟨.w rfl rfl rfl (by rintro _ _ ⟨rfl, rfl⟩; rfl) (by intro X; rintro _ _ ⟨rfl, rfl⟩; exact op_load1 rfl tO35xe (Ent.lab (l := 11) rfl (says_cel 2))),
          ⟨.w rfl rfl rfl (by rintro _ _ ⟨rfl, rfl⟩; rfl) (by intro X; rintro _ _ ⟨rfl, rfl⟩; exact op_lenT (enc := encT) (l := L.pend ++ [r]) rfl tS35xe (Sl.ent (Sl.pool (E := 9) (enc := encT) (k := 1) 605 rfl List.mem_cons_self (by unfold maxLen; simp; omega)))),
          ⟨.w rfl rfl rfl (by rintro _ _ ⟨rfl, rfl⟩; rfl) (by intro X; rintro _ _ ⟨rfl, rfl⟩ _ _ ⟨rfl, rfl⟩; exact op_add' rfl rfl (by simp; omega)),
          ⟨.w rfl rfl rfl (by rintro _ _ ⟨rfl, rfl⟩; rfl) (by intro X; rintro _ _ ⟨rfl, rfl⟩ _ _ ⟨rfl, rfl⟩; exact op_val (v' := .bool true) (by rw [decide_eq_true]; show ((lastN L + (L.pend.length + 1) : Nat) : Int) = _; rw [List.length_append, List.length_singleton]; unfold lastN; omega) (op_eql rfl rfl)),
          ⟨.p rfl (by intro X; rintro _ _ ⟨rfl, rfl⟩ _ _ ⟨rfl, rfl⟩; exact op_pick_t rfl rfl),
          ⟨.p rfl (by intro X; rintro _ _ ⟨rfl, rfl⟩; exact op_assign rfl),
          ⟨.p rfl (by intro X; rintro _ _ ⟨rfl, rfl⟩; exact op_store rfl rfl tZ52xe (by rfl) (by rfl) (by exact Nat.le_of_ble_eq_true rfl)) (hu := by exact .inr fun _ _ h => h.1),
          trivial⟩⟩⟩⟩⟩⟩⟩⟩⟩⟩⟩⟩⟩⟩⟩⟩)
          (fun β β' => ⟨fun _ => by rfl, ⟨fun _ => by rfl, ⟨fun _ => by rfl, ⟨fun _ => by rfl, ⟨fun _ => by rfl, ⟨fun _ => by rfl, ⟨fun _ => by rfl, ⟨fun _ => by rfl, ⟨fun _ => by rfl, ⟨fun _ => by rfl, ⟨fun _ => by rfl, ⟨fun _ => by rfl, ⟨fun _ => by rfl, ⟨fun _ => by rfl, ⟨fun _ => by rfl, ⟨fun _ => by rfl, trivial⟩⟩⟩⟩⟩⟩⟩⟩⟩⟩⟩⟩⟩⟩⟩⟩) ?_
      intro β
      rintro _ _ ⟨rfl, rfl⟩ _ _ ⟨rfl, rfl⟩ _ _ ⟨rfl, rfl⟩ _ _ ⟨rfl, rfl⟩ _ _ ⟨rfl, rfl⟩ _ _ ⟨rfl, rfl⟩ _ _ ⟨rfl, rfl⟩ _ _ ⟨rfl, rfl⟩ _ _ ⟨rfl, rfl⟩ _ _ ⟨rfl, rfl⟩ _ _ ⟨rfl, rfl⟩ _ _ ⟨rfl, rfl⟩ _ _ ⟨rfl, rfl⟩ _ _ ⟨rfl, rfl⟩ _ _ ⟨rfl, rfl⟩ _ _ ⟨rfl, rfl⟩
      refine wl_norm (e' := [(10, _), (11, _), (57, _)]) (.cons rfl (.cons rfl (.cons rfl (.nil _)))) (by dsimp only [cond_false, cond_true, List.nil_append, List.cons_append]) ?_
      refine za rfl (za rfl (wl_nil (st_tn (w_ret (st_br (st_tr (st_ret (vs := [_, _, _, _]) [601, 611, 605, 606] Try.results27 ⟨rfl, ⟨⟨_, rfl, Ent.mono (Ent.lab (l := 11) rfl (says_cel 0)) (fun _ h => run_load_agg tA52xe h (Nat.le_of_ble_eq_true rfl))⟩, ⟨rfl, ⟨rfl, trivial⟩⟩⟩⟩ rfl ?_)))))))
      refine ⟨[(601, _), (611, _), (605, _), (606, _)], rfl, ?_⟩
      exact ⟨_, _, ⟨a, c, a42, c42, Y, rfl, hm.inx, fun x hx => (hm.ins x hx).mono (List.subset_cons_self _ _), .inr List.mem_cons_self, hm.rel⟩, rfl, rfl⟩
    · -- h1-
      refine w_region (zd rfl (op_val (v' := .bool false) (by rw [decide_eq_false h1]) (op_eql rfl rfl)) ?_)
      refine za rfl (wl_nil (st_tn (w_cond_f (rfl) ?_)))
      refine w_region (zd rfl (op_val (v' := .bool true) (by rw [decide_eq_true (by omega)]) (op_eql rfl rfl)) ?_)
      refine za rfl (wl_nil (st_tn (w_cond_t (rfl) ?_)))
      refine w_seq (w_region (zm rfl (zd rfl (op_loadA rfl tA41xe (Ent.lab (l := 8) rfl (says_cel 0)) (Nat.le_of_ble_eq_true rfl)) (zd rfl (op_fn Try.func19 rfl rfl rfl (fn_imp (record_any x.k x.z x.n hx.2.1 hx.2.2) (fun u ρ hu => (by rw [← hr] at hu; exact hu : u = .string (str r) ∧ ρ = [])))) ?_))))
      refine wl_op [611] rfl rfl rfl rfl (op_fn Try.func14 rfl rfl rfl (lappend_to 611 happ hS.ok (by omega))) ?_
      rintro _ _ ⟨rfl, rfl⟩
      refine zm rfl (zd rfl (op_extract rfl rfl) (zd rfl (op_extract rfl rfl) (za rfl (za rfl (wl_nil (st_tn (w_seq (w_region (zd rfl (op_loadA rfl tA52xe (Ent.lab (l := 7) rfl (says_cel 0)) (Nat.le_of_ble_eq_true rfl)) (wl_op0 [11] rfl rfl rfl (op_store rfl rfl tZ52xe (by rfl) (by rfl) (by exact Nat.le_of_ble_eq_true rfl)) ?_))))))))))
      rintro _ _ ⟨rfl, rfl⟩
      refine wl_nil (st_tn (w_seq ?_))
      refine w_drawW (fun β => [⟨35, [], [], [], fun w => DetW _ _, true, [], []⟩, ⟨36, [], [], [], noW (_), false, [], []⟩, ⟨37, [1], [], [], noW (_), false, [], []⟩, ⟨38, [2], [0], [], fun w => DetW _ _, false, [], []⟩, ⟨39, [], [], [], noW (_), false, [], []⟩]) [] [7, 8] [⟨35, [], [], true, [], []⟩, ⟨36, [], [], false, [], []⟩, ⟨37, [1], [], false, [], []⟩, ⟨38, [2], [0], false, [], []⟩, ⟨39, [], [], false, [], []⟩] [[], [], [], [0], []] [[], [], [], [], []] tMixxe (fun _ => by rfl) (fun _ => by rfl) (by kernel_rfl) (by kernel_rfl) (by rfl) (by rfl)
          (fun β => ⟨.px rfl (by intro X; refine OpT.mono (op_lit0 (enc := encT) (lab := 35) tS35xe) ?_; rintro _ _ ⟨a35, c35, rfl, rfl⟩; obtain ⟨w, rfl, rfl⟩ : ∃ w : Wt, w.a = a35 ∧ w.c = c35 := ⟨{ a := a35, c := c35 }, rfl, rfl⟩; exact ⟨w, rfl, rfl⟩),
          ⟨.p rfl (by intro X; exact op_fieldAddr (off := 2) rfl tF52_2xe),
          ⟨.p rfl (by intro X; rintro _ _ ⟨rfl, rfl⟩; exact op_load1 rfl tO35xe (Ent.lab (l := 7) rfl (says_cel 2))),
          ⟨.px rfl (by intro X; rintro _ _ ⟨rfl, rfl⟩ _ _ ⟨rfl, rfl⟩; show OpT _ _ _ _ _ _ [(_, _)] _; refine OpT.mono (op_append (lab := 35) (lab' := 38) rfl rfl tP35xe enc1T (hm.slp rfl (by omega)) (by simp; omega) (by simp; omega)) ?_; rintro _ _ ⟨a38, c38, rfl, rfl⟩; obtain ⟨w, rfl, rfl⟩ : ∃ w : Wt, w.a = a38 ∧ w.c = c38 := ⟨{ a := a38, c := c38 }, rfl, rfl⟩; exact ⟨w, rfl, rfl⟩),
          ⟨.p rfl (by intro X; exact op_loadA rfl tA41xe (Ent.lab (l := 8) rfl (says_cel 0)) (Nat.le_of_ble_eq_true rfl)),
          trivial⟩⟩⟩⟩⟩)
          (fun β β' => ⟨fun _ => by rfl, ⟨fun _ => by rfl, ⟨fun _ => by rfl, ⟨fun h => by first | rfl | (simp only [h 0 (by decide)]), ⟨fun _ => by rfl, trivial⟩⟩⟩⟩⟩) ?_
      intro β
      rintro _ _ ⟨rfl, rfl⟩ _ _ ⟨rfl, rfl⟩ _ _ ⟨rfl, rfl⟩ _ _ ⟨rfl, rfl⟩ _ _ ⟨rfl, rfl⟩
      generalize (β 0).a = a35
      generalize (β 0).c = c35
      generalize (β 3).a = a38
      generalize (β 3).c = c38
      refine wl_norm (e' := [(1, _), (7, _), (11, _), (14, _), (15, _), (38, _), (39, _)]) (.cons rfl (.cons rfl (.cons rfl (.cons rfl (.cons rfl (.cons rfl (.cons rfl (.nil _)))))))) (by dsimp only [cond_false, cond_true, List.nil_append, List.cons_append]) ?_
      refine zd rfl (op_fn Try.func19 rfl rfl rfl (fn_imp (record_any x.k x.z x.n hx.2.1 hx.2.2) (fun u ρ hu => (by rw [← hr] at hu; exact hu : u = .string (str r) ∧ ρ = [])))) ?_
      refine wl_op [] rfl rfl rfl rfl (op_buildSlice (enc := encT) (l := [r]) (lab := 41) tL35_1xe rfl rfl (fun _ => rfl) rfl) ?_
      rintro _ _ ⟨a41, c41, rfl, rfl⟩
      refine wl_op [38] rfl rfl rfl rfl (op_append (lab := 38) (lab' := 42) rfl rfl tP35xe enc1T (Sl.lab 41 rfl (by simp [maxLen])) (by simp; omega) (by simp; omega)) ?_
      rintro _ _ ⟨a42, c42, rfl, rfl⟩
      refine zd rfl (op_fieldAddr (off := 2) rfl tF52_2xe) (wl_op0 [11] rfl rfl rfl (op_store rfl rfl tZ35xe (by rfl) (by rfl) (by exact Nat.le_of_ble_eq_true rfl)) ?_)
      rintro _ _ ⟨rfl, rfl⟩
      refine wl_nil (st_tn (w_seq ?_))
      rw [List.nil_append]
      refine w_star 42 605 605 rfl ?_
      refine w_wk 605 (poolS ((.slice a42 (L.pend ++ [r]).length c42, L.pend ++ [r]) :: P1)) rfl (fun _ h => h) ?_
      have hrec := congrArg List.length hm.rel.recs
      have hpos := hS.ok.seg.pos
      refine w_drawW (fun β => [⟨44, [], [], [], noW (_), false, [], []⟩, ⟨45, [], [], [], noW (_), false, [15], []⟩, ⟨46, [], [], [], noW (_), false, [], []⟩, ⟨47, [2], [], [], noW (_), false, [], []⟩, ⟨48, [3], [], [], noW (_), false, [], []⟩, ⟨49, [], [], [], noW (_), false, [], []⟩, ⟨50, [], [], [], noW (_), false, [], []⟩, ⟨51, [6], [], [], noW (_), false, [], []⟩, ⟨52, [], [], [], noW (_), false, [], []⟩, ⟨53, [8], [], [], noW (_), false, [15], []⟩, ⟨54, [9], [], [], noW (_), false, [], []⟩, ⟨55, [7, 10], [], [], noW (_), false, [], []⟩, ⟨56, [5, 11], [], [], noW (_), false, [], []⟩, ⟨57, [4, 12], [], [], noW (_), false, [], []⟩, ⟨10, [0], [], [], noW (_), false, [], []⟩, ⟨147, [1], [], [(11, _)], noW (_), false, [], []⟩]) [11] [1, 11, 15, 14, 7] [⟨44, [], [], false, [], []⟩, ⟨45, [], [], false, [15], []⟩, ⟨46, [], [], false, [], []⟩, ⟨47, [2], [], false, [], []⟩, ⟨48, [3], [], false, [], []⟩, ⟨49, [], [], false, [], []⟩, ⟨50, [], [], false, [], []⟩, ⟨51, [6], [], false, [], []⟩, ⟨52, [], [], false, [], []⟩, ⟨53, [8], [], false, [15], []⟩, ⟨54, [9], [], false, [], []⟩, ⟨55, [7, 10], [], false, [], []⟩, ⟨56, [5, 11], [], false, [], []⟩, ⟨57, [4, 12], [], false, [], []⟩, ⟨10, [0], [], false, [], []⟩, ⟨147, [1], [], false, [], []⟩] [[], [], [], [], [], [], [], [], [], [], [], [], [], [], [], []] [[], [], [], [], [], [], [], [], [], [], [], [], [], [], [], [(11, _)]] tMixxe (fun _ => by rfl) (fun _ => by rfl) (by kernel_rfl) (by kernel_rfl) (by rfl) (by rfl)
          (fun β => ⟨.p rfl (by intro X; exact op_move rfl),
          ⟨.p rfl (by intro X; exact op_loadA rfl tA52xe (Ent.lab (l := 11) rfl (says_cel 0)) (Nat.le_of_ble_eq_true rfl)),
          ⟨.p rfl (by intro X; exact op_move rfl),
          ⟨.p rfl (by intro X; rintro _ _ ⟨rfl, rfl⟩; exact op_val (v' := .bool true) (by rfl) (op_eql rfl rfl)),
          ⟨.p rfl (by intro X; rintro _ _ ⟨rfl, rfl⟩; exact op_move rfl),
          ⟨.w rfl rfl rfl (by rintro _ _ ⟨rfl, rfl⟩; rfl) (by intro X; exact op_move rfl),
          ⟨.w rfl rfl rfl (by rintro _ _ ⟨rfl, rfl⟩; rfl) (by intro X; exact op_loadA rfl tA52xe (Ent.lab (l := 7) rfl (says_cel 0)) (Nat.le_of_ble_eq_true rfl)),
          ⟨.w rfl rfl rfl (by rintro _ _ ⟨rfl, rfl⟩; rfl) (by intro X; rintro _ _ ⟨rfl, rfl⟩; exact op_fn Try.func29 rfl rfl rfl (mlast_any (hm.slx rfl (by omega)) (fun x hx => (hm.ins x hx).mono (List.subset_cons_self _ _) |>.sl 605 rfl (by have := recs_le' hm.rel hx; unfold maxLen; omega)) (by omega) (by omega))),
          ⟨.w rfl rfl rfl (by rintro _ _ ⟨rfl, rfl⟩; rfl) (by intro X; exact op_fieldAddr (off := 2) rfl tF52_2xe),
          ⟨.w rfl rfl rfl (by rintro _ _ ⟨rfl, rfl⟩; rfl) (by intro X; rintro _ _ ⟨rfl, rfl⟩; exact op_load1 rfl tO35xe (Ent.lab (l := 11) rfl (says_cel 2))),
          ⟨.w rfl rfl rfl (by rintro _ _ ⟨rfl, rfl⟩; rfl) (by intro X; rintro _ _ ⟨rfl, rfl⟩; exact op_lenT (enc := encT) (l := L.pend ++ [r]) rfl tS35xe (Sl.ent (Sl.pool (E := 9) (enc := encT) (k := 1) 605 rfl List.mem_cons_self (by unfold maxLen; simp; omega)))),
          ⟨.w rfl rfl rfl (by rintro _ _ ⟨rfl, rfl⟩; rfl) (by intro X; rintro _ _ ⟨rfl, rfl⟩ _ _ ⟨rfl, rfl⟩; exact op_add' rfl rfl (by simp; omega)),
          ⟨.w rfl rfl rfl (by rintro _ _ ⟨rfl, rfl⟩; rfl) (by intro X; rintro _ _ ⟨rfl, rfl⟩ _ _ ⟨rfl, rfl⟩; exact op_val (v' := .bool true) (by rw [decide_eq_true]; show ((lastN L + (L.pend.length + 1) : Nat) : Int) = _; rw [List.length_append, List.length_singleton]; unfold lastN; omega) (op_eql rfl rfl)),
          ⟨.p rfl (by intro X; rintro _ _ ⟨rfl, rfl⟩ _ _ ⟨rfl, rfl⟩; exact op_pick_t rfl rfl),
          ⟨.p rfl (by intro X; rintro _ _ ⟨rfl, rfl⟩; exact op_assign rfl),
          ⟨.p rfl (by intro X; rintro _ _ ⟨rfl, rfl⟩; exact op_store rfl rfl tZ52xe (by rfl) (by rfl) (by exact Nat.le_of_ble_eq_true rfl)) (hu := by exact .inr fun _ _ h => h.1),
          trivial⟩⟩⟩⟩⟩⟩⟩⟩⟩⟩⟩⟩⟩⟩⟩⟩)
          (fun β β' => ⟨fun _ => by rfl, ⟨fun _ => by rfl, ⟨fun _ => by rfl, ⟨fun _ => by rfl, ⟨fun _ => by rfl, ⟨fun _ => by rfl, ⟨fun _ => by rfl, ⟨fun _ => by rfl, ⟨fun _ => by rfl, ⟨fun _ => by rfl, ⟨fun _ => by rfl, ⟨fun _ => by rfl, ⟨fun _ => by rfl, ⟨fun _ => by rfl, ⟨fun _ => by rfl, ⟨fun _ => by rfl, trivial⟩⟩⟩⟩⟩⟩⟩⟩⟩⟩⟩⟩⟩⟩⟩⟩) ?_
      intro β
      rintro _ _ ⟨rfl, rfl⟩ _ _ ⟨rfl, rfl⟩ _ _ ⟨rfl, rfl⟩ _ _ ⟨rfl, rfl⟩ _ _ ⟨rfl, rfl⟩ _ _ ⟨rfl, rfl⟩ _ _ ⟨rfl, rfl⟩ _ _ ⟨rfl, rfl⟩ _ _ ⟨rfl, rfl⟩ _ _ ⟨rfl, rfl⟩ _ _ ⟨rfl, rfl⟩ _ _ ⟨rfl, rfl⟩ _ _ ⟨rfl, rfl⟩ _ _ ⟨rfl, rfl⟩ _ _ ⟨rfl, rfl⟩ _ _ ⟨rfl, rfl⟩
      refine wl_norm (e' := [(10, _), (11, _), (57, _)]) (.cons rfl (.cons rfl (.cons rfl (.nil _)))) (by dsimp only [cond_false, cond_true, List.nil_append, List.cons_append]) ?_
      refine za rfl (za rfl (wl_nil (st_tn (w_ret (st_br (st_tr (st_ret (vs := [_, _, _, _]) [601, 611, 605, 606] Try.results27 ⟨rfl, ⟨⟨_, rfl, Ent.mono (Ent.lab (l := 11) rfl (says_cel 0)) (fun _ h => run_load_agg tA52xe h (Nat.le_of_ble_eq_true rfl))⟩, ⟨rfl, ⟨rfl, trivial⟩⟩⟩⟩ rfl ?_)))))))
      refine ⟨[(601, _), (611, _), (605, _), (606, _)], rfl, ?_⟩
      exact ⟨_, _, ⟨a, c, a42, c42, Y, rfl, hm.inx, fun x hx => (hm.ins x hx).mono (List.subset_cons_self _ _), .inr List.mem_cons_self, hm.rel⟩, rfl, rfl⟩
end Go.Proofs.Ytcbigmgakdanjaa
namespace Go.Proofs.Ytcbigmgakdanjaa
open Go Go.SL Go.RowKit Go.RdM Go.WalM
set_option linter.unusedVariables false
set_option linter.unusedSimpArgs false
theorem tA52xf : aggB Try.prog 52 4 = true := by kernel_rfl
theorem tF41_0xf : fieldB Try.prog 41 0 0 = true := by kernel_rfl
theorem tF52_2xf : fieldB Try.prog 52 2 2 = true := by kernel_rfl
theorem tMixxf : Try.prog.follows .mixedOrders = true := by kernel_rfl
theorem tN52xf : (Try.prog.info? 52).bind (·.zero) = some (Value.agg #[Value.slice none 0 0, Value.int .i64 0, Value.slice none 0 0, Value.bool false]) := by kernel_rfl
theorem tO5xf : oneB Try.prog 5 = true := by kernel_rfl
theorem tZ35xf : (Try.prog.info? 35).map (·.size) = some 1 := by kernel_rfl
theorem tZ52xf : (Try.prog.info? 52).map (·.size) = some 4 := by kernel_rfl
set_option maxHeartbeats 2000000 in
set_option maxRecDepth 100000 in
theorem do_dis {σ : World} {F : List Res} {b d : Nat} {nm : RdM.Bs} {L : Lg} {s : DskM.St} {P1 : PS} {P2 : PX} {v : Value} (x : OpL) (hx : 0 ≤ x.k ∧ x.k ≤ 255) (hk : x.k % 8 = 5) (hS : Sm L) (hM : MS P1 P2 v L) :
    FnT Try.prog σ F 27 [.pointer (some ⟨d, 0, none⟩), .pointer (some ⟨b, 0, none⟩), v, .agg (encOpL x).toArray, .string (str nm)] [(601, dkR d s), (611, lgR b d nm L), (605, poolS P1), (606, poolX P2)]
      (fun u ρ => ∃ v', MS P1 P2 v' { L with pend := [] } ∧ u = .tuple #[.pointer (some ⟨b, 0, none⟩), v', .bool true, .bool false] ∧ ρ = [(601, dkR d s), (611, lgR b d nm { L with pend := [] }), (605, poolS P1), (606, poolX P2)]) := by
  refine fn_of 132 Try.func27 rfl Try.ntmps27 rfl ?_
  obtain ⟨a, c, p, cp, Y, hm⟩ := hM
  have hval := hm.val
  subst hval
  have hb := hS.br
  have hdl : discL L = { L with pend := [] } := by unfold discL; rw [if_neg (by simp [hb])]
  refine w_seq (w_region (wl_op [] rfl rfl rfl rfl (op_box (T := 52) (l := 7) rfl) ?_))
  rintro _ _ ⟨b7, rfl, rfl⟩
  refine wl_op [] rfl rfl rfl rfl (op_box (T := 41) (l := 8) rfl) ?_
  rintro _ _ ⟨b8, rfl, rfl⟩
  refine za rfl (wl_op [] rfl rfl rfl rfl (op_alloc (l := 11) tN52xf) ?_)
  rintro _ _ ⟨b11, rfl, rfl⟩
  refine za rfl (za rfl (wl_nil (st_tn (w_seq (w_seq (w_region (zd rfl (op_fieldAddr (off := 0) rfl tF41_0xf) (zd rfl (op_load1 rfl tO5xf (Ent.lab (l := 8) rfl (says_cel 0))) (zd rfl (op_remN rfl rfl (by omega) (by omega)) ?_)))))))))
  refine wl_nil (st_tn (w_block (w_seq (w_seq (w_region (zd rfl (op_val (v' := .bool false) (by rw [decide_eq_false (by omega)]) (op_eql rfl rfl)) ?_))))))
  refine za rfl (wl_nil (st_tn (w_cond_f (rfl) ?_)))
  refine w_seq (w_region (zd rfl (op_val (v' := .bool false) (by rw [decide_eq_false (by omega)]) (op_eql rfl rfl)) ?_))
  refine za rfl (wl_nil (st_tn (w_cond_f (rfl) ?_)))
  refine w_region (zd rfl (op_val (v' := .bool false) (by rw [decide_eq_false (by omega)]) (op_eql rfl rfl)) ?_)
  refine za rfl (wl_nil (st_tn (w_cond_f (rfl) ?_)))
  refine w_seq (w_seq (w_region (zd rfl (op_val (v' := .bool false) (by rw [decide_eq_false (by omega)]) (op_eql rfl rfl)) ?_)))
  refine za rfl (wl_nil (st_tn (w_cond_f (rfl) ?_)))
  refine w_region (zd rfl (op_val (v' := .bool false) (by rw [decide_eq_false (by omega)]) (op_eql rfl rfl)) ?_)
  refine za rfl (wl_nil (st_tn (w_cond_f (rfl) ?_)))
  refine w_seq (w_region (zd rfl (op_val (v' := .bool true) (by rw [decide_eq_true (by omega)]) (op_eql rfl rfl)) ?_))
  refine za rfl (wl_nil (st_tn (w_cond_t (rfl) ?_)))
  refine w_seq (w_region (zd rfl (op_loadA rfl tA52xf (Ent.lab (l := 7) rfl (says_cel 0)) (Nat.le_of_ble_eq_true rfl)) (wl_op0 [11] rfl rfl rfl (op_store rfl rfl tZ52xf (by rfl) (by rfl) (by exact Nat.le_of_ble_eq_true rfl)) ?_)))
  rintro _ _ ⟨rfl, rfl⟩
  refine wl_nil (st_tn (w_seq (w_region (zd rfl (op_fieldAddr (off := 2) rfl tF52_2xf) (wl_op0 [11] rfl rfl rfl (op_store rfl rfl tZ35xf (by rfl) (by rfl) (by exact Nat.le_of_ble_eq_true rfl)) ?_)))))
  rintro _ _ ⟨rfl, rfl⟩
  refine wl_nil (st_tn (w_seq ?_))
  refine w_drawW (fun β => [⟨88, [], [], [], noW (_), false, [], []⟩, ⟨89, [], [], [], noW (_), false, [6], []⟩, ⟨90, [], [], [], noW (_), false, [], []⟩, ⟨91, [2], [], [(611, _)], noW (_), false, [], []⟩, ⟨92, [3], [], [], noW (_), false, [], []⟩, ⟨10, [0], [], [], noW (_), false, [], []⟩, ⟨138, [1], [], [(11, _)], noW (_), false, [], []⟩]) [611, 11] [1, 11] [⟨88, [], [], false, [], []⟩, ⟨89, [], [], false, [6], []⟩, ⟨90, [], [], false, [], []⟩, ⟨91, [2], [], false, [], []⟩, ⟨92, [3], [], false, [], []⟩, ⟨10, [0], [], false, [], []⟩, ⟨138, [1], [], false, [], []⟩] [[], [], [], [], [], [], []] [[], [], [], [(611, _)], [], [], [(11, _)]] tMixxf (fun _ => by rfl) (fun _ => by rfl) (by kernel_rfl) (by kernel_rfl) (by rfl) (by rfl)
      (fun β => ⟨.p rfl (by intro X; exact op_move rfl),
      ⟨.p rfl (by intro X; exact op_loadA rfl tA52xf (Ent.lab (l := 11) rfl (says_cel 0)) (Nat.le_of_ble_eq_true rfl)),
      ⟨.p rfl (by intro X; exact op_move rfl),
      ⟨.p rfl (by intro X; rintro _ _ ⟨rfl, rfl⟩; exact op_fn Try.func23 rfl rfl rfl (fn_imp (ldiscard_c (L := L) 611) (fun u ρ hu => (⟨by rw [hu.1, if_neg (by simp [hb])], by rw [hu.2, hdl]⟩ : u = .int .i64 0 ∧ ρ = [(611, lgR b d nm { L with pend := [] })])))),
      ⟨.p rfl (by intro X; rintro _ _ ⟨rfl, rfl⟩; exact op_val (v' := .bool true) (by rfl) (op_eql rfl rfl)),
      ⟨.p rfl (by intro X; rintro _ _ ⟨rfl, rfl⟩; exact op_assign rfl),
      ⟨.p rfl (by intro X; rintro _ _ ⟨rfl, rfl⟩; exact op_store rfl rfl tZ52xf (by rfl) (by rfl) (by exact Nat.le_of_ble_eq_true rfl)) (hu := by exact .inr fun _ _ h => h.1),
      trivial⟩⟩⟩⟩⟩⟩⟩)
      (fun β β' => ⟨fun _ => by rfl, ⟨fun _ => by rfl, ⟨fun _ => by rfl, ⟨fun _ => by rfl, ⟨fun _ => by rfl, ⟨fun _ => by rfl, ⟨fun _ => by rfl, trivial⟩⟩⟩⟩⟩⟩⟩) ?_
  intro β
  rintro _ _ ⟨rfl, rfl⟩ _ _ ⟨rfl, rfl⟩ _ _ ⟨rfl, rfl⟩ _ _ ⟨rfl, rfl⟩ _ _ ⟨rfl, rfl⟩ _ _ ⟨rfl, rfl⟩ _ _ ⟨rfl, rfl⟩
  refine wl_norm (e' := [(10, _), (11, _), (92, _)]) (.cons rfl (.cons rfl (.cons rfl (.nil _)))) (by dsimp only [cond_false, cond_true, List.nil_append, List.cons_append]) ?_
  refine za rfl (za rfl (wl_nil (st_tn (w_ret (st_br (st_tr (st_ret (vs := [_, _, _, _]) [601, 611, 605, 606] Try.results27 ⟨rfl, ⟨⟨_, rfl, Ent.mono (Ent.lab (l := 11) rfl (says_cel 0)) (fun _ h => run_load_agg tA52xf h (Nat.le_of_ble_eq_true rfl))⟩, ⟨rfl, ⟨rfl, trivial⟩⟩⟩⟩ rfl ?_)))))))
  refine ⟨[(601, _), (611, _), (605, _), (606, _)], rfl, ?_⟩
  exact ⟨_, ⟨a, c, none, 0, Y, rfl, hm.inx, hm.ins, .inl ⟨rfl, rfl, rfl⟩, hm.rel⟩, rfl, rfl⟩
set_option maxHeartbeats 2000000 in
set_option maxRecDepth 100000 in
theorem do_open {σ : World} {F : List Res} {b d : Nat} {nm : RdM.Bs} {L : Lg} {s : DskM.St} {P1 : PS} {P2 : PX} {v : Value} (x : OpL) (hx : 0 ≤ x.k ∧ x.k ≤ 255) (hk : x.k % 8 = 7) (hS : Sm L) (hM : MS P1 P2 v L) (hok : DskM.nameB nm = true ∧ nm.length ≤ 48) (hdn : s.down = false) (hgD : DskM.Good s) (hO : OnD nm L s) :
    FnT Try.prog σ F 27 [.pointer (some ⟨d, 0, none⟩), .pointer (some ⟨b, 0, none⟩), v, .agg (encOpL x).toArray, .string (str nm)] [(601, dkR d s), (611, lgR b d nm L), (605, poolS P1), (606, poolX P2)]
      (fun u ρ => ∃ b' v', MS P1 P2 v' (openL L) ∧ u = .tuple #[.pointer (some ⟨b', 0, none⟩), v', .bool true, .bool false] ∧ ρ = [(601, dkR d s), (611, lgR b' d nm (openL L)), (605, poolS P1), (606, poolX P2)]) := by
  refine fn_of 132 Try.func27 rfl Try.ntmps27 rfl ?_
  obtain ⟨a, c, p, cp, Y, hm⟩ := hM
  have hval := hm.val
  subst hval
  have hsz := hS.ok.sz
  refine w_seq (w_region (wl_op [] rfl rfl rfl rfl (op_box (T := 52) (l := 7) rfl) ?_))
  rintro _ _ ⟨b7, rfl, rfl⟩
  refine wl_op [] rfl rfl rfl rfl (op_box (T := 41) (l := 8) rfl) ?_
  rintro _ _ ⟨b8, rfl, rfl⟩
  refine za rfl (wl_op [] rfl rfl rfl rfl (op_alloc (l := 11) tN52xf) ?_)
  rintro _ _ ⟨b11, rfl, rfl⟩
  refine za rfl (za rfl (wl_nil (st_tn (w_seq (w_seq (w_region (zd rfl (op_fieldAddr (off := 0) rfl tF41_0xf) (zd rfl (op_load1 rfl tO5xf (Ent.lab (l := 8) rfl (says_cel 0))) (zd rfl (op_remN rfl rfl (by omega) (by omega)) ?_)))))))))
  refine wl_nil (st_tn (w_block (w_seq (w_seq (w_region (zd rfl (op_val (v' := .bool false) (by rw [decide_eq_false (by omega)]) (op_eql rfl rfl)) ?_))))))
  refine za rfl (wl_nil (st_tn (w_cond_f (rfl) ?_)))
  refine w_seq (w_region (zd rfl (op_val (v' := .bool false) (by rw [decide_eq_false (by omega)]) (op_eql rfl rfl)) ?_))
  refine za rfl (wl_nil (st_tn (w_cond_f (rfl) ?_)))
  refine w_region (zd rfl (op_val (v' := .bool false) (by rw [decide_eq_false (by omega)]) (op_eql rfl rfl)) ?_)
  refine za rfl (wl_nil (st_tn (w_cond_f (rfl) ?_)))
  refine w_seq (w_seq (w_region (zd rfl (op_val (v' := .bool false) (by rw [decide_eq_false (by omega)]) (op_eql rfl rfl)) ?_)))
  refine za rfl (wl_nil (st_tn (w_cond_f (rfl) ?_)))
  refine w_region (zd rfl (op_val (v' := .bool false) (by rw [decide_eq_false (by omega)]) (op_eql rfl rfl)) ?_)
  refine za rfl (wl_nil (st_tn (w_cond_f (rfl) ?_)))
  refine w_seq (w_region (zd rfl (op_val (v' := .bool false) (by rw [decide_eq_false (by omega)]) (op_eql rfl rfl)) ?_))
  refine za rfl (wl_nil (st_tn (w_cond_f (rfl) ?_)))
  refine w_seq (w_region (zd rfl (op_val (v' := .bool false) (by rw [decide_eq_false (by omega)]) (op_eql rfl rfl)) ?_))
  refine za rfl (wl_nil (st_tn (w_cond_f (rfl) ?_)))
  refine w_skip (st_bn (st_tn (w_seq (w_region (zm rfl (zm rfl (wl_op [601] rfl rfl rfl rfl (op_fn Try.func16 rfl rfl rfl (lopen_c (s := s) (first := L.first) (segs := L.segs) 601 711 hok hdn hgD hS.ok.seg hO.holds (by omega))) ?_)))))))
  rintro _ _ ⟨b120, rfl, rfl⟩
  refine zm rfl (zd rfl (op_extract rfl rfl) (zd rfl (op_extract rfl rfl) (za rfl (za rfl (wl_nil (st_tn (w_seq (w_region (zm rfl (zd rfl (op_loadA rfl tA52xf (Ent.lab (l := 7) rfl (says_cel 0)) (Nat.le_of_ble_eq_true rfl)) (zd rfl (op_fn Try.func39 rfl rfl rfl mopen_any) (zm rfl (zd rfl (op_val (v' := .bool true) (by rfl) (op_eql rfl rfl)) ?_)))))))))))))
  refine zm rfl (wl_wanted_det rfl rfl rfl rfl rfl rfl rfl (op_move rfl) (wl_wanted_det rfl rfl rfl rfl rfl rfl rfl (op_val (v' := .bool true) (by rfl) (op_nePtr rfl Try.underlying23)) ?_))
  refine zd rfl (op_pick_t rfl rfl) (za rfl (wl_op0 [11] rfl rfl rfl (op_store rfl rfl tZ52xf (by rfl) (by rfl) (by exact Nat.le_of_ble_eq_true rfl)) ?_))
  rintro _ _ ⟨rfl, rfl⟩
  refine za rfl (za rfl (wl_nil (st_tn (w_ret (st_ret (vs := [_, _, _, _]) [601, 711, 605, 606] Try.results27 ⟨rfl, ⟨⟨_, rfl, Ent.mono (Ent.lab (l := 11) rfl (says_cel 0)) (fun _ h => run_load_agg tA52xf h (Nat.le_of_ble_eq_true rfl))⟩, ⟨rfl, ⟨rfl, trivial⟩⟩⟩⟩ rfl ?_)))))
  refine ⟨[(601, _), (611, _), (605, _), (606, _)], rfl, ?_⟩
  exact ⟨_, _, ⟨a, c, none, 0, Y, rfl, hm.inx, hm.ins, .inl ⟨rfl, rfl, rfl⟩, hm.rel⟩, rfl, rfl⟩
theorem noteX_mem {Y : List SegV} {o : Bool} {pend : List RdM.Bs} {q : Option Addr} {cq : Nat} {x : SegV} (h : x ∈ noteX Y o pend q cq) : x ∈ Y ∨ (x.q = q ∧ x.cq = cq ∧ x.recs = recsN Y o pend) := by
  rcases List.eq_nil_or_concat Y with h0 | ⟨S', y, rfl⟩
  · subst h0
    simp [noteX] at h; subst h; exact .inr ⟨rfl, rfl, rfl⟩
  · rw [List.concat_eq_append] at h ⊢
    unfold noteX at h
    unfold recsN
    rw [List.getLast?_concat] at h ⊢
    dsimp only at h ⊢
    split at h
    · rename_i hy
      rw [if_pos hy]
      rcases List.mem_append.1 h with h | h
      · exact .inl h
      · rw [List.mem_singleton] at h; subst h; exact .inr ⟨rfl, rfl, rfl⟩
    · rename_i hy
      rw [if_neg hy]
      rw [List.dropLast_concat] at h
      rcases List.mem_append.1 h with h | h
      · exact .inl (List.mem_append_left _ h)
      · rw [List.mem_singleton] at h; subst h; exact .inr ⟨rfl, rfl, rfl⟩
theorem yrel_note {Y : List SegV} {S : List Sg} {o : Bool} {pend : List RdM.Bs} {q : Option Addr} {cq : Nat} (h : Yrel Y S) : Yrel (noteX Y o pend q cq) (noteS S (nextN S o) pend) := by
  rcases List.eq_nil_or_concat Y with h0 | ⟨Y', y, rfl⟩
  · subst h0
    have hS : S = [] := List.eq_nil_of_length_eq_zero (by rw [← h.len]; rfl)
    subst hS; simp [Yrel, noteX, noteS, nextN, Sg.recs]
  · rcases List.eq_nil_or_concat S with h0 | ⟨S', s, rfl⟩
    · subst h0; have := h.len; simp at this
    · rw [List.concat_eq_append, List.concat_eq_append] at *
      unfold Yrel at h
      rw [List.map_append, List.map_append] at h
      obtain ⟨h1, h2⟩ := List.append_inj' h rfl
      simp only [List.map_cons, List.map_nil, List.cons.injEq, Prod.mk.injEq, and_true] at h2
      obtain ⟨e1, e2, e3⟩ := h2
      by_cases hc : o = true ∨ 8 ≤ s.gs.length
      · have hn : nextN (S' ++ [s]) o = s.num + 1 := by unfold nextN; rw [List.getLast?_concat]; exact if_pos hc
        have hx : noteX (Y' ++ [y]) o pend q cq = Y' ++ [y] ++ [⟨y.num + 1, 1, q, cq, pend⟩] := by
          unfold noteX; rw [List.getLast?_concat]; dsimp only; rw [e2, if_pos hc]
        rw [hn, hx, noteS_new (fun z hz => by rw [List.getLast?_concat] at hz; simp at hz; subst hz; omega)]
        unfold Yrel
        rw [List.map_append, List.map_append, List.map_append, List.map_append, h1]
        simp [e1, e2, e3, Sg.recs]
      · have hn : nextN (S' ++ [s]) o = s.num := by unfold nextN; rw [List.getLast?_concat]; exact if_neg hc
        have hx : noteX (Y' ++ [y]) o pend q cq = Y' ++ [⟨y.num, y.grp + 1, q, cq, y.recs ++ pend⟩] := by
          unfold noteX; rw [List.getLast?_concat]; dsimp only; rw [e2, if_neg hc, List.dropLast_concat]
        obtain ⟨sn, sg⟩ := s
        rw [hn, hx, noteS_old]
        unfold Yrel
        rw [List.map_append, List.map_append, h1]
        simp [e1, e2, e3, Sg.recs]
end Go.Proofs.Ytcbigmgakdanjaa
namespace Go.Proofs.Ytcbigmgakdanjaa
open Go Go.SL Go.RowKit Go.RdM Go.WalM
set_option linter.unusedVariables false
set_option linter.unusedSimpArgs false
theorem tA41xg : aggB Try.prog 41 3 = true := by kernel_rfl
theorem tA52xg : aggB Try.prog 52 4 = true := by kernel_rfl
theorem tF41_0xg : fieldB Try.prog 41 0 0 = true := by kernel_rfl
theorem tF52_0xg : fieldB Try.prog 52 0 0 = true := by kernel_rfl
theorem tMixxg : Try.prog.follows .mixedOrders = true := by kernel_rfl
theorem tN52xg : (Try.prog.info? 52).bind (·.zero) = some (Value.agg #[Value.slice none 0 0, Value.int .i64 0, Value.slice none 0 0, Value.bool false]) := by kernel_rfl
theorem tO5xg : oneB Try.prog 5 = true := by kernel_rfl
theorem tO50xg : oneB Try.prog 50 = true := by kernel_rfl
theorem tS50xg : sliceB Try.prog 50 96 3 = true := by kernel_rfl
theorem tZ52xg : (Try.prog.info? 52).map (·.size) = some 4 := by kernel_rfl
theorem commitL_nil {L : Lg} (h : L.pend = []) : commitL L = L := by unfold commitL; rw [if_pos h]
theorem allR_commit (L : Lg) : allR (commitL L).segs = allR L.segs ++ L.pend := by
  by_cases h : L.pend = []
  · rw [commitL_nil h, h, List.append_nil]
  · rw [lastN_commit h]; exact noteS_all _ _ _
theorem first_commit (L : Lg) : (commitL L).first = L.first := by unfold commitL; split <;> rfl
theorem ms_commit {P1 : PS} {P2 : PX} {v : Value} {L : Lg} {a p : Option Addr} {c cp : Nat} {Y : List SegV} (hm : MSt P1 P2 v L a c p cp Y) (hp : L.pend ≠ []) (a' q : Option Addr) (c' cq : Nat) :
    MSt ((.slice q (recsN Y L.fresh L.pend).length cq, recsN Y L.fresh L.pend) :: P1) ((.slice a' (noteX Y L.fresh L.pend q cq).length c', noteX Y L.fresh L.pend q cq) :: P2) (.agg #[.slice a' (noteX Y L.fresh L.pend q cq).length c', .int .i64 L.first, .slice none 0 0, .bool false]) (commitL L) a' c' none 0 (noteX Y L.fresh L.pend q cq) := by
  rw [lastN_commit hp]
  refine ⟨rfl, .base List.mem_cons_self, fun x hx => ?_, .inl ⟨rfl, rfl, rfl⟩, yrel_note hm.rel⟩
  rcases noteX_mem hx with h | ⟨h1, h2, h3⟩
  · exact (hm.ins x h).mono (List.subset_cons_self _ _)
  · refine .inr ?_
    rw [h1, h2, h3]; exact List.mem_cons_self
set_option maxHeartbeats 4000000 in
set_option maxRecDepth 100000 in
theorem do_com {σ : World} {F : List Res} {b d : Nat} {nm : RdM.Bs} {L L' : Lg} {s s' : DskM.St} {P1 : PS} {P2 : PX} {v : Value} {n e : Int} (x : OpL) (hx : 0 ≤ x.k ∧ x.k ≤ 255) (hk : x.k % 8 = 3 ∨ x.k % 8 = 4) (hS : Sm L) (hM : MS P1 P2 v L) (hc : comO nm L s = ((n, e), L', s')) (he : e = 27 ∨ e = 0 ∧ n = lastN (commitL L)) (hg : DskM.Good s) (hnm : nm.length ≤ 48) (hnx : nextN L.segs L.fresh ≤ 999999) :
    FnT Try.prog σ F 27 [.pointer (some ⟨d, 0, none⟩), .pointer (some ⟨b, 0, none⟩), v, .agg (encOpL x).toArray, .string (str nm)] [(601, dkR d s), (611, lgR b d nm L), (605, poolS P1), (606, poolX P2)]
      (fun u ρ => ∃ v' P1' P2', P1 ⊆ P1' ∧ P2 ⊆ P2' ∧ MS P1' P2' v' (commitL L) ∧ u = .tuple #[.pointer (some ⟨b, 0, none⟩), v', .bool true, .bool (decide (e = 27))] ∧ ρ = [(601, dkR d s'), (611, lgR b d nm L'), (605, poolS P1'), (606, poolX P2')]) := by
  refine fn_of 132 Try.func27 rfl Try.ntmps27 rfl ?_
  obtain ⟨a, c, p, cp, Y, hm⟩ := hM
  have hval := hm.val
  subst hval
  have hb := hS.br
  have hpe := hS.pe
  have hal := hS.all
  have hfs := hS.fst
  have hsg := hS.segl
  have hYl := hm.rel.len
  have hrec := congrArg List.length hm.rel.recs
  have hpos := hS.ok.seg.pos
  have hac := allR_commit L
  have hfc := first_commit L
  have hacl := congrArg List.length hac
  rw [List.length_append] at hacl
  refine w_seq (w_region (wl_op [] rfl rfl rfl rfl (op_box (T := 52) (l := 7) rfl) ?_))
  rintro _ _ ⟨b7, rfl, rfl⟩
  refine wl_op [] rfl rfl rfl rfl (op_box (T := 41) (l := 8) rfl) ?_
  rintro _ _ ⟨b8, rfl, rfl⟩
  refine za rfl (wl_op [] rfl rfl rfl rfl (op_alloc (l := 11) tN52xg) ?_)
  rintro _ _ ⟨b11, rfl, rfl⟩
  refine za rfl (za rfl (wl_nil (st_tn (w_seq (w_seq (w_region (zd rfl (op_fieldAddr (off := 0) rfl tF41_0xg) (zd rfl (op_load1 rfl tO5xg (Ent.lab (l := 8) rfl (says_cel 0))) (zd rfl (op_remN rfl rfl (by omega) (by omega)) ?_)))))))))
  refine wl_nil (st_tn (w_block (w_seq (w_seq (w_region (zd rfl (op_val (v' := .bool false) (by rw [decide_eq_false (by omega)]) (op_eql rfl rfl)) ?_))))))
  refine za rfl (wl_nil (st_tn (w_cond_f (rfl) ?_)))
  refine w_seq (w_region (zd rfl (op_val (v' := .bool false) (by rw [decide_eq_false (by omega)]) (op_eql rfl rfl)) ?_))
  refine za rfl (wl_nil (st_tn (w_cond_f (rfl) ?_)))
  refine w_region (zd rfl (op_val (v' := .bool false) (by rw [decide_eq_false (by omega)]) (op_eql rfl rfl)) ?_)
  refine za rfl (wl_nil (st_tn (w_cond_f (rfl) ?_)))
  refine w_seq (w_seq ?_)
  by_cases h3 : x.k % 8 = 3
  · -- h3+
    refine w_region (zd rfl (op_val (v' := .bool true) (by rw [decide_eq_true (by omega)]) (op_eql rfl rfl)) ?_)
    refine za rfl (wl_nil (st_tn (w_cond_t (rfl) ?_)))
    refine w_skip (st_tn (w_cond_t (rfl) ?_))
    refine w_seq ?_
    by_cases hpd : L.pend.length = 0
    · -- hpd+
      have hp0 : L.pend = [] := List.eq_nil_of_length_eq_zero hpd
      have hcl := commitL_nil hp0
      refine w_region (zd rfl (op_loadA rfl tA52xg (Ent.lab (l := 7) rfl (says_cel 0)) (Nat.le_of_ble_eq_true rfl)) (zd rfl (op_fn Try.func56 rfl rfl rfl (mcommit_nil (hm.slp rfl (by omega)) hpd)) ?_))
      refine wl_op0 [11] rfl rfl rfl (op_store rfl rfl tZ52xg (by rfl) (by rfl) (by exact Nat.le_of_ble_eq_true rfl)) ?_
      rintro _ _ ⟨rfl, rfl⟩
      refine wl_nil (st_tn (w_seq (w_region (zm rfl (wl_op [601, 611] rfl rfl rfl rfl (op_fn Try.func15 rfl rfl rfl (commit_to 601 611 hc hS.ok hg hnm hnx)) ?_)))))
      rintro _ _ ⟨rfl, rfl⟩
      refine zm rfl (zd rfl (op_extract rfl rfl) (zd rfl (op_extract rfl rfl) (za rfl (za rfl (wl_nil (st_tn (w_seq ?_)))))))
      by_cases h27 : e = 27
      · -- h27+
        refine w_drawW (fun β => [⟨68, [], [], [], noW (_), false, [], []⟩, ⟨69, [], [], [], noW (_), false, [17], []⟩, ⟨70, [], [], [], noW (_), false, [], []⟩, ⟨71, [2], [], [], noW (_), false, [], []⟩, ⟨72, [3], [], [], noW (_), false, [], []⟩, ⟨73, [], [], [], noW (Det undef), false, [], []⟩, ⟨74, [], [], [], noW (Det undef), false, [], []⟩, ⟨75, [], [], [], noW (Det undef), false, [], []⟩, ⟨76, [], [], [], noW (Det undef), false, [], []⟩, ⟨77, [], [], [], noW (Det undef), false, [], []⟩, ⟨78, [], [], [], noW (Det undef), false, [], []⟩, ⟨79, [], [], [], noW (Det undef), false, [], []⟩, ⟨80, [], [], [], noW (Det undef), false, [], []⟩, ⟨81, [4, 12], [], [], noW (_), false, [], []⟩, ⟨82, [], [], [], noW (_), false, [], []⟩, ⟨83, [14], [], [], noW (_), false, [], []⟩, ⟨10, [0], [], [], noW (_), false, [], []⟩, ⟨149, [1], [], [(11, _)], noW (_), false, [], []⟩, ⟨12, [13], [], [], noW (_), false, [], []⟩]) [11] [1, 11, 17, 16] [⟨68, [], [], false, [], []⟩, ⟨69, [], [], false, [17], []⟩, ⟨70, [], [], false, [], []⟩, ⟨71, [2], [], false, [], []⟩, ⟨72, [3], [], false, [], []⟩, ⟨73, [], [], false, [], []⟩, ⟨74, [], [], false, [], []⟩, ⟨75, [], [], false, [], []⟩, ⟨76, [], [], false, [], []⟩, ⟨77, [], [], false, [], []⟩, ⟨78, [], [], false, [], []⟩, ⟨79, [], [], false, [], []⟩, ⟨80, [], [], false, [], []⟩, ⟨81, [4, 12], [], false, [], []⟩, ⟨82, [], [], false, [], []⟩, ⟨83, [14], [], false, [], []⟩, ⟨10, [0], [], false, [], []⟩, ⟨149, [1], [], false, [], []⟩, ⟨12, [13], [], false, [], []⟩] [[], [], [], [], [], [], [], [], [], [], [], [], [], [], [], [], [], [], []] [[], [], [], [], [], [], [], [], [], [], [], [], [], [], [], [], [], [(11, _)], []] tMixxg (fun _ => by rfl) (fun _ => by rfl) (by kernel_rfl) (by kernel_rfl) (by rfl) (by rfl)
            (fun β => ⟨.p rfl (by intro X; exact op_move rfl),
            ⟨.p rfl (by intro X; exact op_loadA rfl tA52xg (Ent.lab (l := 11) rfl (says_cel 0)) (Nat.le_of_ble_eq_true rfl)),
            ⟨.p rfl (by intro X; exact op_move rfl),
            ⟨.p rfl (by intro X; rintro _ _ ⟨rfl, rfl⟩; exact op_val (v' := .bool true) (by rw [decide_eq_true h27]) (op_eql rfl rfl)),
            ⟨.p rfl (by intro X; rintro _ _ ⟨rfl, rfl⟩; exact op_move rfl),
            ⟨.u rfl rfl rfl (by rintro _ _ ⟨rfl, rfl⟩; exact congrArg (offB false) (by rfl : _ = Value.bool true)) ⟨rfl, rfl⟩ rfl rfl,
            ⟨.u rfl rfl rfl (by rintro _ _ ⟨rfl, rfl⟩; exact congrArg (offB false) (by rfl : _ = Value.bool true)) ⟨rfl, rfl⟩ rfl rfl,
            ⟨.u rfl rfl rfl (by rintro _ _ ⟨rfl, rfl⟩; exact congrArg (offB false) (by rfl : _ = Value.bool true)) ⟨rfl, rfl⟩ rfl rfl,
            ⟨.u rfl rfl rfl (by rintro _ _ ⟨rfl, rfl⟩; rfl) ⟨rfl, rfl⟩ rfl rfl,
            ⟨.u rfl rfl rfl (by rintro _ _ ⟨rfl, rfl⟩; rfl) ⟨rfl, rfl⟩ rfl rfl,
            ⟨.u rfl rfl rfl (by rintro _ _ ⟨rfl, rfl⟩; rfl) ⟨rfl, rfl⟩ rfl rfl,
            ⟨.u rfl rfl rfl (by rintro _ _ ⟨rfl, rfl⟩; rfl) ⟨rfl, rfl⟩ rfl rfl,
            ⟨.u rfl rfl rfl (by rintro _ _ ⟨rfl, rfl⟩; exact congrArg (offB false) (by rfl : _ = Value.bool true)) ⟨rfl, rfl⟩ rfl rfl,
            ⟨.p rfl (by intro X; rintro _ _ ⟨rfl, rfl⟩ _ _ ⟨rfl, rfl⟩; exact op_pick_t rfl rfl),
            ⟨.p rfl (by intro X; exact op_move rfl),
            ⟨.p rfl (by intro X; rintro _ _ ⟨rfl, rfl⟩; exact op_eql rfl rfl),
            ⟨.p rfl (by intro X; rintro _ _ ⟨rfl, rfl⟩; exact op_assign rfl),
            ⟨.p rfl (by intro X; rintro _ _ ⟨rfl, rfl⟩; exact op_store rfl rfl tZ52xg (by rfl) (by rfl) (by exact Nat.le_of_ble_eq_true rfl)) (hu := by exact .inr fun _ _ h => h.1),
            ⟨.p rfl (by intro X; rintro _ _ ⟨rfl, rfl⟩; exact op_assign rfl),
            trivial⟩⟩⟩⟩⟩⟩⟩⟩⟩⟩⟩⟩⟩⟩⟩⟩⟩⟩⟩)
            (fun β β' => ⟨fun _ => by rfl, ⟨fun _ => by rfl, ⟨fun _ => by rfl, ⟨fun _ => by rfl, ⟨fun _ => by rfl, ⟨fun _ => by rfl, ⟨fun _ => by rfl, ⟨fun _ => by rfl, ⟨fun _ => by rfl, ⟨fun _ => by rfl, ⟨fun _ => by rfl, ⟨fun _ => by rfl, ⟨fun _ => by rfl, ⟨fun _ => by rfl, ⟨fun _ => by rfl, ⟨fun _ => by rfl, ⟨fun _ => by rfl, ⟨fun _ => by rfl, ⟨fun _ => by rfl, trivial⟩⟩⟩⟩⟩⟩⟩⟩⟩⟩⟩⟩⟩⟩⟩⟩⟩⟩⟩) ?_
        intro β
        rintro _ _ ⟨rfl, rfl⟩ _ _ ⟨rfl, rfl⟩ _ _ ⟨rfl, rfl⟩ _ _ ⟨rfl, rfl⟩ _ _ ⟨rfl, rfl⟩ _ _ ⟨rfl, rfl⟩ _ _ ⟨rfl, rfl⟩ _ _ ⟨rfl, rfl⟩ _ _ ⟨rfl, rfl⟩ _ _ ⟨rfl, rfl⟩ _ _ ⟨rfl, rfl⟩ _ _ ⟨rfl, rfl⟩ _ _ ⟨rfl, rfl⟩ _ _ ⟨rfl, rfl⟩ _ _ ⟨rfl, rfl⟩ _ _ ⟨rfl, rfl⟩ _ _ ⟨rfl, rfl⟩ _ _ ⟨rfl, rfl⟩ _ _ ⟨rfl, rfl⟩
        refine wl_norm (e' := [(10, _), (11, _), (12, _), (83, _)]) (.cons rfl (.cons rfl (.cons rfl (.cons rfl (.nil _))))) (by dsimp only [cond_false, cond_true, List.nil_append, List.cons_append]) ?_
        refine za rfl (wl_nil (st_tn (w_ret (st_br (st_tr (st_ret (vs := [_, _, _, _]) [601, 611, 605, 606] Try.results27 ⟨rfl, ⟨⟨_, rfl, Ent.mono (Ent.lab (l := 11) rfl (says_cel 0)) (fun _ h => run_load_agg tA52xg h (Nat.le_of_ble_eq_true rfl))⟩, ⟨rfl, ⟨rfl, trivial⟩⟩⟩⟩ rfl ?_))))))
        refine ⟨[(601, _), (611, _), (605, _), (606, _)], rfl, ?_⟩
        rw [hcl]; exact ⟨_, P1, P2, fun _ h => h, fun _ h => h, ⟨a, c, p, cp, Y, hm⟩, rfl, rfl⟩
      · -- h27-
        obtain ⟨he0, hnl⟩ : e = 0 ∧ n = lastN (commitL L) := he.resolve_left h27
        have hln : (n : Int) = L.first + ((allR L.segs).length + L.pend.length) - 1 := by rw [hnl]; unfold lastN; rw [hfc, hacl]; omega
        refine w_drawW (fun β => [⟨68, [], [], [], noW (_), false, [], []⟩, ⟨69, [], [], [], noW (_), false, [17], []⟩, ⟨70, [], [], [], noW (_), false, [], []⟩, ⟨71, [2], [], [], noW (_), false, [], []⟩, ⟨72, [3], [], [], noW (_), false, [], []⟩, ⟨73, [], [], [], noW (_), false, [], []⟩, ⟨74, [5], [], [], noW (_), false, [], []⟩, ⟨75, [6], [], [], noW (_), false, [], []⟩, ⟨76, [], [], [], noW (_), false, [], []⟩, ⟨77, [], [], [], noW (_), false, [17], []⟩, ⟨78, [9], [], [], noW (_), false, [], []⟩, ⟨79, [8, 10], [], [], noW (_), false, [], []⟩, ⟨80, [7, 11], [], [], noW (_), false, [], []⟩, ⟨81, [4, 12], [], [], noW (_), false, [], []⟩, ⟨82, [], [], [], noW (_), false, [], []⟩, ⟨83, [14], [], [], noW (_), false, [], []⟩, ⟨10, [0], [], [], noW (_), false, [], []⟩, ⟨149, [1], [], [(11, _)], noW (_), false, [], []⟩, ⟨12, [13], [], [], noW (_), false, [], []⟩]) [11] [1, 11, 17, 16] [⟨68, [], [], false, [], []⟩, ⟨69, [], [], false, [17], []⟩, ⟨70, [], [], false, [], []⟩, ⟨71, [2], [], false, [], []⟩, ⟨72, [3], [], false, [], []⟩, ⟨73, [], [], false, [], []⟩, ⟨74, [5], [], false, [], []⟩, ⟨75, [6], [], false, [], []⟩, ⟨76, [], [], false, [], []⟩, ⟨77, [], [], false, [17], []⟩, ⟨78, [9], [], false, [], []⟩, ⟨79, [8, 10], [], false, [], []⟩, ⟨80, [7, 11], [], false, [], []⟩, ⟨81, [4, 12], [], false, [], []⟩, ⟨82, [], [], false, [], []⟩, ⟨83, [14], [], false, [], []⟩, ⟨10, [0], [], false, [], []⟩, ⟨149, [1], [], false, [], []⟩, ⟨12, [13], [], false, [], []⟩] [[], [], [], [], [], [], [], [], [], [], [], [], [], [], [], [], [], [], []] [[], [], [], [], [], [], [], [], [], [], [], [], [], [], [], [], [], [(11, _)], []] tMixxg (fun _ => by rfl) (fun _ => by rfl) (by kernel_rfl) (by kernel_rfl) (by rfl) (by rfl)
            (fun β => ⟨.p rfl (by intro X; exact op_move rfl),
            ⟨.p rfl (by intro X; exact op_loadA rfl tA52xg (Ent.lab (l := 11) rfl (says_cel 0)) (Nat.le_of_ble_eq_true rfl)),
            ⟨.p rfl (by intro X; exact op_move rfl),
            ⟨.p rfl (by intro X; rintro _ _ ⟨rfl, rfl⟩; exact op_val (v' := .bool false) (by rw [decide_eq_false h27]) (op_eql rfl rfl)),
            ⟨.p rfl (by intro X; rintro _ _ ⟨rfl, rfl⟩; exact op_move rfl),
            ⟨.w rfl rfl rfl (by rintro _ _ ⟨rfl, rfl⟩; rfl) (by intro X; exact op_move rfl),
            ⟨.w rfl rfl rfl (by rintro _ _ ⟨rfl, rfl⟩; rfl) (by intro X; rintro _ _ ⟨rfl, rfl⟩; exact op_val (v' := .bool true) (by rw [decide_eq_true he0]) (op_eql rfl rfl)),
            ⟨.w rfl rfl rfl (by rintro _ _ ⟨rfl, rfl⟩; rfl) (by intro X; rintro _ _ ⟨rfl, rfl⟩; exact op_move rfl),
            ⟨.w rfl rfl rfl (by rintro _ _ ⟨rfl, rfl⟩; rfl) (by intro X; exact op_move rfl),
            ⟨.w rfl rfl rfl (by rintro _ _ ⟨rfl, rfl⟩; rfl) (by intro X; exact op_loadA rfl tA52xg (Ent.lab (l := 11) rfl (says_cel 0)) (Nat.le_of_ble_eq_true rfl)),
            ⟨.w rfl rfl rfl (by rintro _ _ ⟨rfl, rfl⟩; rfl) (by intro X; rintro _ _ ⟨rfl, rfl⟩; exact op_fn Try.func29 rfl rfl rfl (mlast_any (hm.slx rfl (by omega)) (hm.slr rfl (by omega)) (by omega) (by omega))),
            ⟨.w rfl rfl rfl (by rintro _ _ ⟨rfl, rfl⟩; rfl) (by intro X; rintro _ _ ⟨rfl, rfl⟩ _ _ ⟨rfl, rfl⟩; exact op_val (v' := .bool true) (by rw [decide_eq_true (by omega)]) (op_eql rfl rfl)),
            ⟨.w rfl rfl rfl (by rintro _ _ ⟨rfl, rfl⟩; rfl) (by intro X; rintro _ _ ⟨rfl, rfl⟩ _ _ ⟨rfl, rfl⟩; exact op_pick_t rfl rfl),
            ⟨.p rfl (by intro X; rintro _ _ ⟨rfl, rfl⟩ _ _ ⟨rfl, rfl⟩; exact op_pick_f rfl rfl),
            ⟨.p rfl (by intro X; exact op_move rfl),
            ⟨.p rfl (by intro X; rintro _ _ ⟨rfl, rfl⟩; exact op_eql rfl rfl),
            ⟨.p rfl (by intro X; rintro _ _ ⟨rfl, rfl⟩; exact op_assign rfl),
            ⟨.p rfl (by intro X; rintro _ _ ⟨rfl, rfl⟩; exact op_store rfl rfl tZ52xg (by rfl) (by rfl) (by exact Nat.le_of_ble_eq_true rfl)) (hu := by exact .inr fun _ _ h => h.1),
            ⟨.p rfl (by intro X; rintro _ _ ⟨rfl, rfl⟩; exact op_assign rfl),
            trivial⟩⟩⟩⟩⟩⟩⟩⟩⟩⟩⟩⟩⟩⟩⟩⟩⟩⟩⟩)
            (fun β β' => ⟨fun _ => by rfl, ⟨fun _ => by rfl, ⟨fun _ => by rfl, ⟨fun _ => by rfl, ⟨fun _ => by rfl, ⟨fun _ => by rfl, ⟨fun _ => by rfl, ⟨fun _ => by rfl, ⟨fun _ => by rfl, ⟨fun _ => by rfl, ⟨fun _ => by rfl, ⟨fun _ => by rfl, ⟨fun _ => by rfl, ⟨fun _ => by rfl, ⟨fun _ => by rfl, ⟨fun _ => by rfl, ⟨fun _ => by rfl, ⟨fun _ => by rfl, ⟨fun _ => by rfl, trivial⟩⟩⟩⟩⟩⟩⟩⟩⟩⟩⟩⟩⟩⟩⟩⟩⟩⟩⟩) ?_
        intro β
        rintro _ _ ⟨rfl, rfl⟩ _ _ ⟨rfl, rfl⟩ _ _ ⟨rfl, rfl⟩ _ _ ⟨rfl, rfl⟩ _ _ ⟨rfl, rfl⟩ _ _ ⟨rfl, rfl⟩ _ _ ⟨rfl, rfl⟩ _ _ ⟨rfl, rfl⟩ _ _ ⟨rfl, rfl⟩ _ _ ⟨rfl, rfl⟩ _ _ ⟨rfl, rfl⟩ _ _ ⟨rfl, rfl⟩ _ _ ⟨rfl, rfl⟩ _ _ ⟨rfl, rfl⟩ _ _ ⟨rfl, rfl⟩ _ _ ⟨rfl, rfl⟩ _ _ ⟨rfl, rfl⟩ _ _ ⟨rfl, rfl⟩ _ _ ⟨rfl, rfl⟩
        refine wl_norm (e' := [(10, _), (11, _), (12, _), (83, _)]) (.cons rfl (.cons rfl (.cons rfl (.cons rfl (.nil _))))) (by dsimp only [cond_false, cond_true, List.nil_append, List.cons_append]) ?_
        refine za rfl (wl_nil (st_tn (w_ret (st_br (st_tr (st_ret (vs := [_, _, _, _]) [601, 611, 605, 606] Try.results27 ⟨rfl, ⟨⟨_, rfl, Ent.mono (Ent.lab (l := 11) rfl (says_cel 0)) (fun _ h => run_load_agg tA52xg h (Nat.le_of_ble_eq_true rfl))⟩, ⟨rfl, ⟨rfl, trivial⟩⟩⟩⟩ rfl ?_))))))
        refine ⟨[(601, _), (611, _), (605, _), (606, _)], rfl, ?_⟩
        rw [hcl]; exact ⟨_, P1, P2, fun _ h => h, fun _ h => h, ⟨a, c, p, cp, Y, hm⟩, rfl, rfl⟩
    · -- hpd-
      have hp0 : L.pend ≠ [] := fun h => hpd (by rw [h]; rfl)
      refine w_region (zd rfl (op_loadA rfl tA52xg (Ent.lab (l := 7) rfl (says_cel 0)) (Nat.le_of_ble_eq_true rfl)) (wl_op [] rfl rfl rfl rfl (op_fn Try.func56 rfl rfl rfl (mcommit_go 162 163 (hm.slx rfl (by omega)) (hm.slr rfl (by omega)) (hm.slp rfl (by omega)) (by omega) (by omega) (by omega) (fun y hy => by obtain ⟨z, hz, e1, e2, e3⟩ := hm.rel.mem hy; have h4 := hS.ok.seg.num z hz; have h5 := gs_le (hS.ok.seg.grp z hz); have h6 := recs_le hz; rw [e1, e2, e3]; omega))) ?_))
      rintro _ _ ⟨a62, c62, q62, cq62, rfl, rfl⟩
      refine wl_op0 [11] rfl rfl rfl (op_store rfl rfl tZ52xg (by rfl) (by rfl) (by exact Nat.le_of_ble_eq_true rfl)) ?_
      rintro _ _ ⟨rfl, rfl⟩
      refine wl_nil (st_tn (w_seq (w_star 163 605 605 rfl ?_)))
      refine w_wk 605 (poolS ((.slice q62 (recsN Y L.fresh L.pend).length cq62, recsN Y L.fresh L.pend) :: P1)) rfl (fun _ h => h) ?_
      refine w_star 162 606 606 rfl ?_
      refine w_wk 606 (poolX ((.slice a62 (noteX Y L.fresh L.pend q62 cq62).length c62, noteX Y L.fresh L.pend q62 cq62) :: P2)) rfl (fun _ h => h) ?_
      have hm2 := ms_commit hm hp0 a62 q62 c62 cq62
      have hYl2 := hm2.rel.len
      have hseg2 := segs_le_all (segs := (commitL L).segs) (by rw [lastN_commit hp0]; exact (oks_note hS.ok.seg rfl ⟨hp0, hS.ok.pl, hS.ok.pc⟩ hnx).grp)
      have hrec2 := congrArg List.length hm2.rel.recs
      refine w_region (zm rfl (wl_op [601, 611] rfl rfl rfl rfl (op_fn Try.func15 rfl rfl rfl (commit_to 601 611 hc hS.ok hg hnm hnx)) ?_))
      rintro _ _ ⟨rfl, rfl⟩
      refine zm rfl (zd rfl (op_extract rfl rfl) (zd rfl (op_extract rfl rfl) (za rfl (za rfl (wl_nil (st_tn (w_seq ?_)))))))
      by_cases h27 : e = 27
      · -- h27+
        refine w_drawW (fun β => [⟨68, [], [], [], noW (_), false, [], []⟩, ⟨69, [], [], [], noW (_), false, [17], []⟩, ⟨70, [], [], [], noW (_), false, [], []⟩, ⟨71, [2], [], [], noW (_), false, [], []⟩, ⟨72, [3], [], [], noW (_), false, [], []⟩, ⟨73, [], [], [], noW (Det undef), false, [], []⟩, ⟨74, [], [], [], noW (Det undef), false, [], []⟩, ⟨75, [], [], [], noW (Det undef), false, [], []⟩, ⟨76, [], [], [], noW (Det undef), false, [], []⟩, ⟨77, [], [], [], noW (Det undef), false, [], []⟩, ⟨78, [], [], [], noW (Det undef), false, [], []⟩, ⟨79, [], [], [], noW (Det undef), false, [], []⟩, ⟨80, [], [], [], noW (Det undef), false, [], []⟩, ⟨81, [4, 12], [], [], noW (_), false, [], []⟩, ⟨82, [], [], [], noW (_), false, [], []⟩, ⟨83, [14], [], [], noW (_), false, [], []⟩, ⟨10, [0], [], [], noW (_), false, [], []⟩, ⟨149, [1], [], [(11, _)], noW (_), false, [], []⟩, ⟨12, [13], [], [], noW (_), false, [], []⟩]) [11] [1, 11, 17, 16] [⟨68, [], [], false, [], []⟩, ⟨69, [], [], false, [17], []⟩, ⟨70, [], [], false, [], []⟩, ⟨71, [2], [], false, [], []⟩, ⟨72, [3], [], false, [], []⟩, ⟨73, [], [], false, [], []⟩, ⟨74, [], [], false, [], []⟩, ⟨75, [], [], false, [], []⟩, ⟨76, [], [], false, [], []⟩, ⟨77, [], [], false, [], []⟩, ⟨78, [], [], false, [], []⟩, ⟨79, [], [], false, [], []⟩, ⟨80, [], [], false, [], []⟩, ⟨81, [4, 12], [], false, [], []⟩, ⟨82, [], [], false, [], []⟩, ⟨83, [14], [], false, [], []⟩, ⟨10, [0], [], false, [], []⟩, ⟨149, [1], [], false, [], []⟩, ⟨12, [13], [], false, [], []⟩] [[], [], [], [], [], [], [], [], [], [], [], [], [], [], [], [], [], [], []] [[], [], [], [], [], [], [], [], [], [], [], [], [], [], [], [], [], [(11, _)], []] tMixxg (fun _ => by rfl) (fun _ => by rfl) (by kernel_rfl) (by kernel_rfl) (by rfl) (by rfl)
            (fun β => ⟨.p rfl (by intro X; exact op_move rfl),
            ⟨.p rfl (by intro X; exact op_loadA rfl tA52xg (Ent.lab (l := 11) rfl (says_cel 0)) (Nat.le_of_ble_eq_true rfl)),
            ⟨.p rfl (by intro X; exact op_move rfl),
            ⟨.p rfl (by intro X; rintro _ _ ⟨rfl, rfl⟩; exact op_val (v' := .bool true) (by rw [decide_eq_true h27]) (op_eql rfl rfl)),
            ⟨.p rfl (by intro X; rintro _ _ ⟨rfl, rfl⟩; exact op_move rfl),
            ⟨.u rfl rfl rfl (by rintro _ _ ⟨rfl, rfl⟩; exact congrArg (offB false) (by rfl : _ = Value.bool true)) ⟨rfl, rfl⟩ rfl rfl,
            ⟨.u rfl rfl rfl (by rintro _ _ ⟨rfl, rfl⟩; exact congrArg (offB false) (by rfl : _ = Value.bool true)) ⟨rfl, rfl⟩ rfl rfl,
            ⟨.u rfl rfl rfl (by rintro _ _ ⟨rfl, rfl⟩; exact congrArg (offB false) (by rfl : _ = Value.bool true)) ⟨rfl, rfl⟩ rfl rfl,
            ⟨.u rfl rfl rfl (by rintro _ _ ⟨rfl, rfl⟩; rfl) ⟨rfl, rfl⟩ rfl rfl,
            ⟨.u rfl rfl rfl (by rintro _ _ ⟨rfl, rfl⟩; rfl) ⟨rfl, rfl⟩ rfl rfl,
            ⟨.u rfl rfl rfl (by rintro _ _ ⟨rfl, rfl⟩; rfl) ⟨rfl, rfl⟩ rfl rfl,
            ⟨.u rfl rfl rfl (by rintro _ _ ⟨rfl, rfl⟩; rfl) ⟨rfl, rfl⟩ rfl rfl,
            ⟨.u rfl rfl rfl (by rintro _ _ ⟨rfl, rfl⟩; exact congrArg (offB false) (by rfl : _ = Value.bool true)) ⟨rfl, rfl⟩ rfl rfl,
            ⟨.p rfl (by intro X; rintro _ _ ⟨rfl, rfl⟩ _ _ ⟨rfl, rfl⟩; exact op_pick_t rfl rfl),
            ⟨.p rfl (by intro X; exact op_move rfl),
            ⟨.p rfl (by intro X; rintro _ _ ⟨rfl, rfl⟩; exact op_eql rfl rfl),
            ⟨.p rfl (by intro X; rintro _ _ ⟨rfl, rfl⟩; exact op_assign rfl),
            ⟨.p rfl (by intro X; rintro _ _ ⟨rfl, rfl⟩; exact op_store rfl rfl tZ52xg (by rfl) (by rfl) (by exact Nat.le_of_ble_eq_true rfl)) (hu := by exact .inr fun _ _ h => h.1),
            ⟨.p rfl (by intro X; rintro _ _ ⟨rfl, rfl⟩; exact op_assign rfl),
            trivial⟩⟩⟩⟩⟩⟩⟩⟩⟩⟩⟩⟩⟩⟩⟩⟩⟩⟩⟩)
            (fun β β' => ⟨fun _ => by rfl, ⟨fun _ => by rfl, ⟨fun _ => by rfl, ⟨fun _ => by rfl, ⟨fun _ => by rfl, ⟨fun _ => by rfl, ⟨fun _ => by rfl, ⟨fun _ => by rfl, ⟨fun _ => by rfl, ⟨fun _ => by rfl, ⟨fun _ => by rfl, ⟨fun _ => by rfl, ⟨fun _ => by rfl, ⟨fun _ => by rfl, ⟨fun _ => by rfl, ⟨fun _ => by rfl, ⟨fun _ => by rfl, ⟨fun _ => by rfl, ⟨fun _ => by rfl, trivial⟩⟩⟩⟩⟩⟩⟩⟩⟩⟩⟩⟩⟩⟩⟩⟩⟩⟩⟩) ?_
        intro β
        rintro _ _ ⟨rfl, rfl⟩ _ _ ⟨rfl, rfl⟩ _ _ ⟨rfl, rfl⟩ _ _ ⟨rfl, rfl⟩ _ _ ⟨rfl, rfl⟩ _ _ ⟨rfl, rfl⟩ _ _ ⟨rfl, rfl⟩ _ _ ⟨rfl, rfl⟩ _ _ ⟨rfl, rfl⟩ _ _ ⟨rfl, rfl⟩ _ _ ⟨rfl, rfl⟩ _ _ ⟨rfl, rfl⟩ _ _ ⟨rfl, rfl⟩ _ _ ⟨rfl, rfl⟩ _ _ ⟨rfl, rfl⟩ _ _ ⟨rfl, rfl⟩ _ _ ⟨rfl, rfl⟩ _ _ ⟨rfl, rfl⟩ _ _ ⟨rfl, rfl⟩
        refine wl_norm (e' := [(10, _), (11, _), (12, _), (83, _)]) (.cons rfl (.cons rfl (.cons rfl (.cons rfl (.nil _))))) (by dsimp only [cond_false, cond_true, List.nil_append, List.cons_append]) ?_
        refine za rfl (wl_nil (st_tn (w_ret (st_br (st_tr (st_ret (vs := [_, _, _, _]) [601, 611, 605, 606] Try.results27 ⟨rfl, ⟨⟨_, rfl, Ent.mono (Ent.lab (l := 11) rfl (says_cel 0)) (fun _ h => run_load_agg tA52xg h (Nat.le_of_ble_eq_true rfl))⟩, ⟨rfl, ⟨rfl, trivial⟩⟩⟩⟩ rfl ?_))))))
        refine ⟨[(601, _), (611, _), (605, _), (606, _)], rfl, ?_⟩
        exact ⟨_, _, _, List.subset_cons_self _ _, List.subset_cons_self _ _, ⟨_, _, _, _, _, hm2⟩, rfl, rfl⟩
      · -- h27-
        obtain ⟨he0, hnl⟩ : e = 0 ∧ n = lastN (commitL L) := he.resolve_left h27
        have hln : (n : Int) = L.first + ((allR L.segs).length + L.pend.length) - 1 := by rw [hnl]; unfold lastN; rw [hfc, hacl]; omega
        refine w_drawW (fun β => [⟨68, [], [], [], noW (_), false, [], []⟩, ⟨69, [], [], [], noW (_), false, [17], []⟩, ⟨70, [], [], [], noW (_), false, [], []⟩, ⟨71, [2], [], [], noW (_), false, [], []⟩, ⟨72, [3], [], [], noW (_), false, [], []⟩, ⟨73, [], [], [], noW (_), false, [], []⟩, ⟨74, [5], [], [], noW (_), false, [], []⟩, ⟨75, [6], [], [], noW (_), false, [], []⟩, ⟨76, [], [], [], noW (_), false, [], []⟩, ⟨77, [], [], [], noW (_), false, [17], []⟩, ⟨78, [9], [], [], noW (_), false, [], []⟩, ⟨79, [8, 10], [], [], noW (_), false, [], []⟩, ⟨80, [7, 11], [], [], noW (_), false, [], []⟩, ⟨81, [4, 12], [], [], noW (_), false, [], []⟩, ⟨82, [], [], [], noW (_), false, [], []⟩, ⟨83, [14], [], [], noW (_), false, [], []⟩, ⟨10, [0], [], [], noW (_), false, [], []⟩, ⟨149, [1], [], [(11, _)], noW (_), false, [], []⟩, ⟨12, [13], [], [], noW (_), false, [], []⟩]) [11] [1, 11, 17, 16] [⟨68, [], [], false, [], []⟩, ⟨69, [], [], false, [17], []⟩, ⟨70, [], [], false, [], []⟩, ⟨71, [2], [], false, [], []⟩, ⟨72, [3], [], false, [], []⟩, ⟨73, [], [], false, [], []⟩, ⟨74, [5], [], false, [], []⟩, ⟨75, [6], [], false, [], []⟩, ⟨76, [], [], false, [], []⟩, ⟨77, [], [], false, [17], []⟩, ⟨78, [9], [], false, [], []⟩, ⟨79, [8, 10], [], false, [], []⟩, ⟨80, [7, 11], [], false, [], []⟩, ⟨81, [4, 12], [], false, [], []⟩, ⟨82, [], [], false, [], []⟩, ⟨83, [14], [], false, [], []⟩, ⟨10, [0], [], false, [], []⟩, ⟨149, [1], [], false, [], []⟩, ⟨12, [13], [], false, [], []⟩] [[], [], [], [], [], [], [], [], [], [], [], [], [], [], [], [], [], [], []] [[], [], [], [], [], [], [], [], [], [], [], [], [], [], [], [], [], [(11, _)], []] tMixxg (fun _ => by rfl) (fun _ => by rfl) (by kernel_rfl) (by kernel_rfl) (by rfl) (by rfl)
            (fun β => ⟨.p rfl (by intro X; exact op_move rfl),
            ⟨.p rfl (by intro X; exact op_loadA rfl tA52xg (Ent.lab (l := 11) rfl (says_cel 0)) (Nat.le_of_ble_eq_true rfl)),
            ⟨.p rfl (by intro X; exact op_move rfl),
            ⟨.p rfl (by intro X; rintro _ _ ⟨rfl, rfl⟩; exact op_val (v' := .bool false) (by rw [decide_eq_false h27]) (op_eql rfl rfl)),
            ⟨.p rfl (by intro X; rintro _ _ ⟨rfl, rfl⟩; exact op_move rfl),
            ⟨.w rfl rfl rfl (by rintro _ _ ⟨rfl, rfl⟩; rfl) (by intro X; exact op_move rfl),
            ⟨.w rfl rfl rfl (by rintro _ _ ⟨rfl, rfl⟩; rfl) (by intro X; rintro _ _ ⟨rfl, rfl⟩; exact op_val (v' := .bool true) (by rw [decide_eq_true he0]) (op_eql rfl rfl)),
            ⟨.w rfl rfl rfl (by rintro _ _ ⟨rfl, rfl⟩; rfl) (by intro X; rintro _ _ ⟨rfl, rfl⟩; exact op_move rfl),
            ⟨.w rfl rfl rfl (by rintro _ _ ⟨rfl, rfl⟩; rfl) (by intro X; exact op_move rfl),
            ⟨.w rfl rfl rfl (by rintro _ _ ⟨rfl, rfl⟩; rfl) (by intro X; exact op_loadA rfl tA52xg (Ent.lab (l := 11) rfl (says_cel 0)) (Nat.le_of_ble_eq_true rfl)),
            ⟨.w rfl rfl rfl (by rintro _ _ ⟨rfl, rfl⟩; rfl) (by intro X; rintro _ _ ⟨rfl, rfl⟩; exact op_fn Try.func29 rfl rfl rfl (mlast_any (hm2.slx rfl (by omega)) (hm2.slr rfl (by omega)) (by omega) (by omega))),
            ⟨.w rfl rfl rfl (by rintro _ _ ⟨rfl, rfl⟩; rfl) (by intro X; rintro _ _ ⟨rfl, rfl⟩ _ _ ⟨rfl, rfl⟩; exact op_val (v' := .bool true) (by rw [decide_eq_true (by omega)]) (op_eql rfl rfl)),
            ⟨.w rfl rfl rfl (by rintro _ _ ⟨rfl, rfl⟩; rfl) (by intro X; rintro _ _ ⟨rfl, rfl⟩ _ _ ⟨rfl, rfl⟩; exact op_pick_t rfl rfl),
            ⟨.p rfl (by intro X; rintro _ _ ⟨rfl, rfl⟩ _ _ ⟨rfl, rfl⟩; exact op_pick_f rfl rfl),
            ⟨.p rfl (by intro X; exact op_move rfl),
            ⟨.p rfl (by intro X; rintro _ _ ⟨rfl, rfl⟩; exact op_eql rfl rfl),
            ⟨.p rfl (by intro X; rintro _ _ ⟨rfl, rfl⟩; exact op_assign rfl),
            ⟨.p rfl (by intro X; rintro _ _ ⟨rfl, rfl⟩; exact op_store rfl rfl tZ52xg (by rfl) (by rfl) (by exact Nat.le_of_ble_eq_true rfl)) (hu := by exact .inr fun _ _ h => h.1),
            ⟨.p rfl (by intro X; rintro _ _ ⟨rfl, rfl⟩; exact op_assign rfl),
            trivial⟩⟩⟩⟩⟩⟩⟩⟩⟩⟩⟩⟩⟩⟩⟩⟩⟩⟩⟩)
            (fun β β' => ⟨fun _ => by rfl, ⟨fun _ => by rfl, ⟨fun _ => by rfl, ⟨fun _ => by rfl, ⟨fun _ => by rfl, ⟨fun _ => by rfl, ⟨fun _ => by rfl, ⟨fun _ => by rfl, ⟨fun _ => by rfl, ⟨fun _ => by rfl, ⟨fun _ => by rfl, ⟨fun _ => by rfl, ⟨fun _ => by rfl, ⟨fun _ => by rfl, ⟨fun _ => by rfl, ⟨fun _ => by rfl, ⟨fun _ => by rfl, ⟨fun _ => by rfl, ⟨fun _ => by rfl, trivial⟩⟩⟩⟩⟩⟩⟩⟩⟩⟩⟩⟩⟩⟩⟩⟩⟩⟩⟩) ?_
        intro β
        rintro _ _ ⟨rfl, rfl⟩ _ _ ⟨rfl, rfl⟩ _ _ ⟨rfl, rfl⟩ _ _ ⟨rfl, rfl⟩ _ _ ⟨rfl, rfl⟩ _ _ ⟨rfl, rfl⟩ _ _ ⟨rfl, rfl⟩ _ _ ⟨rfl, rfl⟩ _ _ ⟨rfl, rfl⟩ _ _ ⟨rfl, rfl⟩ _ _ ⟨rfl, rfl⟩ _ _ ⟨rfl, rfl⟩ _ _ ⟨rfl, rfl⟩ _ _ ⟨rfl, rfl⟩ _ _ ⟨rfl, rfl⟩ _ _ ⟨rfl, rfl⟩ _ _ ⟨rfl, rfl⟩ _ _ ⟨rfl, rfl⟩ _ _ ⟨rfl, rfl⟩
        refine wl_norm (e' := [(10, _), (11, _), (12, _), (83, _)]) (.cons rfl (.cons rfl (.cons rfl (.cons rfl (.nil _))))) (by dsimp only [cond_false, cond_true, List.nil_append, List.cons_append]) ?_
        refine za rfl (wl_nil (st_tn (w_ret (st_br (st_tr (st_ret (vs := [_, _, _, _]) [601, 611, 605, 606] Try.results27 ⟨rfl, ⟨⟨_, rfl, Ent.mono (Ent.lab (l := 11) rfl (says_cel 0)) (fun _ h => run_load_agg tA52xg h (Nat.le_of_ble_eq_true rfl))⟩, ⟨rfl, ⟨rfl, trivial⟩⟩⟩⟩ rfl ?_))))))
        refine ⟨[(601, _), (611, _), (605, _), (606, _)], rfl, ?_⟩
        exact ⟨_, _, _, List.subset_cons_self _ _, List.subset_cons_self _ _, ⟨_, _, _, _, _, hm2⟩, rfl, rfl⟩
  · -- h3-
    refine w_region (zd rfl (op_val (v' := .bool false) (by rw [decide_eq_false (by omega)]) (op_eql rfl rfl)) ?_)
    refine za rfl (wl_nil (st_tn (w_cond_f (rfl) ?_)))
    refine w_region (zd rfl (op_val (v' := .bool true) (by rw [decide_eq_true (by omega)]) (op_eql rfl rfl)) ?_)
    refine za rfl (wl_nil (st_tn (w_cond_t (rfl) ?_)))
    refine w_seq ?_
    by_cases hpd : L.pend.length = 0
    · -- hpd+
      have hp0 : L.pend = [] := List.eq_nil_of_length_eq_zero hpd
      have hcl := commitL_nil hp0
      refine w_region (zd rfl (op_loadA rfl tA52xg (Ent.lab (l := 7) rfl (says_cel 0)) (Nat.le_of_ble_eq_true rfl)) (zd rfl (op_fn Try.func56 rfl rfl rfl (mcommit_nil (hm.slp rfl (by omega)) hpd)) ?_))
      refine wl_op0 [11] rfl rfl rfl (op_store rfl rfl tZ52xg (by rfl) (by rfl) (by exact Nat.le_of_ble_eq_true rfl)) ?_
      rintro _ _ ⟨rfl, rfl⟩
      refine wl_nil (st_tn (w_seq (w_region (zm rfl (wl_op [601, 611] rfl rfl rfl rfl (op_fn Try.func15 rfl rfl rfl (commit_to 601 611 hc hS.ok hg hnm hnx)) ?_)))))
      rintro _ _ ⟨rfl, rfl⟩
      refine zm rfl (zd rfl (op_extract rfl rfl) (zd rfl (op_extract rfl rfl) (za rfl (za rfl (wl_nil (st_tn (w_seq ?_)))))))
      by_cases h27 : e = 27
      · -- h27+
        refine w_drawW (fun β => [⟨68, [], [], [], noW (_), false, [], []⟩, ⟨69, [], [], [], noW (_), false, [17], []⟩, ⟨70, [], [], [], noW (_), false, [], []⟩, ⟨71, [2], [], [], noW (_), false, [], []⟩, ⟨72, [3], [], [], noW (_), false, [], []⟩, ⟨73, [], [], [], noW (Det undef), false, [], []⟩, ⟨74, [], [], [], noW (Det undef), false, [], []⟩, ⟨75, [], [], [], noW (Det undef), false, [], []⟩, ⟨76, [], [], [], noW (Det undef), false, [], []⟩, ⟨77, [], [], [], noW (Det undef), false, [], []⟩, ⟨78, [], [], [], noW (Det undef), false, [], []⟩, ⟨79, [], [], [], noW (Det undef), false, [], []⟩, ⟨80, [], [], [], noW (Det undef), false, [], []⟩, ⟨81, [4, 12], [], [], noW (_), false, [], []⟩, ⟨82, [], [], [], noW (_), false, [], []⟩, ⟨83, [14], [], [], noW (_), false, [], []⟩, ⟨10, [0], [], [], noW (_), false, [], []⟩, ⟨149, [1], [], [(11, _)], noW (_), false, [], []⟩, ⟨12, [13], [], [], noW (_), false, [], []⟩]) [11] [1, 11, 17, 16] [⟨68, [], [], false, [], []⟩, ⟨69, [], [], false, [17], []⟩, ⟨70, [], [], false, [], []⟩, ⟨71, [2], [], false, [], []⟩, ⟨72, [3], [], false, [], []⟩, ⟨73, [], [], false, [], []⟩, ⟨74, [], [], false, [], []⟩, ⟨75, [], [], false, [], []⟩, ⟨76, [], [], false, [], []⟩, ⟨77, [], [], false, [], []⟩, ⟨78, [], [], false, [], []⟩, ⟨79, [], [], false, [], []⟩, ⟨80, [], [], false, [], []⟩, ⟨81, [4, 12], [], false, [], []⟩, ⟨82, [], [], false, [], []⟩, ⟨83, [14], [], false, [], []⟩, ⟨10, [0], [], false, [], []⟩, ⟨149, [1], [], false, [], []⟩, ⟨12, [13], [], false, [], []⟩] [[], [], [], [], [], [], [], [], [], [], [], [], [], [], [], [], [], [], []] [[], [], [], [], [], [], [], [], [], [], [], [], [], [], [], [], [], [(11, _)], []] tMixxg (fun _ => by rfl) (fun _ => by rfl) (by kernel_rfl) (by kernel_rfl) (by rfl) (by rfl)
            (fun β => ⟨.p rfl (by intro X; exact op_move rfl),
            ⟨.p rfl (by intro X; exact op_loadA rfl tA52xg (Ent.lab (l := 11) rfl (says_cel 0)) (Nat.le_of_ble_eq_true rfl)),
            ⟨.p rfl (by intro X; exact op_move rfl),
            ⟨.p rfl (by intro X; rintro _ _ ⟨rfl, rfl⟩; exact op_val (v' := .bool true) (by rw [decide_eq_true h27]) (op_eql rfl rfl)),
            ⟨.p rfl (by intro X; rintro _ _ ⟨rfl, rfl⟩; exact op_move rfl),
            ⟨.u rfl rfl rfl (by rintro _ _ ⟨rfl, rfl⟩; exact congrArg (offB false) (by rfl : _ = Value.bool true)) ⟨rfl, rfl⟩ rfl rfl,
            ⟨.u rfl rfl rfl (by rintro _ _ ⟨rfl, rfl⟩; exact congrArg (offB false) (by rfl : _ = Value.bool true)) ⟨rfl, rfl⟩ rfl rfl,
            ⟨.u rfl rfl rfl (by rintro _ _ ⟨rfl, rfl⟩; exact congrArg (offB false) (by rfl : _ = Value.bool true)) ⟨rfl, rfl⟩ rfl rfl,
            ⟨.u rfl rfl rfl (by rintro _ _ ⟨rfl, rfl⟩; rfl) ⟨rfl, rfl⟩ rfl rfl,
            ⟨.u rfl rfl rfl (by rintro _ _ ⟨rfl, rfl⟩; rfl) ⟨rfl, rfl⟩ rfl rfl,
            ⟨.u rfl rfl rfl (by rintro _ _ ⟨rfl, rfl⟩; rfl) ⟨rfl, rfl⟩ rfl rfl,
            ⟨.u rfl rfl rfl (by rintro _ _ ⟨rfl, rfl⟩; rfl) ⟨rfl, rfl⟩ rfl rfl,
            ⟨.u rfl rfl rfl (by rintro _ _ ⟨rfl, rfl⟩; exact congrArg (offB false) (by rfl : _ = Value.bool true)) ⟨rfl, rfl⟩ rfl rfl,
            ⟨.p rfl (by intro X; rintro _ _ ⟨rfl, rfl⟩ _ _ ⟨rfl, rfl⟩; exact op_pick_t rfl rfl),
            ⟨.p rfl (by intro X; exact op_move rfl),
            ⟨.p rfl (by intro X; rintro _ _ ⟨rfl, rfl⟩; exact op_eql rfl rfl),
            ⟨.p rfl (by intro X; rintro _ _ ⟨rfl, rfl⟩; exact op_assign rfl),
            ⟨.p rfl (by intro X; rintro _ _ ⟨rfl, rfl⟩; exact op_store rfl rfl tZ52xg (by rfl) (by rfl) (by exact Nat.le_of_ble_eq_true rfl)) (hu := by exact .inr fun _ _ h => h.1),
            ⟨.p rfl (by intro X; rintro _ _ ⟨rfl, rfl⟩; exact op_assign rfl),
            trivial⟩⟩⟩⟩⟩⟩⟩⟩⟩⟩⟩⟩⟩⟩⟩⟩⟩⟩⟩)
            (fun β β' => ⟨fun _ => by rfl, ⟨fun _ => by rfl, ⟨fun _ => by rfl, ⟨fun _ => by rfl, ⟨fun _ => by rfl, ⟨fun _ => by rfl, ⟨fun _ => by rfl, ⟨fun _ => by rfl, ⟨fun _ => by rfl, ⟨fun _ => by rfl, ⟨fun _ => by rfl, ⟨fun _ => by rfl, ⟨fun _ => by rfl, ⟨fun _ => by rfl, ⟨fun _ => by rfl, ⟨fun _ => by rfl, ⟨fun _ => by rfl, ⟨fun _ => by rfl, ⟨fun _ => by rfl, trivial⟩⟩⟩⟩⟩⟩⟩⟩⟩⟩⟩⟩⟩⟩⟩⟩⟩⟩⟩) ?_
        intro β
        rintro _ _ ⟨rfl, rfl⟩ _ _ ⟨rfl, rfl⟩ _ _ ⟨rfl, rfl⟩ _ _ ⟨rfl, rfl⟩ _ _ ⟨rfl, rfl⟩ _ _ ⟨rfl, rfl⟩ _ _ ⟨rfl, rfl⟩ _ _ ⟨rfl, rfl⟩ _ _ ⟨rfl, rfl⟩ _ _ ⟨rfl, rfl⟩ _ _ ⟨rfl, rfl⟩ _ _ ⟨rfl, rfl⟩ _ _ ⟨rfl, rfl⟩ _ _ ⟨rfl, rfl⟩ _ _ ⟨rfl, rfl⟩ _ _ ⟨rfl, rfl⟩ _ _ ⟨rfl, rfl⟩ _ _ ⟨rfl, rfl⟩ _ _ ⟨rfl, rfl⟩
        refine wl_norm (e' := [(10, _), (11, _), (12, _), (83, _)]) (.cons rfl (.cons rfl (.cons rfl (.cons rfl (.nil _))))) (by dsimp only [cond_false, cond_true, List.nil_append, List.cons_append]) ?_
        refine za rfl (wl_nil (st_tn (w_ret (st_br (st_tr (st_ret (vs := [_, _, _, _]) [601, 611, 605, 606] Try.results27 ⟨rfl, ⟨⟨_, rfl, Ent.mono (Ent.lab (l := 11) rfl (says_cel 0)) (fun _ h => run_load_agg tA52xg h (Nat.le_of_ble_eq_true rfl))⟩, ⟨rfl, ⟨rfl, trivial⟩⟩⟩⟩ rfl ?_))))))
        refine ⟨[(601, _), (611, _), (605, _), (606, _)], rfl, ?_⟩
        rw [hcl]; exact ⟨_, P1, P2, fun _ h => h, fun _ h => h, ⟨a, c, p, cp, Y, hm⟩, rfl, rfl⟩
      · -- h27-
        obtain ⟨he0, hnl⟩ : e = 0 ∧ n = lastN (commitL L) := he.resolve_left h27
        have hln : (n : Int) = L.first + ((allR L.segs).length + L.pend.length) - 1 := by rw [hnl]; unfold lastN; rw [hfc, hacl]; omega
        refine w_drawW (fun β => [⟨68, [], [], [], noW (_), false, [], []⟩, ⟨69, [], [], [], noW (_), false, [17], []⟩, ⟨70, [], [], [], noW (_), false, [], []⟩, ⟨71, [2], [], [], noW (_), false, [], []⟩, ⟨72, [3], [], [], noW (_), false, [], []⟩, ⟨73, [], [], [], noW (_), false, [], []⟩, ⟨74, [5], [], [], noW (_), false, [], []⟩, ⟨75, [6], [], [], noW (_), false, [], []⟩, ⟨76, [], [], [], noW (_), false, [], []⟩, ⟨77, [], [], [], noW (_), false, [17], []⟩, ⟨78, [9], [], [], noW (_), false, [], []⟩, ⟨79, [8, 10], [], [], noW (_), false, [], []⟩, ⟨80, [7, 11], [], [], noW (_), false, [], []⟩, ⟨81, [4, 12], [], [], noW (_), false, [], []⟩, ⟨82, [], [], [], noW (_), false, [], []⟩, ⟨83, [14], [], [], noW (_), false, [], []⟩, ⟨10, [0], [], [], noW (_), false, [], []⟩, ⟨149, [1], [], [(11, _)], noW (_), false, [], []⟩, ⟨12, [13], [], [], noW (_), false, [], []⟩]) [11] [1, 11, 17, 16] [⟨68, [], [], false, [], []⟩, ⟨69, [], [], false, [17], []⟩, ⟨70, [], [], false, [], []⟩, ⟨71, [2], [], false, [], []⟩, ⟨72, [3], [], false, [], []⟩, ⟨73, [], [], false, [], []⟩, ⟨74, [5], [], false, [], []⟩, ⟨75, [6], [], false, [], []⟩, ⟨76, [], [], false, [], []⟩, ⟨77, [], [], false, [17], []⟩, ⟨78, [9], [], false, [], []⟩, ⟨79, [8, 10], [], false, [], []⟩, ⟨80, [7, 11], [], false, [], []⟩, ⟨81, [4, 12], [], false, [], []⟩, ⟨82, [], [], false, [], []⟩, ⟨83, [14], [], false, [], []⟩, ⟨10, [0], [], false, [], []⟩, ⟨149, [1], [], false, [], []⟩, ⟨12, [13], [], false, [], []⟩] [[], [], [], [], [], [], [], [], [], [], [], [], [], [], [], [], [], [], []] [[], [], [], [], [], [], [], [], [], [], [], [], [], [], [], [], [], [(11, _)], []] tMixxg (fun _ => by rfl) (fun _ => by rfl) (by kernel_rfl) (by kernel_rfl) (by rfl) (by rfl)
            (fun β => ⟨.p rfl (by intro X; exact op_move rfl),
            ⟨.p rfl (by intro X; exact op_loadA rfl tA52xg (Ent.lab (l := 11) rfl (says_cel 0)) (Nat.le_of_ble_eq_true rfl)),
            ⟨.p rfl (by intro X; exact op_move rfl),
            ⟨.p rfl (by intro X; rintro _ _ ⟨rfl, rfl⟩; exact op_val (v' := .bool false) (by rw [decide_eq_false h27]) (op_eql rfl rfl)),
            ⟨.p rfl (by intro X; rintro _ _ ⟨rfl, rfl⟩; exact op_move rfl),
            ⟨.w rfl rfl rfl (by rintro _ _ ⟨rfl, rfl⟩; rfl) (by intro X; exact op_move rfl),
            ⟨.w rfl rfl rfl (by rintro _ _ ⟨rfl, rfl⟩; rfl) (by intro X; rintro _ _ ⟨rfl, rfl⟩; exact op_val (v' := .bool true) (by rw [decide_eq_true he0]) (op_eql rfl rfl)),
            ⟨.w rfl rfl rfl (by rintro _ _ ⟨rfl, rfl⟩; rfl) (by intro X; rintro _ _ ⟨rfl, rfl⟩; exact op_move rfl),
            ⟨.w rfl rfl rfl (by rintro _ _ ⟨rfl, rfl⟩; rfl) (by intro X; exact op_move rfl),
            ⟨.w rfl rfl rfl (by rintro _ _ ⟨rfl, rfl⟩; rfl) (by intro X; exact op_loadA rfl tA52xg (Ent.lab (l := 11) rfl (says_cel 0)) (Nat.le_of_ble_eq_true rfl)),
            ⟨.w rfl rfl rfl (by rintro _ _ ⟨rfl, rfl⟩; rfl) (by intro X; rintro _ _ ⟨rfl, rfl⟩; exact op_fn Try.func29 rfl rfl rfl (mlast_any (hm.slx rfl (by omega)) (hm.slr rfl (by omega)) (by omega) (by omega))),
            ⟨.w rfl rfl rfl (by rintro _ _ ⟨rfl, rfl⟩; rfl) (by intro X; rintro _ _ ⟨rfl, rfl⟩ _ _ ⟨rfl, rfl⟩; exact op_val (v' := .bool true) (by rw [decide_eq_true (by omega)]) (op_eql rfl rfl)),
            ⟨.w rfl rfl rfl (by rintro _ _ ⟨rfl, rfl⟩; rfl) (by intro X; rintro _ _ ⟨rfl, rfl⟩ _ _ ⟨rfl, rfl⟩; exact op_pick_t rfl rfl),
            ⟨.p rfl (by intro X; rintro _ _ ⟨rfl, rfl⟩ _ _ ⟨rfl, rfl⟩; exact op_pick_f rfl rfl),
            ⟨.p rfl (by intro X; exact op_move rfl),
            ⟨.p rfl (by intro X; rintro _ _ ⟨rfl, rfl⟩; exact op_eql rfl rfl),
            ⟨.p rfl (by intro X; rintro _ _ ⟨rfl, rfl⟩; exact op_assign rfl),
            ⟨.p rfl (by intro X; rintro _ _ ⟨rfl, rfl⟩; exact op_store rfl rfl tZ52xg (by rfl) (by rfl) (by exact Nat.le_of_ble_eq_true rfl)) (hu := by exact .inr fun _ _ h => h.1),
            ⟨.p rfl (by intro X; rintro _ _ ⟨rfl, rfl⟩; exact op_assign rfl),
            trivial⟩⟩⟩⟩⟩⟩⟩⟩⟩⟩⟩⟩⟩⟩⟩⟩⟩⟩⟩)
            (fun β β' => ⟨fun _ => by rfl, ⟨fun _ => by rfl, ⟨fun _ => by rfl, ⟨fun _ => by rfl, ⟨fun _ => by rfl, ⟨fun _ => by rfl, ⟨fun _ => by rfl, ⟨fun _ => by rfl, ⟨fun _ => by rfl, ⟨fun _ => by rfl, ⟨fun _ => by rfl, ⟨fun _ => by rfl, ⟨fun _ => by rfl, ⟨fun _ => by rfl, ⟨fun _ => by rfl, ⟨fun _ => by rfl, ⟨fun _ => by rfl, ⟨fun _ => by rfl, ⟨fun _ => by rfl, trivial⟩⟩⟩⟩⟩⟩⟩⟩⟩⟩⟩⟩⟩⟩⟩⟩⟩⟩⟩) ?_
        intro β
        rintro _ _ ⟨rfl, rfl⟩ _ _ ⟨rfl, rfl⟩ _ _ ⟨rfl, rfl⟩ _ _ ⟨rfl, rfl⟩ _ _ ⟨rfl, rfl⟩ _ _ ⟨rfl, rfl⟩ _ _ ⟨rfl, rfl⟩ _ _ ⟨rfl, rfl⟩ _ _ ⟨rfl, rfl⟩ _ _ ⟨rfl, rfl⟩ _ _ ⟨rfl, rfl⟩ _ _ ⟨rfl, rfl⟩ _ _ ⟨rfl, rfl⟩ _ _ ⟨rfl, rfl⟩ _ _ ⟨rfl, rfl⟩ _ _ ⟨rfl, rfl⟩ _ _ ⟨rfl, rfl⟩ _ _ ⟨rfl, rfl⟩ _ _ ⟨rfl, rfl⟩
        refine wl_norm (e' := [(10, _), (11, _), (12, _), (83, _)]) (.cons rfl (.cons rfl (.cons rfl (.cons rfl (.nil _))))) (by dsimp only [cond_false, cond_true, List.nil_append, List.cons_append]) ?_
        refine za rfl (wl_nil (st_tn (w_ret (st_br (st_tr (st_ret (vs := [_, _, _, _]) [601, 611, 605, 606] Try.results27 ⟨rfl, ⟨⟨_, rfl, Ent.mono (Ent.lab (l := 11) rfl (says_cel 0)) (fun _ h => run_load_agg tA52xg h (Nat.le_of_ble_eq_true rfl))⟩, ⟨rfl, ⟨rfl, trivial⟩⟩⟩⟩ rfl ?_))))))
        refine ⟨[(601, _), (611, _), (605, _), (606, _)], rfl, ?_⟩
        rw [hcl]; exact ⟨_, P1, P2, fun _ h => h, fun _ h => h, ⟨a, c, p, cp, Y, hm⟩, rfl, rfl⟩
    · -- hpd-
      have hp0 : L.pend ≠ [] := fun h => hpd (by rw [h]; rfl)
      refine w_region (zd rfl (op_loadA rfl tA52xg (Ent.lab (l := 7) rfl (says_cel 0)) (Nat.le_of_ble_eq_true rfl)) (wl_op [] rfl rfl rfl rfl (op_fn Try.func56 rfl rfl rfl (mcommit_go 162 163 (hm.slx rfl (by omega)) (hm.slr rfl (by omega)) (hm.slp rfl (by omega)) (by omega) (by omega) (by omega) (fun y hy => by obtain ⟨z, hz, e1, e2, e3⟩ := hm.rel.mem hy; have h4 := hS.ok.seg.num z hz; have h5 := gs_le (hS.ok.seg.grp z hz); have h6 := recs_le hz; rw [e1, e2, e3]; omega))) ?_))
      rintro _ _ ⟨a62, c62, q62, cq62, rfl, rfl⟩
      refine wl_op0 [11] rfl rfl rfl (op_store rfl rfl tZ52xg (by rfl) (by rfl) (by exact Nat.le_of_ble_eq_true rfl)) ?_
      rintro _ _ ⟨rfl, rfl⟩
      refine wl_nil (st_tn (w_seq (w_star 163 605 605 rfl ?_)))
      refine w_wk 605 (poolS ((.slice q62 (recsN Y L.fresh L.pend).length cq62, recsN Y L.fresh L.pend) :: P1)) rfl (fun _ h => h) ?_
      refine w_star 162 606 606 rfl ?_
      refine w_wk 606 (poolX ((.slice a62 (noteX Y L.fresh L.pend q62 cq62).length c62, noteX Y L.fresh L.pend q62 cq62) :: P2)) rfl (fun _ h => h) ?_
      have hm2 := ms_commit hm hp0 a62 q62 c62 cq62
      have hYl2 := hm2.rel.len
      have hseg2 := segs_le_all (segs := (commitL L).segs) (by rw [lastN_commit hp0]; exact (oks_note hS.ok.seg rfl ⟨hp0, hS.ok.pl, hS.ok.pc⟩ hnx).grp)
      have hrec2 := congrArg List.length hm2.rel.recs
      refine w_region (zm rfl (wl_op [601, 611] rfl rfl rfl rfl (op_fn Try.func15 rfl rfl rfl (commit_to 601 611 hc hS.ok hg hnm hnx)) ?_))
      rintro _ _ ⟨rfl, rfl⟩
      refine zm rfl (zd rfl (op_extract rfl rfl) (zd rfl (op_extract rfl rfl) (za rfl (za rfl (wl_nil (st_tn (w_seq ?_)))))))
      by_cases h27 : e = 27
      · -- h27+
        refine w_drawW (fun β => [⟨68, [], [], [], noW (_), false, [], []⟩, ⟨69, [], [], [], noW (_), false, [17], []⟩, ⟨70, [], [], [], noW (_), false, [], []⟩, ⟨71, [2], [], [], noW (_), false, [], []⟩, ⟨72, [3], [], [], noW (_), false, [], []⟩, ⟨73, [], [], [], noW (Det undef), false, [], []⟩, ⟨74, [], [], [], noW (Det undef), false, [], []⟩, ⟨75, [], [], [], noW (Det undef), false, [], []⟩, ⟨76, [], [], [], noW (Det undef), false, [], []⟩, ⟨77, [], [], [], noW (Det undef), false, [], []⟩, ⟨78, [], [], [], noW (Det undef), false, [], []⟩, ⟨79, [], [], [], noW (Det undef), false, [], []⟩, ⟨80, [], [], [], noW (Det undef), false, [], []⟩, ⟨81, [4, 12], [], [], noW (_), false, [], []⟩, ⟨82, [], [], [], noW (_), false, [], []⟩, ⟨83, [14], [], [], noW (_), false, [], []⟩, ⟨10, [0], [], [], noW (_), false, [], []⟩, ⟨149, [1], [], [(11, _)], noW (_), false, [], []⟩, ⟨12, [13], [], [], noW (_), false, [], []⟩]) [11] [1, 11, 17, 16] [⟨68, [], [], false, [], []⟩, ⟨69, [], [], false, [17], []⟩, ⟨70, [], [], false, [], []⟩, ⟨71, [2], [], false, [], []⟩, ⟨72, [3], [], false, [], []⟩, ⟨73, [], [], false, [], []⟩, ⟨74, [], [], false, [], []⟩, ⟨75, [], [], false, [], []⟩, ⟨76, [], [], false, [], []⟩, ⟨77, [], [], false, [], []⟩, ⟨78, [], [], false, [], []⟩, ⟨79, [], [], false, [], []⟩, ⟨80, [], [], false, [], []⟩, ⟨81, [4, 12], [], false, [], []⟩, ⟨82, [], [], false, [], []⟩, ⟨83, [14], [], false, [], []⟩, ⟨10, [0], [], false, [], []⟩, ⟨149, [1], [], false, [], []⟩, ⟨12, [13], [], false, [], []⟩] [[], [], [], [], [], [], [], [], [], [], [], [], [], [], [], [], [], [], []] [[], [], [], [], [], [], [], [], [], [], [], [], [], [], [], [], [], [(11, _)], []] tMixxg (fun _ => by rfl) (fun _ => by rfl) (by kernel_rfl) (by kernel_rfl) (by rfl) (by rfl)
            (fun β => ⟨.p rfl (by intro X; exact op_move rfl),
            ⟨.p rfl (by intro X; exact op_loadA rfl tA52xg (Ent.lab (l := 11) rfl (says_cel 0)) (Nat.le_of_ble_eq_true rfl)),
            ⟨.p rfl (by intro X; exact op_move rfl),
            ⟨.p rfl (by intro X; rintro _ _ ⟨rfl, rfl⟩; exact op_val (v' := .bool true) (by rw [decide_eq_true h27]) (op_eql rfl rfl)),
            ⟨.p rfl (by intro X; rintro _ _ ⟨rfl, rfl⟩; exact op_move rfl),
            ⟨.u rfl rfl rfl (by rintro _ _ ⟨rfl, rfl⟩; exact congrArg (offB false) (by rfl : _ = Value.bool true)) ⟨rfl, rfl⟩ rfl rfl,
            ⟨.u rfl rfl rfl (by rintro _ _ ⟨rfl, rfl⟩; exact congrArg (offB false) (by rfl : _ = Value.bool true)) ⟨rfl, rfl⟩ rfl rfl,
            ⟨.u rfl rfl rfl (by rintro _ _ ⟨rfl, rfl⟩; exact congrArg (offB false) (by rfl : _ = Value.bool true)) ⟨rfl, rfl⟩ rfl rfl,
            ⟨.u rfl rfl rfl (by rintro _ _ ⟨rfl, rfl⟩; rfl) ⟨rfl, rfl⟩ rfl rfl,
            ⟨.u rfl rfl rfl (by rintro _ _ ⟨rfl, rfl⟩; rfl) ⟨rfl, rfl⟩ rfl rfl,
            ⟨.u rfl rfl rfl (by rintro _ _ ⟨rfl, rfl⟩; rfl) ⟨rfl, rfl⟩ rfl rfl,
            ⟨.u rfl rfl rfl (by rintro _ _ ⟨rfl, rfl⟩; rfl) ⟨rfl, rfl⟩ rfl rfl,
            ⟨.u rfl rfl rfl (by rintro _ _ ⟨rfl, rfl⟩; exact congrArg (offB false) (by rfl : _ = Value.bool true)) ⟨rfl, rfl⟩ rfl rfl,
            ⟨.p rfl (by intro X; rintro _ _ ⟨rfl, rfl⟩ _ _ ⟨rfl, rfl⟩; exact op_pick_t rfl rfl),
            ⟨.p rfl (by intro X; exact op_move rfl),
            ⟨.p rfl (by intro X; rintro _ _ ⟨rfl, rfl⟩; exact op_eql rfl rfl),
            ⟨.p rfl (by intro X; rintro _ _ ⟨rfl, rfl⟩; exact op_assign rfl),
            ⟨.p rfl (by intro X; rintro _ _ ⟨rfl, rfl⟩; exact op_store rfl rfl tZ52xg (by rfl) (by rfl) (by exact Nat.le_of_ble_eq_true rfl)) (hu := by exact .inr fun _ _ h => h.1),
            ⟨.p rfl (by intro X; rintro _ _ ⟨rfl, rfl⟩; exact op_assign rfl),
            trivial⟩⟩⟩⟩⟩⟩⟩⟩⟩⟩⟩⟩⟩⟩⟩⟩⟩⟩⟩)
            (fun β β' => ⟨fun _ => by rfl, ⟨fun _ => by rfl, ⟨fun _ => by rfl, ⟨fun _ => by rfl, ⟨fun _ => by rfl, ⟨fun _ => by rfl, ⟨fun _ => by rfl, ⟨fun _ => by rfl, ⟨fun _ => by rfl, ⟨fun _ => by rfl, ⟨fun _ => by rfl, ⟨fun _ => by rfl, ⟨fun _ => by rfl, ⟨fun _ => by rfl, ⟨fun _ => by rfl, ⟨fun _ => by rfl, ⟨fun _ => by rfl, ⟨fun _ => by rfl, ⟨fun _ => by rfl, trivial⟩⟩⟩⟩⟩⟩⟩⟩⟩⟩⟩⟩⟩⟩⟩⟩⟩⟩⟩) ?_
        intro β
        rintro _ _ ⟨rfl, rfl⟩ _ _ ⟨rfl, rfl⟩ _ _ ⟨rfl, rfl⟩ _ _ ⟨rfl, rfl⟩ _ _ ⟨rfl, rfl⟩ _ _ ⟨rfl, rfl⟩ _ _ ⟨rfl, rfl⟩ _ _ ⟨rfl, rfl⟩ _ _ ⟨rfl, rfl⟩ _ _ ⟨rfl, rfl⟩ _ _ ⟨rfl, rfl⟩ _ _ ⟨rfl, rfl⟩ _ _ ⟨rfl, rfl⟩ _ _ ⟨rfl, rfl⟩ _ _ ⟨rfl, rfl⟩ _ _ ⟨rfl, rfl⟩ _ _ ⟨rfl, rfl⟩ _ _ ⟨rfl, rfl⟩ _ _ ⟨rfl, rfl⟩
        refine wl_norm (e' := [(10, _), (11, _), (12, _), (83, _)]) (.cons rfl (.cons rfl (.cons rfl (.cons rfl (.nil _))))) (by dsimp only [cond_false, cond_true, List.nil_append, List.cons_append]) ?_
        refine za rfl (wl_nil (st_tn (w_ret (st_br (st_tr (st_ret (vs := [_, _, _, _]) [601, 611, 605, 606] Try.results27 ⟨rfl, ⟨⟨_, rfl, Ent.mono (Ent.lab (l := 11) rfl (says_cel 0)) (fun _ h => run_load_agg tA52xg h (Nat.le_of_ble_eq_true rfl))⟩, ⟨rfl, ⟨rfl, trivial⟩⟩⟩⟩ rfl ?_))))))
        refine ⟨[(601, _), (611, _), (605, _), (606, _)], rfl, ?_⟩
        exact ⟨_, _, _, List.subset_cons_self _ _, List.subset_cons_self _ _, ⟨_, _, _, _, _, hm2⟩, rfl, rfl⟩
      · -- h27-
        obtain ⟨he0, hnl⟩ : e = 0 ∧ n = lastN (commitL L) := he.resolve_left h27
        have hln : (n : Int) = L.first + ((allR L.segs).length + L.pend.length) - 1 := by rw [hnl]; unfold lastN; rw [hfc, hacl]; omega
        refine w_drawW (fun β => [⟨68, [], [], [], noW (_), false, [], []⟩, ⟨69, [], [], [], noW (_), false, [17], []⟩, ⟨70, [], [], [], noW (_), false, [], []⟩, ⟨71, [2], [], [], noW (_), false, [], []⟩, ⟨72, [3], [], [], noW (_), false, [], []⟩, ⟨73, [], [], [], noW (_), false, [], []⟩, ⟨74, [5], [], [], noW (_), false, [], []⟩, ⟨75, [6], [], [], noW (_), false, [], []⟩, ⟨76, [], [], [], noW (_), false, [], []⟩, ⟨77, [], [], [], noW (_), false, [17], []⟩, ⟨78, [9], [], [], noW (_), false, [], []⟩, ⟨79, [8, 10], [], [], noW (_), false, [], []⟩, ⟨80, [7, 11], [], [], noW (_), false, [], []⟩, ⟨81, [4, 12], [], [], noW (_), false, [], []⟩, ⟨82, [], [], [], noW (_), false, [], []⟩, ⟨83, [14], [], [], noW (_), false, [], []⟩, ⟨10, [0], [], [], noW (_), false, [], []⟩, ⟨149, [1], [], [(11, _)], noW (_), false, [], []⟩, ⟨12, [13], [], [], noW (_), false, [], []⟩]) [11] [1, 11, 17, 16] [⟨68, [], [], false, [], []⟩, ⟨69, [], [], false, [17], []⟩, ⟨70, [], [], false, [], []⟩, ⟨71, [2], [], false, [], []⟩, ⟨72, [3], [], false, [], []⟩, ⟨73, [], [], false, [], []⟩, ⟨74, [5], [], false, [], []⟩, ⟨75, [6], [], false, [], []⟩, ⟨76, [], [], false, [], []⟩, ⟨77, [], [], false, [17], []⟩, ⟨78, [9], [], false, [], []⟩, ⟨79, [8, 10], [], false, [], []⟩, ⟨80, [7, 11], [], false, [], []⟩, ⟨81, [4, 12], [], false, [], []⟩, ⟨82, [], [], false, [], []⟩, ⟨83, [14], [], false, [], []⟩, ⟨10, [0], [], false, [], []⟩, ⟨149, [1], [], false, [], []⟩, ⟨12, [13], [], false, [], []⟩] [[], [], [], [], [], [], [], [], [], [], [], [], [], [], [], [], [], [], []] [[], [], [], [], [], [], [], [], [], [], [], [], [], [], [], [], [], [(11, _)], []] tMixxg (fun _ => by rfl) (fun _ => by rfl) (by kernel_rfl) (by kernel_rfl) (by rfl) (by rfl)
            (fun β => ⟨.p rfl (by intro X; exact op_move rfl),
            ⟨.p rfl (by intro X; exact op_loadA rfl tA52xg (Ent.lab (l := 11) rfl (says_cel 0)) (Nat.le_of_ble_eq_true rfl)),
            ⟨.p rfl (by intro X; exact op_move rfl),
            ⟨.p rfl (by intro X; rintro _ _ ⟨rfl, rfl⟩; exact op_val (v' := .bool false) (by rw [decide_eq_false h27]) (op_eql rfl rfl)),
            ⟨.p rfl (by intro X; rintro _ _ ⟨rfl, rfl⟩; exact op_move rfl),
            ⟨.w rfl rfl rfl (by rintro _ _ ⟨rfl, rfl⟩; rfl) (by intro X; exact op_move rfl),
            ⟨.w rfl rfl rfl (by rintro _ _ ⟨rfl, rfl⟩; rfl) (by intro X; rintro _ _ ⟨rfl, rfl⟩; exact op_val (v' := .bool true) (by rw [decide_eq_true he0]) (op_eql rfl rfl)),
            ⟨.w rfl rfl rfl (by rintro _ _ ⟨rfl, rfl⟩; rfl) (by intro X; rintro _ _ ⟨rfl, rfl⟩; exact op_move rfl),
            ⟨.w rfl rfl rfl (by rintro _ _ ⟨rfl, rfl⟩; rfl) (by intro X; exact op_move rfl),
            ⟨.w rfl rfl rfl (by rintro _ _ ⟨rfl, rfl⟩; rfl) (by intro X; exact op_loadA rfl tA52xg (Ent.lab (l := 11) rfl (says_cel 0)) (Nat.le_of_ble_eq_true rfl)),
            ⟨.w rfl rfl rfl (by rintro _ _ ⟨rfl, rfl⟩; rfl) (by intro X; rintro _ _ ⟨rfl, rfl⟩; exact op_fn Try.func29 rfl rfl rfl (mlast_any (hm2.slx rfl (by omega)) (hm2.slr rfl (by omega)) (by omega) (by omega))),
            ⟨.w rfl rfl rfl (by rintro _ _ ⟨rfl, rfl⟩; rfl) (by intro X; rintro _ _ ⟨rfl, rfl⟩ _ _ ⟨rfl, rfl⟩; exact op_val (v' := .bool true) (by rw [decide_eq_true (by omega)]) (op_eql rfl rfl)),
            ⟨.w rfl rfl rfl (by rintro _ _ ⟨rfl, rfl⟩; rfl) (by intro X; rintro _ _ ⟨rfl, rfl⟩ _ _ ⟨rfl, rfl⟩; exact op_pick_t rfl rfl),
            ⟨.p rfl (by intro X; rintro _ _ ⟨rfl, rfl⟩ _ _ ⟨rfl, rfl⟩; exact op_pick_f rfl rfl),
            ⟨.p rfl (by intro X; exact op_move rfl),
            ⟨.p rfl (by intro X; rintro _ _ ⟨rfl, rfl⟩; exact op_eql rfl rfl),
            ⟨.p rfl (by intro X; rintro _ _ ⟨rfl, rfl⟩; exact op_assign rfl),
            ⟨.p rfl (by intro X; rintro _ _ ⟨rfl, rfl⟩; exact op_store rfl rfl tZ52xg (by rfl) (by rfl) (by exact Nat.le_of_ble_eq_true rfl)) (hu := by exact .inr fun _ _ h => h.1),
            ⟨.p rfl (by intro X; rintro _ _ ⟨rfl, rfl⟩; exact op_assign rfl),
            trivial⟩⟩⟩⟩⟩⟩⟩⟩⟩⟩⟩⟩⟩⟩⟩⟩⟩⟩⟩)
            (fun β β' => ⟨fun _ => by rfl, ⟨fun _ => by rfl, ⟨fun _ => by rfl, ⟨fun _ => by rfl, ⟨fun _ => by rfl, ⟨fun _ => by rfl, ⟨fun _ => by rfl, ⟨fun _ => by rfl, ⟨fun _ => by rfl, ⟨fun _ => by rfl, ⟨fun _ => by rfl, ⟨fun _ => by rfl, ⟨fun _ => by rfl, ⟨fun _ => by rfl, ⟨fun _ => by rfl, ⟨fun _ => by rfl, ⟨fun _ => by rfl, ⟨fun _ => by rfl, ⟨fun _ => by rfl, trivial⟩⟩⟩⟩⟩⟩⟩⟩⟩⟩⟩⟩⟩⟩⟩⟩⟩⟩⟩) ?_
        intro β
        rintro _ _ ⟨rfl, rfl⟩ _ _ ⟨rfl, rfl⟩ _ _ ⟨rfl, rfl⟩ _ _ ⟨rfl, rfl⟩ _ _ ⟨rfl, rfl⟩ _ _ ⟨rfl, rfl⟩ _ _ ⟨rfl, rfl⟩ _ _ ⟨rfl, rfl⟩ _ _ ⟨rfl, rfl⟩ _ _ ⟨rfl, rfl⟩ _ _ ⟨rfl, rfl⟩ _ _ ⟨rfl, rfl⟩ _ _ ⟨rfl, rfl⟩ _ _ ⟨rfl, rfl⟩ _ _ ⟨rfl, rfl⟩ _ _ ⟨rfl, rfl⟩ _ _ ⟨rfl, rfl⟩ _ _ ⟨rfl, rfl⟩ _ _ ⟨rfl, rfl⟩
        refine wl_norm (e' := [(10, _), (11, _), (12, _), (83, _)]) (.cons rfl (.cons rfl (.cons rfl (.cons rfl (.nil _))))) (by dsimp only [cond_false, cond_true, List.nil_append, List.cons_append]) ?_
        refine za rfl (wl_nil (st_tn (w_ret (st_br (st_tr (st_ret (vs := [_, _, _, _]) [601, 611, 605, 606] Try.results27 ⟨rfl, ⟨⟨_, rfl, Ent.mono (Ent.lab (l := 11) rfl (says_cel 0)) (fun _ h => run_load_agg tA52xg h (Nat.le_of_ble_eq_true rfl))⟩, ⟨rfl, ⟨rfl, trivial⟩⟩⟩⟩ rfl ?_))))))
        refine ⟨[(601, _), (611, _), (605, _), (606, _)], rfl, ?_⟩
        exact ⟨_, _, _, List.subset_cons_self _ _, List.subset_cons_self _ _, ⟨_, _, _, _, _, hm2⟩, rfl, rfl⟩
def trS : Nat → List Sg → Int → Nat → Nat
  | f, x :: y :: l, n, k + 1 => if (f : Int) + x.recs.length - 1 ≤ n then trS (f + x.recs.length) (y :: l) n k + 1 else 0
  | _, _, _, _ => 0
theorem trJ_S {n : Int} : ∀ {k f : Nat} {Y : List SegV} {S : List Sg}, Yrel Y S → trJ f Y n k = trS f S n k
  | k, f, [], S, h => by
    have : S = [] := List.eq_nil_of_length_eq_zero (by rw [← h.len]; rfl)
    subst this; cases k <;> rfl
  | k, f, [y], S, h => by
    match S, h.len with
    | [s], _ => cases k <;> rfl
  | 0, f, y :: z :: Y, S, h => by
    match S, h.len with
    | s :: t :: S, _ => rfl
  | k + 1, f, y :: z :: Y, S, h => by
    match S, h.len, h with
    | s :: t :: S, _, h =>
      unfold Yrel at h
      rw [List.map_cons, List.map_cons (l := t :: S)] at h
      simp only [List.cons.injEq, Prod.mk.injEq] at h
      obtain ⟨⟨_, _, e3⟩, h2⟩ := h
      rw [trJ, trS, e3, trJ_S (k := k) (f := f + s.recs.length) (Y := z :: Y) (S := t :: S) h2]
theorem yrel_drop {Y : List SegV} {S : List Sg} (h : Yrel Y S) (j : Nat) : Yrel (Y.drop j) (S.drop j) := by
  unfold Yrel at h ⊢; rw [List.map_drop, List.map_drop, h]
theorem yrel_take {Y : List SegV} {S : List Sg} (h : Yrel Y S) (j : Nat) : Yrel (Y.take j) (S.take j) := by
  unfold Yrel at h ⊢; rw [List.map_take, List.map_take, h]
def dropL (L : Lg) (j : Nat) : Lg := { L with first := L.first + (allR (L.segs.take j)).length, segs := L.segs.drop j }
set_option maxHeartbeats 4000000 in
set_option maxRecDepth 100000 in
theorem do_tru {σ : World} {F : List Res} {b d : Nat} {nm : RdM.Bs} {L L' : Lg} {s s' : DskM.St} {P1 : PS} {P2 : PX} {v : Value} {e : Int} (x : OpL) (hx : (0 ≤ x.k ∧ x.k ≤ 255) ∧ 0 ≤ x.n ∧ x.n ≤ 255) (hk : x.k % 8 = 6) (hS : Sm L) (hM : MS P1 P2 v L) (hc : truncO nm L s (L.first + x.n % 12 - 2) = (e, L', s')) (he : e = 27 ∨ e = 0) (hg : DskM.Good s) (hnm : nm.length ≤ 48) :
    FnT Try.prog σ F 27 [.pointer (some ⟨d, 0, none⟩), .pointer (some ⟨b, 0, none⟩), v, .agg (encOpL x).toArray, .string (str nm)] [(601, dkR d s), (611, lgR b d nm L), (605, poolS P1), (606, poolX P2)]
      (fun u ρ => ∃ v', MS P1 P2 v' (dropL L (trS L.first L.segs (L.first + x.n % 12 - 2) L.segs.length)) ∧ u = .tuple #[.pointer (some ⟨b, 0, none⟩), v', .bool true, .bool (decide (e = 27))] ∧ ρ = [(601, dkR d s'), (611, lgR b d nm L'), (605, poolS P1), (606, poolX P2)]) := by
  refine fn_of 132 Try.func27 rfl Try.ntmps27 rfl ?_
  obtain ⟨a, c, p, cp, Y, hm⟩ := hM
  have hval := hm.val
  subst hval
  have hb := hS.br
  have hal := hS.all
  have hfs := hS.fst
  have hsg := hS.segl
  have hYl := hm.rel.len
  have hrec := congrArg List.length hm.rel.recs
  obtain ⟨n, hn⟩ : ∃ n : Int, n = L.first + x.n % 12 - 2 := ⟨_, rfl⟩
  rw [← hn] at hc ⊢
  have htj := trJ_S (n := n) (k := Y.length) (f := L.first) hm.rel
  have htl := trJ_lt Y.length L.first Y n
  obtain ⟨j, hj⟩ : ∃ j, j = trJ L.first Y n Y.length := ⟨_, rfl⟩
  rw [← hj] at htl
  refine w_seq (w_region (wl_op [] rfl rfl rfl rfl (op_box (T := 52) (l := 7) rfl) ?_))
  rintro _ _ ⟨b7, rfl, rfl⟩
  refine wl_op [] rfl rfl rfl rfl (op_box (T := 41) (l := 8) rfl) ?_
  rintro _ _ ⟨b8, rfl, rfl⟩
  refine za rfl (wl_op [] rfl rfl rfl rfl (op_alloc (l := 11) tN52xg) ?_)
  rintro _ _ ⟨b11, rfl, rfl⟩
  refine za rfl (za rfl (wl_nil (st_tn (w_seq (w_seq (w_region (zd rfl (op_fieldAddr (off := 0) rfl tF41_0xg) (zd rfl (op_load1 rfl tO5xg (Ent.lab (l := 8) rfl (says_cel 0))) (zd rfl (op_remN rfl rfl (by omega) (by omega)) ?_)))))))))
  refine wl_nil (st_tn (w_block (w_seq (w_seq (w_region (zd rfl (op_val (v' := .bool false) (by rw [decide_eq_false (by omega)]) (op_eql rfl rfl)) ?_))))))
  refine za rfl (wl_nil (st_tn (w_cond_f (rfl) ?_)))
  refine w_seq (w_region (zd rfl (op_val (v' := .bool false) (by rw [decide_eq_false (by omega)]) (op_eql rfl rfl)) ?_))
  refine za rfl (wl_nil (st_tn (w_cond_f (rfl) ?_)))
  refine w_region (zd rfl (op_val (v' := .bool false) (by rw [decide_eq_false (by omega)]) (op_eql rfl rfl)) ?_)
  refine za rfl (wl_nil (st_tn (w_cond_f (rfl) ?_)))
  refine w_seq (w_seq (w_region (zd rfl (op_val (v' := .bool false) (by rw [decide_eq_false (by omega)]) (op_eql rfl rfl)) ?_)))
  refine za rfl (wl_nil (st_tn (w_cond_f (rfl) ?_)))
  refine w_region (zd rfl (op_val (v' := .bool false) (by rw [decide_eq_false (by omega)]) (op_eql rfl rfl)) ?_)
  refine za rfl (wl_nil (st_tn (w_cond_f (rfl) ?_)))
  refine w_seq (w_region (zd rfl (op_val (v' := .bool false) (by rw [decide_eq_false (by omega)]) (op_eql rfl rfl)) ?_))
  refine za rfl (wl_nil (st_tn (w_cond_f (rfl) ?_)))
  refine w_seq (w_region (zd rfl (op_val (v' := .bool true) (by rw [decide_eq_true (by omega)]) (op_eql rfl rfl)) ?_))
  refine za rfl (wl_nil (st_tn (w_cond_t (rfl) ?_)))
  refine w_seq (w_region (zm rfl (zd rfl (op_loadA rfl tA41xg (Ent.lab (l := 8) rfl (says_cel 0)) (Nat.le_of_ble_eq_true rfl)) (zd rfl (op_loadA rfl tA52xg (Ent.lab (l := 7) rfl (says_cel 0)) (Nat.le_of_ble_eq_true rfl)) (zd rfl (op_fn Try.func41 rfl rfl rfl (fn_imp (mnumber_any x hx.2 (by omega)) (fun u ρ hu => (by rw [← hn] at hu; exact hu : u = .int .i64 n ∧ ρ = [])))) ?_)))))
  refine wl_op [601, 611] rfl rfl rfl rfl (op_fn Try.func34 rfl rfl rfl (ltrunc_c 601 611 n (by omega) hc hS.ok hg hnm)) ?_
  rintro _ _ ⟨rfl, rfl⟩
  refine za rfl (wl_nil (st_tn (w_seq ?_)))
  by_cases h27 : e = 27
  · -- h27+
    refine w_drawW (fun β => [⟨100, [], [], [], noW (_), false, [], []⟩, ⟨101, [], [], [], noW (_), false, [], []⟩, ⟨102, [], [], [], noW (_), false, [], []⟩, ⟨103, [], [], [], noW (_), false, [], []⟩, ⟨104, [2, 3], [], [], noW (_), false, [], []⟩, ⟨105, [], [], [], noW (_), false, [], []⟩, ⟨106, [5], [], [], noW (_), false, [], []⟩, ⟨107, [6], [], [], noW (_), false, [], []⟩, ⟨108, [1, 4, 7], [], [], noW (_), false, [], []⟩, ⟨109, [], [], [], noW (_), false, [], []⟩, ⟨110, [9], [], [], noW (_), false, [], []⟩, ⟨111, [10], [], [], noW (_), false, [], []⟩, ⟨112, [], [], [], noW (_), false, [], []⟩, ⟨113, [12], [], [], noW (_), false, [], []⟩, ⟨114, [11, 13], [], [], noW (_), false, [], []⟩, ⟨115, [], [], [], noW (_), false, [], []⟩, ⟨116, [15], [], [], noW (_), false, [], []⟩, ⟨10, [0], [], [], noW (_), false, [], []⟩, ⟨150, [8], [], [(11, _)], noW (_), false, [], []⟩, ⟨12, [14], [], [], noW (_), false, [], []⟩]) [11] [1, 7, 8, 18, 11] [⟨100, [], [], false, [], []⟩, ⟨101, [], [], false, [], []⟩, ⟨102, [], [], false, [], []⟩, ⟨103, [], [], false, [], []⟩, ⟨104, [2, 3], [], false, [], []⟩, ⟨105, [], [], false, [], []⟩, ⟨106, [5], [], false, [], []⟩, ⟨107, [6], [], false, [], []⟩, ⟨108, [1, 4, 7], [], false, [], []⟩, ⟨109, [], [], false, [], []⟩, ⟨110, [9], [], false, [], []⟩, ⟨111, [10], [], false, [], []⟩, ⟨112, [], [], false, [], []⟩, ⟨113, [12], [], false, [], []⟩, ⟨114, [11, 13], [], false, [], []⟩, ⟨115, [], [], false, [], []⟩, ⟨116, [15], [], false, [], []⟩, ⟨10, [0], [], false, [], []⟩, ⟨150, [8], [], false, [], []⟩, ⟨12, [14], [], false, [], []⟩] [[], [], [], [], [], [], [], [], [], [], [], [], [], [], [], [], [], [], [], []] [[], [], [], [], [], [], [], [], [], [], [], [], [], [], [], [], [], [], [(11, _)], []] tMixxg (fun _ => by rfl) (fun _ => by rfl) (by kernel_rfl) (by kernel_rfl) (by rfl) (by rfl)
        (fun β => ⟨.p rfl (by intro X; exact op_move rfl),
        ⟨.p rfl (by intro X; exact op_loadA rfl tA52xg (Ent.lab (l := 7) rfl (says_cel 0)) (Nat.le_of_ble_eq_true rfl)),
        ⟨.p rfl (by intro X; exact op_loadA rfl tA41xg (Ent.lab (l := 8) rfl (says_cel 0)) (Nat.le_of_ble_eq_true rfl)),
        ⟨.p rfl (by intro X; exact op_loadA rfl tA52xg (Ent.lab (l := 7) rfl (says_cel 0)) (Nat.le_of_ble_eq_true rfl)),
        ⟨.p rfl (by intro X; rintro _ _ ⟨rfl, rfl⟩ _ _ ⟨rfl, rfl⟩; exact op_fn Try.func41 rfl rfl rfl (fn_imp (mnumber_any x hx.2 (by omega)) (fun u ρ hu => (by rw [← hn] at hu; exact hu : u = .int .i64 n ∧ ρ = [])))),
        ⟨.p rfl (by intro X; exact op_fieldAddr (off := 0) rfl tF52_0xg),
        ⟨.p rfl (by intro X; rintro _ _ ⟨rfl, rfl⟩; exact op_load1 rfl tO50xg (Ent.lab (l := 7) rfl (says_cel 0))),
        ⟨.p rfl (by intro X; rintro _ _ ⟨rfl, rfl⟩; exact op_lenT (enc := encSegV) (l := Y) rfl tS50xg (Sl.ent (hm.slx rfl (by omega)))),
        ⟨.p rfl (by intro X; rintro _ _ ⟨rfl, rfl⟩ _ _ ⟨rfl, rfl⟩ _ _ ⟨rfl, rfl⟩; exact op_fn Try.func40 rfl rfl rfl (fn_imp (mtrunc_any n Y.length (by omega) (by omega) (hm.slx rfl (by omega)) (hm.slr rfl (by omega)) (by omega)) (fun u ρ hu => (by rw [← hj] at hu; exact hu : u = .agg #[.slice (subJ a c j).1 (Y.drop j).length (subJ a c j).2, .int .i64 ((L.first + (recsX (Y.take j)).length : Nat) : Int), .slice p L.pend.length cp, .bool L.fresh] ∧ ρ = [])))),
        ⟨.p rfl (by intro X; exact op_move rfl),
        ⟨.p rfl (by intro X; rintro _ _ ⟨rfl, rfl⟩; exact op_val (v' := .bool false) (by rw [decide_eq_false (by omega)]) (op_eql rfl rfl)),
        ⟨.p rfl (by intro X; rintro _ _ ⟨rfl, rfl⟩; exact op_move rfl),
        ⟨.w rfl rfl rfl (by rintro _ _ ⟨rfl, rfl⟩; rfl) (by intro X; exact op_move rfl),
        ⟨.w rfl rfl rfl (by rintro _ _ ⟨rfl, rfl⟩; rfl) (by intro X; rintro _ _ ⟨rfl, rfl⟩; exact op_val (v' := .bool true) (by rw [decide_eq_true h27]) (op_eql rfl rfl)),
        ⟨.p rfl (by intro X; rintro _ _ ⟨rfl, rfl⟩ _ _ ⟨rfl, rfl⟩; exact op_pick_f rfl rfl),
        ⟨.p rfl (by intro X; exact op_move rfl),
        ⟨.p rfl (by intro X; rintro _ _ ⟨rfl, rfl⟩; exact op_eql rfl rfl),
        ⟨.p rfl (by intro X; rintro _ _ ⟨rfl, rfl⟩; exact op_assign rfl),
        ⟨.p rfl (by intro X; rintro _ _ ⟨rfl, rfl⟩; exact op_store rfl rfl tZ52xg (by rfl) (by rfl) (by exact Nat.le_of_ble_eq_true rfl)) (hu := by exact .inr fun _ _ h => h.1),
        ⟨.p rfl (by intro X; rintro _ _ ⟨rfl, rfl⟩; exact op_assign rfl),
        trivial⟩⟩⟩⟩⟩⟩⟩⟩⟩⟩⟩⟩⟩⟩⟩⟩⟩⟩⟩⟩)
        (fun β β' => ⟨fun _ => by rfl, ⟨fun _ => by rfl, ⟨fun _ => by rfl, ⟨fun _ => by rfl, ⟨fun _ => by rfl, ⟨fun _ => by rfl, ⟨fun _ => by rfl, ⟨fun _ => by rfl, ⟨fun _ => by rfl, ⟨fun _ => by rfl, ⟨fun _ => by rfl, ⟨fun _ => by rfl, ⟨fun _ => by rfl, ⟨fun _ => by rfl, ⟨fun _ => by rfl, ⟨fun _ => by rfl, ⟨fun _ => by rfl, ⟨fun _ => by rfl, ⟨fun _ => by rfl, ⟨fun _ => by rfl, trivial⟩⟩⟩⟩⟩⟩⟩⟩⟩⟩⟩⟩⟩⟩⟩⟩⟩⟩⟩⟩) ?_
    intro β
    rintro _ _ ⟨rfl, rfl⟩ _ _ ⟨rfl, rfl⟩ _ _ ⟨rfl, rfl⟩ _ _ ⟨rfl, rfl⟩ _ _ ⟨rfl, rfl⟩ _ _ ⟨rfl, rfl⟩ _ _ ⟨rfl, rfl⟩ _ _ ⟨rfl, rfl⟩ _ _ ⟨rfl, rfl⟩ _ _ ⟨rfl, rfl⟩ _ _ ⟨rfl, rfl⟩ _ _ ⟨rfl, rfl⟩ _ _ ⟨rfl, rfl⟩ _ _ ⟨rfl, rfl⟩ _ _ ⟨rfl, rfl⟩ _ _ ⟨rfl, rfl⟩ _ _ ⟨rfl, rfl⟩ _ _ ⟨rfl, rfl⟩ _ _ ⟨rfl, rfl⟩ _ _ ⟨rfl, rfl⟩
    refine wl_norm (e' := [(10, _), (11, _), (12, _), (116, _)]) (.cons rfl (.cons rfl (.cons rfl (.cons rfl (.nil _))))) (by dsimp only [cond_false, cond_true, List.nil_append, List.cons_append]) ?_
    refine za rfl (wl_nil (st_tn (w_ret (st_br (st_tr (st_ret (vs := [_, _, _, _]) [601, 611, 605, 606] Try.results27 ⟨rfl, ⟨⟨_, rfl, Ent.mono (Ent.lab (l := 11) rfl (says_cel 0)) (fun _ h => run_load_agg tA52xg h (Nat.le_of_ble_eq_true rfl))⟩, ⟨rfl, ⟨rfl, trivial⟩⟩⟩⟩ rfl ?_))))))
    refine ⟨[(601, _), (611, _), (605, _), (606, _)], rfl, ?_⟩
    refine ⟨_, ⟨(subJ a c j).1, (subJ a c j).2, p, cp, Y.drop j, ?_⟩, rfl, rfl⟩
    rw [← hYl, ← htj, ← hj]
    refine ⟨?_, .sub j hm.inx (by omega), fun x hx => hm.ins x (List.mem_of_mem_drop hx), hm.inp, yrel_drop hm.rel j⟩
    have h3 := congrArg List.length (yrel_take hm.rel j).recs
    unfold dropL
    dsimp only
    rw [← h3]; rfl
  · -- h27-
    refine w_drawW (fun β => [⟨100, [], [], [], noW (_), false, [], []⟩, ⟨101, [], [], [], noW (_), false, [], []⟩, ⟨102, [], [], [], noW (_), false, [], []⟩, ⟨103, [], [], [], noW (_), false, [], []⟩, ⟨104, [2, 3], [], [], noW (_), false, [], []⟩, ⟨105, [], [], [], noW (_), false, [], []⟩, ⟨106, [5], [], [], noW (_), false, [], []⟩, ⟨107, [6], [], [], noW (_), false, [], []⟩, ⟨108, [1, 4, 7], [], [], noW (_), false, [], []⟩, ⟨109, [], [], [], noW (_), false, [], []⟩, ⟨110, [9], [], [], noW (_), false, [], []⟩, ⟨111, [10], [], [], noW (_), false, [], []⟩, ⟨112, [], [], [], noW (Det undef), false, [], []⟩, ⟨113, [], [], [], noW (Det undef), false, [], []⟩, ⟨114, [11, 13], [], [], noW (_), false, [], []⟩, ⟨115, [], [], [], noW (_), false, [], []⟩, ⟨116, [15], [], [], noW (_), false, [], []⟩, ⟨10, [0], [], [], noW (_), false, [], []⟩, ⟨150, [8], [], [(11, _)], noW (_), false, [], []⟩, ⟨12, [14], [], [], noW (_), false, [], []⟩]) [11] [1, 7, 8, 18, 11] [⟨100, [], [], false, [], []⟩, ⟨101, [], [], false, [], []⟩, ⟨102, [], [], false, [], []⟩, ⟨103, [], [], false, [], []⟩, ⟨104, [2, 3], [], false, [], []⟩, ⟨105, [], [], false, [], []⟩, ⟨106, [5], [], false, [], []⟩, ⟨107, [6], [], false, [], []⟩, ⟨108, [1, 4, 7], [], false, [], []⟩, ⟨109, [], [], false, [], []⟩, ⟨110, [9], [], false, [], []⟩, ⟨111, [10], [], false, [], []⟩, ⟨112, [], [], false, [], []⟩, ⟨113, [], [], false, [], []⟩, ⟨114, [11, 13], [], false, [], []⟩, ⟨115, [], [], false, [], []⟩, ⟨116, [15], [], false, [], []⟩, ⟨10, [0], [], false, [], []⟩, ⟨150, [8], [], false, [], []⟩, ⟨12, [14], [], false, [], []⟩] [[], [], [], [], [], [], [], [], [], [], [], [], [], [], [], [], [], [], [], []] [[], [], [], [], [], [], [], [], [], [], [], [], [], [], [], [], [], [], [(11, _)], []] tMixxg (fun _ => by rfl) (fun _ => by rfl) (by kernel_rfl) (by kernel_rfl) (by rfl) (by rfl)
        (fun β => ⟨.p rfl (by intro X; exact op_move rfl),
        ⟨.p rfl (by intro X; exact op_loadA rfl tA52xg (Ent.lab (l := 7) rfl (says_cel 0)) (Nat.le_of_ble_eq_true rfl)),
        ⟨.p rfl (by intro X; exact op_loadA rfl tA41xg (Ent.lab (l := 8) rfl (says_cel 0)) (Nat.le_of_ble_eq_true rfl)),
        ⟨.p rfl (by intro X; exact op_loadA rfl tA52xg (Ent.lab (l := 7) rfl (says_cel 0)) (Nat.le_of_ble_eq_true rfl)),
        ⟨.p rfl (by intro X; rintro _ _ ⟨rfl, rfl⟩ _ _ ⟨rfl, rfl⟩; exact op_fn Try.func41 rfl rfl rfl (fn_imp (mnumber_any x hx.2 (by omega)) (fun u ρ hu => (by rw [← hn] at hu; exact hu : u = .int .i64 n ∧ ρ = [])))),
        ⟨.p rfl (by intro X; exact op_fieldAddr (off := 0) rfl tF52_0xg),
        ⟨.p rfl (by intro X; rintro _ _ ⟨rfl, rfl⟩; exact op_load1 rfl tO50xg (Ent.lab (l := 7) rfl (says_cel 0))),
        ⟨.p rfl (by intro X; rintro _ _ ⟨rfl, rfl⟩; exact op_lenT (enc := encSegV) (l := Y) rfl tS50xg (Sl.ent (hm.slx rfl (by omega)))),
        ⟨.p rfl (by intro X; rintro _ _ ⟨rfl, rfl⟩ _ _ ⟨rfl, rfl⟩ _ _ ⟨rfl, rfl⟩; exact op_fn Try.func40 rfl rfl rfl (fn_imp (mtrunc_any n Y.length (by omega) (by omega) (hm.slx rfl (by omega)) (hm.slr rfl (by omega)) (by omega)) (fun u ρ hu => (by rw [← hj] at hu; exact hu : u = .agg #[.slice (subJ a c j).1 (Y.drop j).length (subJ a c j).2, .int .i64 ((L.first + (recsX (Y.take j)).length : Nat) : Int), .slice p L.pend.length cp, .bool L.fresh] ∧ ρ = [])))),
        ⟨.p rfl (by intro X; exact op_move rfl),
        ⟨.p rfl (by intro X; rintro _ _ ⟨rfl, rfl⟩; exact op_val (v' := .bool true) (by rw [decide_eq_true (he.resolve_left h27)]) (op_eql rfl rfl)),
        ⟨.p rfl (by intro X; rintro _ _ ⟨rfl, rfl⟩; exact op_move rfl),
        ⟨.u rfl rfl rfl (by rintro _ _ ⟨rfl, rfl⟩; exact congrArg (offB false) (by rfl : _ = Value.bool true)) ⟨rfl, rfl⟩ rfl rfl,
        ⟨.u rfl rfl rfl (by rintro _ _ ⟨rfl, rfl⟩; exact congrArg (offB false) (by rfl : _ = Value.bool true)) ⟨rfl, rfl⟩ rfl rfl,
        ⟨.p rfl (by intro X; rintro _ _ ⟨rfl, rfl⟩ _ _ ⟨rfl, rfl⟩; exact op_pick_t rfl rfl),
        ⟨.p rfl (by intro X; exact op_move rfl),
        ⟨.p rfl (by intro X; rintro _ _ ⟨rfl, rfl⟩; exact op_eql rfl rfl),
        ⟨.p rfl (by intro X; rintro _ _ ⟨rfl, rfl⟩; exact op_assign rfl),
        ⟨.p rfl (by intro X; rintro _ _ ⟨rfl, rfl⟩; exact op_store rfl rfl tZ52xg (by rfl) (by rfl) (by exact Nat.le_of_ble_eq_true rfl)) (hu := by exact .inr fun _ _ h => h.1),
        ⟨.p rfl (by intro X; rintro _ _ ⟨rfl, rfl⟩; exact op_assign rfl),
        trivial⟩⟩⟩⟩⟩⟩⟩⟩⟩⟩⟩⟩⟩⟩⟩⟩⟩⟩⟩⟩)
        (fun β β' => ⟨fun _ => by rfl, ⟨fun _ => by rfl, ⟨fun _ => by rfl, ⟨fun _ => by rfl, ⟨fun _ => by rfl, ⟨fun _ => by rfl, ⟨fun _ => by rfl, ⟨fun _ => by rfl, ⟨fun _ => by rfl, ⟨fun _ => by rfl, ⟨fun _ => by rfl, ⟨fun _ => by rfl, ⟨fun _ => by rfl, ⟨fun _ => by rfl, ⟨fun _ => by rfl, ⟨fun _ => by rfl, ⟨fun _ => by rfl, ⟨fun _ => by rfl, ⟨fun _ => by rfl, ⟨fun _ => by rfl, trivial⟩⟩⟩⟩⟩⟩⟩⟩⟩⟩⟩⟩⟩⟩⟩⟩⟩⟩⟩⟩) ?_
    intro β
    rintro _ _ ⟨rfl, rfl⟩ _ _ ⟨rfl, rfl⟩ _ _ ⟨rfl, rfl⟩ _ _ ⟨rfl, rfl⟩ _ _ ⟨rfl, rfl⟩ _ _ ⟨rfl, rfl⟩ _ _ ⟨rfl, rfl⟩ _ _ ⟨rfl, rfl⟩ _ _ ⟨rfl, rfl⟩ _ _ ⟨rfl, rfl⟩ _ _ ⟨rfl, rfl⟩ _ _ ⟨rfl, rfl⟩ _ _ ⟨rfl, rfl⟩ _ _ ⟨rfl, rfl⟩ _ _ ⟨rfl, rfl⟩ _ _ ⟨rfl, rfl⟩ _ _ ⟨rfl, rfl⟩ _ _ ⟨rfl, rfl⟩ _ _ ⟨rfl, rfl⟩ _ _ ⟨rfl, rfl⟩
    refine wl_norm (e' := [(10, _), (11, _), (12, _), (116, _)]) (.cons rfl (.cons rfl (.cons rfl (.cons rfl (.nil _))))) (by dsimp only [cond_false, cond_true, List.nil_append, List.cons_append]) ?_
    refine za rfl (wl_nil (st_tn (w_ret (st_br (st_tr (st_ret (vs := [_, _, _, _]) [601, 611, 605, 606] Try.results27 ⟨rfl, ⟨⟨_, rfl, Ent.mono (Ent.lab (l := 11) rfl (says_cel 0)) (fun _ h => run_load_agg tA52xg h (Nat.le_of_ble_eq_true rfl))⟩, ⟨rfl, ⟨rfl, trivial⟩⟩⟩⟩ rfl ?_))))))
    refine ⟨[(601, _), (611, _), (605, _), (606, _)], rfl, ?_⟩
    refine ⟨_, ⟨(subJ a c j).1, (subJ a c j).2, p, cp, Y.drop j, ?_⟩, rfl, rfl⟩
    rw [← hYl, ← htj, ← hj]
    refine ⟨?_, .sub j hm.inx (by omega), fun x hx => hm.ins x (List.mem_of_mem_drop hx), hm.inp, yrel_drop hm.rel j⟩
    have h3 := congrArg List.length (yrel_take hm.rel j).recs
    unfold dropL
    dsimp only
    rw [← h3]; rfl
end Go.Proofs.Ytcbigmgakdanjaa
namespace Go.Proofs.Ytcbigmgakdanjaa
open Go Go.SL Go.RowKit Go.RdM Go.WalM
set_option linter.unusedVariables false
set_option linter.unusedSimpArgs false
theorem rep_all {L : Lg} (hS : OkS L.first L.segs) (hb : L.broken = false) : repS (rawL L) (allR L.segs) L.first = allR L.segs ∧ repE (rawL L) L.first = 0 := by
  have h1 := firstV_raw hS
  have h2 := lastV_raw hS
  rw [if_neg (by simp [hb])] at h1 h2
  have hp := hS.pos
  have h3 : repE (rawL L) L.first = 0 := by
    unfold repE
    rw [if_neg (by show ¬ L.broken = true; simp [hb]), h1, h2, if_neg (by unfold lastN; omega), if_neg (by omega)]
  refine ⟨?_, h3⟩
  unfold repS
  rw [if_pos h3, h1]; simp
end Go.Proofs.Ytcbigmgakdanjaa
namespace Go.Proofs.Ytcbigmgakdanjaa
open Go Go.SL Go.RowKit Go.RdM Go.WalM
set_option linter.unusedVariables false
set_option linter.unusedSimpArgs false
def Clean (fs : DskM.Files) : Prop := ∀ p ∈ fs, p.2.dur = true ∧ p.2.syn = p.2.data.length
structure Rn (nm : RdM.Bs) (i : Nat) (L : Lg) (s : DskM.St) : Prop where
  ok : OkL L
  br : L.broken = false
  on : OnD nm L s
  good : DskM.Good s
  dn : s.down = false
  lm : s.lim = false
  cap : s.cap = 262144
  tot : L.first + (allR L.segs).length + L.pend.length ≤ i + 1
  pr : ∀ r ∈ L.pend, r.length ≤ 39
  num : ∀ x ∈ L.segs, x.num ≤ i
  cnt : s.fs.length ≤ i
  us : DskM.used s.fs + 48 * L.pend.length ≤ 84 * i
  cl : Clean s.fs
theorem Rn.sm {nm : RdM.Bs} {i : Nat} {L : Lg} {s : DskM.St} (h : Rn nm i L s) (hi : i ≤ 100) : Sm L := ⟨h.ok, h.br, by have := h.tot; omega, by have := h.tot; omega, by have := h.tot; have := h.ok.seg.pos; omega⟩
theorem rn_new (nm : RdM.Bs) : Rn nm 0 newL (newS 262144) := ⟨okl_new, rfl, onD_new nm _, good_new (by decide), rfl, rfl, rfl, by simp [newL, allR], fun r hr => by simp [newL] at hr, fun x hx => by simp [newL] at hx, by simp [newS], by simp [newS, newL, DskM.used], fun p hp => by simp [newS] at hp⟩
theorem Rn.app {nm : RdM.Bs} {i : Nat} {L : Lg} {s : DskM.St} (h : Rn nm i L s) (hi : i ≤ 100) {r : RdM.Bs} (hr : r.length ≤ 39) : Rn nm (i + 1) { L with pend := L.pend ++ [r] } s := by
  have ht := h.tot
  have hu := h.us
  have hp := h.ok.seg.pos
  refine ⟨⟨h.ok.seg, fun q hq => ?_, by show (L.pend ++ [r]).length ≤ _; rw [List.length_append, List.length_singleton]; omega, h.ok.sz⟩, h.br, ⟨h.on.holds, h.on.tail⟩, h.good, h.dn, h.lm, h.cap, by show L.first + (allR L.segs).length + (L.pend ++ [r]).length ≤ _; rw [List.length_append, List.length_singleton]; omega, fun q hq => ?_, fun x hx => by have := h.num x hx; omega, by have := h.cnt; omega, by show _ + 48 * (L.pend ++ [r]).length ≤ _; rw [List.length_append, List.length_singleton]; omega, h.cl⟩
  · rcases List.mem_append.1 hq with hq | hq
    · exact h.ok.pc q hq
    · rw [List.mem_singleton] at hq; subst hq; omega
  · rcases List.mem_append.1 hq with hq | hq
    · exact h.pr q hq
    · rw [List.mem_singleton] at hq; subst hq; exact hr
theorem Rn.mono {nm : RdM.Bs} {i : Nat} {L : Lg} {s : DskM.St} (h : Rn nm i L s) : Rn nm (i + 1) L s := ⟨h.ok, h.br, h.on, h.good, h.dn, h.lm, h.cap, by have := h.tot; omega, h.pr, fun x hx => by have := h.num x hx; omega, by have := h.cnt; omega, by have := h.us; omega, h.cl⟩
theorem Rn.dis {nm : RdM.Bs} {i : Nat} {L : Lg} {s : DskM.St} (h : Rn nm i L s) : Rn nm (i + 1) { L with pend := [] } s := ⟨⟨h.ok.seg, fun r hr => by simp at hr, by simp, h.ok.sz⟩, h.br, ⟨h.on.holds, h.on.tail⟩, h.good, h.dn, h.lm, h.cap, by have := h.tot; show L.first + (allR L.segs).length + 0 ≤ _; omega, fun r hr => by simp at hr, fun x hx => by have := h.num x hx; omega, by have := h.cnt; omega, by have := h.us; show _ + 48 * 0 ≤ _; omega, h.cl⟩
theorem Rn.opn {nm : RdM.Bs} {i : Nat} {L : Lg} {s : DskM.St} (h : Rn nm i L s) : Rn nm (i + 1) (openL L) s := ⟨⟨h.ok.seg, fun r hr => by simp [openL] at hr, by simp [openL], h.ok.sz⟩, rfl, ⟨h.on.holds, fun hh => by simp [openL] at hh⟩, h.good, h.dn, h.lm, h.cap, by have := h.tot; show L.first + (allR L.segs).length + 0 ≤ _; omega, fun r hr => by simp [openL] at hr, fun x hx => by have := h.num x hx; omega, by have := h.cnt; omega, by have := h.us; show _ + 48 * 0 ≤ _; omega, h.cl⟩
theorem sum_le {g : List RdM.Bs} (h : ∀ r ∈ g, r.length ≤ 39) : (g.map List.length).sum ≤ 39 * g.length := by
  induction g with
  | nil => simp
  | cons x g ih =>
    have h1 := ih fun r hr => h r (by simp [hr])
    have h2 := h x (by simp)
    simp only [List.map_cons, List.sum_cons, List.length_cons]; omega
theorem mem_set' {k : RdM.Bs} {f : DskM.Fl} {fs : DskM.Files} {q : RdM.Bs × DskM.Fl} (h : q ∈ DskM.setS fs k f) : q = (k, f) ∨ q ∈ fs := DskM.mem_setS h
theorem nextN_lt' {S : List Sg} {fr : Bool} {k : Nat} (h : ∀ x ∈ S, x.num ≤ k) : nextN S fr ≤ k + 1 := by
  rcases List.eq_nil_or_concat S with h0 | ⟨S', y, rfl⟩
  · subst h0; unfold nextN; simp
  · rw [List.concat_eq_append] at h ⊢
    have := h y (by simp)
    unfold nextN
    rw [List.getLast?_concat]
    dsimp only
    split <;> omega
theorem noteS_num' {S : List Sg} {n k : Nat} {g : List RdM.Bs} (h : ∀ x ∈ S, x.num ≤ k) (hn : n ≤ k) : ∀ x ∈ noteS S n g, x.num ≤ k := fun x hx => by
  rcases noteS_mem hx with h1 | ⟨y, h1, h2, h3⟩ | h1
  · exact h x h1
  · subst h3; exact hn
  · subst h1; exact hn
theorem Rn.com {nm : RdM.Bs} {i : Nat} {L : Lg} {s : DskM.St} (h : Rn nm i L s) (hi : i ≤ 100) (hnm : DskM.nameB nm = true ∧ nm.length ≤ 48) : ∃ s', comO nm L s = ((((lastN (commitL L) : Nat) : Int), 0), commitL L, s') ∧ Rn nm (i + 1) (commitL L) s' := by
  by_cases hp : L.pend = []
  · refine ⟨s, ?_, ?_⟩
    · rw [commitL_nil hp]; exact com_none h.br hp
    · rw [commitL_nil hp]; exact h.mono
  · have ht := h.tot
    have hu := h.us
    have hpo := h.ok.seg.pos
    have hnx := nextN_lt' (fr := L.fresh) h.num
    have hes := encG_sum (f := lastN L + 1) (g := L.pend) ⟨hp, h.ok.pl, h.ok.pc⟩ (by unfold lastN; omega)
    have hsm := sum_le h.pr
    have hcnt := h.cnt
    obtain ⟨s1, hs1, e1, e2, e3, e4, e5, e6, e7, e8, e9⟩ := com_all (nm := nm) h.ok h.on h.good h.dn h.lm hnm h.br hp (by omega) (by omega) (by rw [h.cap]; omega) (by omega)
    have hcl := lastN_commit hp
    have hac := allR_commit L
    have hacl := congrArg List.length hac
    rw [List.length_append] at hacl
    have hfc := first_commit L
    refine ⟨s1, e1, ⟨e4, by rw [hcl]; exact h.br, e3, e2, e5, e6, by rw [e7]; exact h.cap, ?_, by rw [hcl]; intro r hr; simp at hr, ?_, by omega, ?_, ?_⟩⟩
    · rw [hfc, hacl, hcl]; show _ + 0 ≤ _; omega
    · rw [hcl]; exact noteS_num' (fun x hx => by have := h.num x hx; omega) hnx
    · rw [e8, hcl]; show _ + 48 * 0 ≤ _; omega
    · rw [hs1]
      intro p hp2
      rcases mem_set' hp2 with rfl | hp2
      · exact ⟨rfl, rfl⟩
      · exact h.cl p hp2
theorem rem_q {s : DskM.St} (hd : s.down = false) (hl : s.lim = false) {n : RdM.Bs} (hn : DskM.nameB n = true) {f : DskM.Fl} (hf : DskM.find s.fs n = some f) : DskM.remO s n = (0, { s with fs := DskM.delS s.fs n }) := by
  rw [rem_done (ready_ok hd hn) hf (by rw [oper_q hl]), oper_q hl]
theorem trS_le : ∀ (k f : Nat) (S : List Sg) (n : Int), trS f S n k ≤ S.length
  | 0, f, S, n => by cases S <;> simp [trS]
  | k + 1, f, [], n => by simp [trS]
  | k + 1, f, [x], n => by simp [trS]
  | k + 1, f, x :: y :: l, n => by
    rw [trS]
    have := trS_le k (f + x.recs.length) (y :: l) n
    simp only [List.length_cons] at *
    split <;> omega
theorem trunc_q {nm : RdM.Bs} {n : Int} (hnm : DskM.nameB nm = true ∧ nm.length ≤ 48) : ∀ {S : List Sg} {f : Nat} {s : DskM.St}, OkS f S → Holds f S (segsOf nm s.fs) → DskM.Good s → s.down = false → s.lim = false → Clean s.fs →
    ∃ s', truncG nm f S n s = (0, f + (allR (S.take (trS f S n S.length))).length, S.drop (trS f S n S.length), s') ∧ OkS (f + (allR (S.take (trS f S n S.length))).length) (S.drop (trS f S n S.length)) ∧ Holds (f + (allR (S.take (trS f S n S.length))).length) (S.drop (trS f S n S.length)) (segsOf nm s'.fs) ∧ segsOf nm s'.fs = (segsOf nm s.fs).drop (trS f S n S.length) ∧ DskM.Good s' ∧ s'.down = false ∧ s'.lim = false ∧ Clean s'.fs ∧ s'.cap = s.cap ∧ DskM.used s'.fs ≤ DskM.used s.fs ∧ s'.fs.length ≤ s.fs.length
  | [], f, s, h1, h2, h3, h4, h5, h6 => ⟨s, rfl, by simpa [trS, allR] using h1, by simpa [trS, allR] using h2, rfl, h3, h4, h5, h6, rfl, Nat.le_refl _, Nat.le_refl _⟩
  | [x], f, s, h1, h2, h3, h4, h5, h6 => ⟨s, rfl, by simpa [trS, allR] using h1, by simpa [trS, allR] using h2, rfl, h3, h4, h5, h6, rfl, Nat.le_refl _, Nat.le_refl _⟩
  | x :: y :: l, f, s, h1, h2, h3, h4, h5, h6 => by
    have hlen : (x :: y :: l).length = (y :: l).length + 1 := rfl
    rw [hlen, trS]
    by_cases hn : (f : Int) + x.recs.length - 1 ≤ n
    · rw [if_pos hn]
      obtain ⟨q, Q, hQ⟩ : ∃ q Q, segsOf nm s.fs = q :: Q := by
        cases hq : segsOf nm s.fs with
        | nil => rw [hq] at h2; exact h2.elim
        | cons q Q => exact ⟨q, Q, rfl⟩
      rw [hQ] at h2
      obtain ⟨hq1, _, hq3⟩ := h2
      have hxn := h1.num x (by simp)
      have hmem : (x.num, q.2) ∈ segsOf nm s.fs := by rw [hQ, ← hq1]; simp
      have hfd := find_seg h3.inc hmem
      have hrem := rem_q h4 h5 (inR_file hnm x.num) hfd
      have hgr := h3.rem (fileN nm x.num)
      rw [hrem] at hgr
      have hseg : segsOf nm (DskM.delS s.fs (fileN nm x.num)) = Q := by
        rw [segs_del hxn, hQ, List.filter_cons, if_neg (by simp [hq1]), List.filter_eq_self]
        intro z hz
        obtain ⟨t, ht1, ht2⟩ := holds_num hq3 z hz
        have := (List.pairwise_cons.1 h1.inc).1 t ht1
        exact decide_eq_true (by omega)
      have hud := DskM.used_del (k := fileN nm x.num) h3.inc
      have hld := DskM.len_del (k := fileN nm x.num) (fs := s.fs)
      obtain ⟨s', e1, e2, e3, e4, e5, e6, e7, e8, e9, e10, e11⟩ := trunc_q hnm (n := n) (S := y :: l) (f := f + x.recs.length) (s := { s with fs := DskM.delS s.fs (fileN nm x.num) }) (oks_tail h1 (by simp)) (by show Holds _ _ (segsOf nm (DskM.delS s.fs _)); rw [hseg]; exact hq3) hgr h4 h5 (fun p hp => h6 p (DskM.mem_delS hp).1)
      have hfst : ∀ j, f + (allR ((x :: y :: l).take (j + 1))).length = f + x.recs.length + (allR ((y :: l).take j)).length := fun j => by
        rw [List.take_succ_cons, allR_cons, List.length_append]; omega
      refine ⟨s', ?_, ?_, ?_, ?_, e5, e6, e7, e8, e9, by show _ ≤ _; have : DskM.used ({ s with fs := DskM.delS s.fs (fileN nm x.num) } : DskM.St).fs = DskM.used (DskM.delS s.fs (fileN nm x.num)) := rfl; omega, by have : ({ s with fs := DskM.delS s.fs (fileN nm x.num) } : DskM.St).fs.length = (DskM.delS s.fs (fileN nm x.num)).length := rfl; omega⟩
      · rw [truncG, if_pos hn, hrem, if_neg (by simp), e1, hfst, List.drop_succ_cons]
      · rw [hfst, List.drop_succ_cons]; exact e2
      · rw [hfst, List.drop_succ_cons]; exact e3
      · rw [e4, hQ, List.drop_succ_cons]
        show (segsOf nm (DskM.delS s.fs _)).drop _ = _
        rw [hseg]
    · rw [if_neg hn]
      refine ⟨s, by rw [truncG, if_neg hn]; simp [allR], by simpa [allR] using h1, by simpa [allR] using h2, rfl, h3, h4, h5, h6, rfl, Nat.le_refl _, Nat.le_refl _⟩
theorem Rn.tru {nm : RdM.Bs} {i : Nat} {L : Lg} {s : DskM.St} (h : Rn nm i L s) (hnm : DskM.nameB nm = true ∧ nm.length ≤ 48) (n : Int) : ∃ s', truncO nm L s n = (0, dropL L (trS L.first L.segs n L.segs.length), s') ∧ Rn nm (i + 1) (dropL L (trS L.first L.segs n L.segs.length)) s' := by
  obtain ⟨s', e1, e2, e3, e4, e5, e6, e7, e8, e9, e10, e11⟩ := trunc_q hnm (n := n) h.ok.seg h.on.holds h.good h.dn h.lm h.cl
  obtain ⟨j, hj⟩ : ∃ j, j = trS L.first L.segs n L.segs.length := ⟨_, rfl⟩
  have hjl := trS_le L.segs.length L.first L.segs n
  rw [← hj] at e1 e2 e3 e4 hjl ⊢
  have hall : (allR (L.segs.take j)).length + (allR (L.segs.drop j)).length = (allR L.segs).length := by
    rw [← List.length_append, ← allR_app, List.take_append_drop]
  have ht := h.tot
  have hsz := h.ok.sz
  refine ⟨s', ?_, ⟨⟨e2, h.ok.pc, h.ok.pl, by show L.first + (allR (L.segs.take j)).length + (allR (L.segs.drop j)).length ≤ _; omega⟩, h.br, ⟨e3, fun hf S x hS => ?_⟩, e5, e6, e7, e9.trans h.cap, by show L.first + (allR (L.segs.take j)).length + (allR (L.segs.drop j)).length + L.pend.length ≤ _; omega, h.pr, fun x hx => by have := h.num x (List.mem_of_mem_drop hx); omega, by have := h.cnt; omega, by have := h.us; show _ + 48 * L.pend.length ≤ _; omega, e8⟩⟩
  · unfold truncO
    rw [if_neg (by simp [h.br]), e1]
    have hb := h.br
    obtain ⟨f0, S0, p0, fr0, b0⟩ := L
    dsimp only at hb
    subst hb; rfl
  · change L.segs.drop j = S ++ [x] at hS
    have hseg : L.segs = (L.segs.take j ++ S) ++ [x] := by rw [List.append_assoc, ← hS, List.take_append_drop]
    obtain ⟨Q, q, hQ, hqd⟩ := h.on.tail hf _ _ hseg
    have hql := holds_len h.on.holds
    have hQl : Q.length + 1 = L.segs.length := by rw [hQ] at hql; simpa using hql
    have hSl : j + S.length + 1 = L.segs.length := by
      have := congrArg List.length hS
      rw [List.length_drop, List.length_append, List.length_singleton] at this; omega
    refine ⟨Q.drop j, q, ?_, ?_⟩
    · rw [e4, hQ, List.drop_append_of_le_length (by omega)]
    · rw [hqd, allR_app, List.length_append, ← Nat.add_assoc]; rfl
end Go.Proofs.Ytcbigmgakdanjaa
namespace Go.Proofs.Ytcbigmgakdanjaa
open Go Go.SL Go.RowKit Go.RdM Go.WalM
set_option linter.unusedVariables false
set_option linter.unusedSimpArgs false
def nth (v : Value) (j : Nat) : Value := match v with
  | .agg a => a.getD j (.bool false)
  | _ => .bool false
def vA (v : Value) : Option Addr := match v with
  | .slice a _ _ => a
  | _ => none
def vL (v : Value) : Nat := match v with
  | .slice _ l _ => l
  | _ => 0
def vC (v : Value) : Nat := match v with
  | .slice _ _ c => c
  | _ => 0
def vZ (v : Value) : Int := match v with
  | .int _ z => z
  | _ => 0
def vB (v : Value) : Bool := match v with
  | .bool b => b
  | _ => false
def sl1 (v : Value) : Value := .slice (vA v) (vL v) (vC v)
def st4 (v : Value) : Value := .agg #[sl1 (nth v 0), .int .i64 (vZ (nth v 1)), sl1 (nth v 2), .bool (vB (nth v 3))]
theorem MS.st4 {P1 : PS} {P2 : PX} {v : Value} {M : Lg} (h : MS P1 P2 v M) : MS P1 P2 (st4 v) M := by
  obtain ⟨a, c, p, cp, Y, hm⟩ := h
  have := hm.val
  subst this
  exact ⟨a, c, p, cp, Y, hm⟩
theorem MS.eq4 {P1 : PS} {P2 : PX} {v : Value} {M : Lg} (h : MS P1 P2 v M) : v = Go.Proofs.Ytcbigmgakdanjaa.st4 v := by
  obtain ⟨a, c, p, cp, Y, hm⟩ := h
  rw [hm.val]; rfl
abbrev RnT := PS × PX × Lg × DskM.St
def cR (nm : RdM.Bs) (d b : Nat) (x : RnT) : RL := [(601, dkR d x.2.2.2), (611, lgR b d nm x.2.2.1), (605, poolS x.1), (606, poolX x.2.1)]
abbrev ValX := Value
end Go.Proofs.Ytcbigmgakdanjaa
namespace Go.Proofs.Ytcbigmgakdanjaa
open Go Go.SL Go.RowKit Go.RdM Go.WalM
set_option linter.unusedVariables false
set_option linter.unusedSimpArgs false
end Go.Proofs.Ytcbigmgakdanjaa
namespace Go.Proofs.Ytcbigmgakdanjaa
open Go Go.SL Go.RowKit Go.RdM Go.WalM
set_option linter.unusedVariables false
set_option linter.unusedSimpArgs false
end Go.Proofs.Ytcbigmgakdanjaa
