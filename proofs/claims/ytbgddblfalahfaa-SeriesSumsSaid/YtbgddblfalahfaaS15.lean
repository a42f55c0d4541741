/- Contracts: Sum, and the law's join and sum (layer 43). Conditions: none. -/
import Derived.Test.YtbgddblfalahfaaS14
import Derived.Test.YtbgddblfalahfaaSlJ
namespace Go.Proofs.Ytbgddblfalahfaa
open Go Go.SL Go.RowKit
set_option linter.unusedVariables false
set_option linter.unusedSimpArgs false
theorem tA48o : aggB Try.prog 48 7 = true := by kernel_rfl
theorem tB48o : placesB Try.prog 48 = some ([(0, 1), (1, 1), (2, 1), (3, 2), (5, 1), (6, 1)], [Value.string .empty, Value.string .empty, Value.int .i64 0, Value.int .i64 0, Value.int .i64 0, Value.int .i64 0, Value.slice none 0 0]) := by kernel_rfl
theorem tF48_2o : fieldB Try.prog 48 2 2 = true := by kernel_rfl
theorem tF48_4o : fieldB Try.prog 48 4 5 = true := by kernel_rfl
theorem tF48_5o : fieldB Try.prog 48 5 6 = true := by kernel_rfl
theorem tL25_1o : zerosB Try.prog 25 3 1 1 = some [Value.int .i64 0] := by kernel_rfl
theorem tMixo : Try.prog.follows .mixedOrders = true := by kernel_rfl
theorem tN48o : (Try.prog.info? 48).bind (·.zero) = some (Value.agg #[Value.string .empty, Value.string .empty, Value.int .i64 0, Value.int .i64 0, Value.int .i64 0, Value.int .i64 0, Value.slice none 0 0]) := by kernel_rfl
theorem tO25o : oneB Try.prog 25 = true := by kernel_rfl
theorem tO3o : oneB Try.prog 3 = true := by kernel_rfl
theorem tP25o : appB Try.prog 25 3 1 8 = true := by kernel_rfl
theorem tS25o : sliceB Try.prog 25 3 1 = true := by kernel_rfl
theorem tZ25o : (Try.prog.info? 25).map (·.size) = some 1 := by kernel_rfl
theorem tZ3o : (Try.prog.info? 3).map (·.size) = some 1 := by kernel_rfl
theorem tZ48o : (Try.prog.info? 48).map (·.size) = some 7 := by kernel_rfl

/-- The sum in a slot, or the error. -/
def sumV (l : List Int) (fr : Int) (m : List Int) (fr' : Int) (x : Int) : Int × Int := if atV l fr x + atV m fr' x > 1099511627776 then (0, 20) else (atV l fr x + atV m fr' x, 0)
theorem atV_bd {l : List Int} {fr x : Int} (hv : ∀ x ∈ l, 0 ≤ x ∧ x ≤ 1099511627776) : 0 ≤ atV l fr x ∧ atV l fr x ≤ 1099511627776 := by
  unfold atV
  split
  · rw [List.getD_eq_getElem?_getD]
    cases h : l[(x - fr).toNat]? with
    | none => simp
    | some y => exact hv y (List.mem_of_getElem? h)
  · omega
theorem atV_bd5 {l : List Int} {fr x : Int} (hv : ∀ x ∈ l, 0 ≤ x ∧ x ≤ 255) : 0 ≤ atV l fr x ∧ atV l fr x ≤ 255 := by
  unfold atV
  split
  · rw [List.getD_eq_getElem?_getD]
    cases h : l[(x - fr).toNat]? with
    | none => simp
    | some y => exact hv y (List.mem_of_getElem? h)
  · omega
set_option maxHeartbeats 1000000 in
set_option maxRecDepth 100000 in
theorem sum1_any {σ : World} {F : List Res} {p q : Addr} {a b : Option Addr} {c d : Nat} {l m : List Int} {k : SK} {fr : Int} {k' : SK} {fr' : Int} (x : Int) (hp : Ent σ F (At p (sr k fr (.slice a l.length c)).cells.toList)) (hq : Ent σ F (At q (sr k' fr' (.slice b m.length d)).cells.toList)) (h : Sl σ F encZ 1 (.slice a l.length c) l) (g : Sl σ F encZ 1 (.slice b m.length d) m) (hl : l.length ≤ 1048576) (hm : m.length ≤ 1048576) (hf : -1099511627776 ≤ fr ∧ fr ≤ 1099511627776) (hf' : -1099511627776 ≤ fr' ∧ fr' ≤ 1099511627776) (hx : -9223372036854775808 ≤ x ∧ x ≤ 9223372036854775807) (hv : ∀ x ∈ l, 0 ≤ x ∧ x ≤ 1099511627776) (hw : ∀ x ∈ m, 0 ≤ x ∧ x ≤ 1099511627776) :
    FnT Try.prog σ F 73 [.int .i64 x, .pointer (some p), .pointer (some q)] [] (fun u ρ => u = .tuple #[.int .i64 (sumV l fr m fr' x).1, .int .i64 (sumV l fr m fr' x).2] ∧ ρ = []) := by
  refine fn_of 29 Try.func73 rfl Try.ntmps73 rfl ?_
  have h1 := atV_bd (fr := fr) (x := x) hv
  have h2 := atV_bd (fr := fr') (x := x) hw
  refine w_seq ?_
  refine w_region ?_
  refine wl_det rfl rfl rfl (op_assign rfl) ?_
  refine wl_det rfl rfl rfl (op_assign rfl) ?_
  refine wl_nil ?_
  refine st_tn ?_
  refine w_seq ?_
  refine w_region ?_
  refine wl_det rfl rfl rfl (op_loadA rfl tA48o (Ent.app hp _) (Nat.le_of_ble_eq_true rfl)) ?_
  refine wl_det rfl rfl rfl (op_move rfl) ?_
  refine wl_det rfl rfl rfl (op_fn Try.func43 rfl rfl rfl (at_any _ _ _ (Sl.app h _) (by omega) (by omega) (by omega))) ?_
  refine wl_det rfl rfl rfl (op_move rfl) ?_
  refine wl_det rfl rfl rfl (op_extract rfl rfl) ?_
  refine wl_det rfl rfl rfl (op_extract rfl rfl) ?_
  refine wl_det rfl rfl rfl (op_assign rfl) ?_
  refine wl_det rfl rfl rfl (op_assign rfl) ?_
  refine wl_nil ?_
  refine st_tn ?_
  refine w_seq ?_
  refine w_region ?_
  refine wl_det rfl rfl rfl (op_loadA rfl tA48o (Ent.app hq _) (Nat.le_of_ble_eq_true rfl)) ?_
  refine wl_det rfl rfl rfl (op_move rfl) ?_
  refine wl_det rfl rfl rfl (op_fn Try.func43 rfl rfl rfl (at_any _ _ _ (Sl.app g _) (by omega) (by omega) (by omega))) ?_
  refine wl_det rfl rfl rfl (op_move rfl) ?_
  refine wl_det rfl rfl rfl (op_extract rfl rfl) ?_
  refine wl_det rfl rfl rfl (op_extract rfl rfl) ?_
  refine wl_det rfl rfl rfl (op_assign rfl) ?_
  refine wl_det rfl rfl rfl (op_assign rfl) ?_
  refine wl_nil ?_
  refine st_tn ?_
  refine w_seq ?_
  refine w_seq ?_
  refine w_region ?_
  refine wl_det rfl rfl rfl (op_move rfl) ?_
  refine wl_det rfl rfl rfl (op_move rfl) ?_
  refine wl_det rfl rfl rfl (op_add' rfl rfl (by omega)) ?_
  refine wl_det rfl rfl rfl (op_gtr rfl rfl) ?_
  refine wl_nil ?_
  refine st_tn ?_
  refine w_cond_d rfl (fun hc25 => ?_) (fun hc25 => ?_)
  · -- c25.t
    refine w_seq ?_
    refine w_region ?_
    refine wl_det rfl rfl rfl (op_assign rfl) ?_
    refine wl_det rfl rfl rfl (op_assign rfl) ?_
    refine wl_nil ?_
    refine st_tn ?_
    refine w_ret ?_
    refine st_tr ?_
    refine st_ret (vs := [_, _]) [] Try.results73 ⟨rfl, ⟨rfl, trivial⟩⟩ rfl ?_
    refine ⟨_, rfl, ?_⟩
    unfold sumV; rw [if_pos hc25]; exact ⟨rfl, rfl⟩
  · -- c25.f
    refine w_skip ?_
    refine st_tn ?_
    refine w_seq ?_
    refine w_region ?_
    refine wl_det rfl rfl rfl (op_move rfl) ?_
    refine wl_det rfl rfl rfl (op_move rfl) ?_
    refine wl_det rfl rfl rfl (op_add' rfl rfl (by omega)) ?_
    refine wl_det rfl rfl rfl (op_assign rfl) ?_
    refine wl_det rfl rfl rfl (op_assign rfl) ?_
    refine wl_nil ?_
    refine st_tn ?_
    refine w_ret ?_
    refine st_ret (vs := [_, _]) [] Try.results73 ⟨rfl, ⟨rfl, trivial⟩⟩ rfl ?_
    refine ⟨_, rfl, ?_⟩
    unfold sumV; rw [if_neg hc25]; exact ⟨rfl, rfl⟩

/-- What Sum returns. -/
def sumR (k : SK) (fr : Int) (l : List Int) (k' : SK) (fr' : Int) (m : List Int) : R :=
  if ¬ sameK k k' then zeroR 17 else if k.met = 3 then zeroR 12 else if (oneR k fr l k' fr' m).2 = true then ⟨(oneR k fr l k' fr' m).1.k, (oneR k fr l k' fr' m).1.fr, (oneR k fr l k' fr' m).1.vals, 0⟩
  else bothR k (min fr fr') (max (fr + l.length) (fr' + m.length)) (sumV l fr m fr')
set_option maxHeartbeats 2000000 in
set_option maxRecDepth 100000 in
theorem sum_any {σ : World} {F : List Res} {a b : Option Addr} {c d : Nat} {l m : List Int} (lab : Nat) (k : SK) (fr : Int) (k' : SK) (fr' : Int) (h : Sl σ F encZ 1 (.slice a l.length c) l) (g : Sl σ F encZ 1 (.slice b m.length d) m) (hl : l.length ≤ 1048576) (hm : m.length ≤ 1048576) (hf : -1099511627776 ≤ fr ∧ fr ≤ 1099511627776) (hf' : -1099511627776 ≤ fr' ∧ fr' ≤ 1099511627776) (hv : ∀ x ∈ l, 0 ≤ x ∧ x ≤ 1099511627776) (hw : ∀ x ∈ m, 0 ≤ x ∧ x ≤ 1099511627776) :
    FnT Try.prog σ F 40 [sr k fr (.slice a l.length c), sr k' fr' (.slice b m.length d)] [] (SerV (sumR k fr l k' fr' m) lab) := by
  refine fn_of 33 Try.func40 rfl Try.ntmps40 rfl ?_
  have hle := h.i64
  have gle := g.i64
  refine w_seq ?_
  refine w_region ?_
  refine wl_op [] rfl rfl rfl rfl (op_box (T := 48) (l := 2) rfl) ?_
  rintro _ _ ⟨b2, rfl, rfl⟩
  refine wl_op [] rfl rfl rfl rfl (op_box (T := 48) (l := 3) rfl) ?_
  rintro _ _ ⟨b3, rfl, rfl⟩
  refine wl_op [] rfl rfl rfl rfl (op_alloc (l := 4) tN48o) ?_
  rintro _ _ ⟨b4, rfl, rfl⟩
  refine wl_det rfl rfl rfl (op_assign rfl) ?_
  refine wl_nil ?_
  refine st_tn ?_
  refine w_seq ?_
  refine w_block ?_
  refine w_seq ?_
  refine w_region ?_
  refine wl_det rfl rfl rfl (op_loadA rfl tA48o (Ent.lab (l := 2) rfl (says_cel 0)) (Nat.le_of_ble_eq_true rfl)) ?_
  refine wl_det rfl rfl rfl (op_loadA rfl tA48o (Ent.lab (l := 3) rfl (says_cel 0)) (Nat.le_of_ble_eq_true rfl)) ?_
  refine wl_det rfl rfl rfl (op_fn Try.func31 rfl rfl rfl (same_any k k' fr fr')) ?_
  refine wl_det rfl rfl rfl (op_not_d rfl) ?_
  refine wl_det rfl rfl rfl (op_assign rfl) ?_
  refine wl_nil ?_
  refine st_tn ?_
  refine w_cond_d rfl (fun hc8 => ?_) (fun hc8 => ?_)
  · -- c8.t
    refine w_seq ?_
    refine w_emp 77 (slO_nil 3 1) ?_
    refine w_region ?_
    refine wl_det rfl rfl rfl (op_build tB48o rfl rfl) ?_
    refine wl_op0 [4] rfl rfl rfl (op_store rfl rfl tZ48o (by rfl) (by rfl) (by exact Nat.le_of_ble_eq_true rfl)) ?_
    rintro _ _ ⟨rfl, rfl⟩
    refine wl_det rfl rfl rfl (op_assign rfl) ?_
    refine wl_nil ?_
    refine st_tn ?_
    refine w_ret ?_
    refine st_br ?_
    refine st_tr ?_
    refine st_ret (vs := [_, _]) [77] Try.results40 ⟨⟨_, rfl, Ent.mono (Ent.lab (l := 4) rfl (says_cel 0)) (fun _ h => run_load_agg tA48o h (Nat.le_of_ble_eq_true rfl))⟩, ⟨rfl, trivial⟩⟩ rfl ?_
    refine ⟨[(lab, _)], rfl, ?_⟩
    unfold sumR; rw [if_pos hc8]; exact ⟨none, 0, rfl, rfl⟩
  · -- c8.f
    refine w_seq ?_
    refine w_region ?_
    refine wl_det rfl rfl rfl (op_fieldAddr (off := 2) rfl tF48_2o) ?_
    refine wl_det rfl rfl rfl (op_load1 rfl tO3o (Ent.lab (l := 2) rfl (says_cel 2))) ?_
    refine wl_det rfl rfl rfl (op_eql rfl rfl) ?_
    refine wl_det rfl rfl rfl (op_assign rfl) ?_
    refine wl_nil ?_
    refine st_tn ?_
    refine w_cond_d rfl (fun hc14 => ?_) (fun hc14 => ?_)
    · -- c14.t
      refine w_seq ?_
      refine w_emp 77 (slO_nil 3 1) ?_
      refine w_region ?_
      refine wl_det rfl rfl rfl (op_build tB48o rfl rfl) ?_
      refine wl_op0 [4] rfl rfl rfl (op_store rfl rfl tZ48o (by rfl) (by rfl) (by exact Nat.le_of_ble_eq_true rfl)) ?_
      rintro _ _ ⟨rfl, rfl⟩
      refine wl_det rfl rfl rfl (op_assign rfl) ?_
      refine wl_nil ?_
      refine st_tn ?_
      refine w_ret ?_
      refine st_br ?_
      refine st_tr ?_
      refine st_ret (vs := [_, _]) [77] Try.results40 ⟨⟨_, rfl, Ent.mono (Ent.lab (l := 4) rfl (says_cel 0)) (fun _ h => run_load_agg tA48o h (Nat.le_of_ble_eq_true rfl))⟩, ⟨rfl, trivial⟩⟩ rfl ?_
      refine ⟨[(lab, _)], rfl, ?_⟩
      unfold sumR; rw [if_neg hc8, if_pos hc14]; exact ⟨none, 0, rfl, rfl⟩
    · -- c14.f
      refine w_skip ?_
      refine st_bn ?_
      refine st_tn ?_
      refine w_seq ?_
      refine w_seq ?_
      refine w_region ?_
      refine wl_det rfl rfl rfl (op_loadA rfl tA48o (Ent.lab (l := 2) rfl (says_cel 0)) (Nat.le_of_ble_eq_true rfl)) ?_
      refine wl_det rfl rfl rfl (op_loadA rfl tA48o (Ent.lab (l := 3) rfl (says_cel 0)) (Nat.le_of_ble_eq_true rfl)) ?_
      refine wl_op [] rfl rfl rfl rfl (op_fn Try.func70 rfl rfl rfl (one_any 22 _ _ _ _ (Sl.app h _) (Sl.app g _) (by omega) (by omega))) ?_
      rintro _ _ ⟨r22, o22, a22, c22, hro22, rfl, rfl⟩
      refine wl_det rfl rfl rfl (op_move rfl) ?_
      refine wl_det rfl rfl rfl (op_extract rfl rfl) ?_
      refine wl_det rfl rfl rfl (op_extract rfl rfl) ?_
      refine wl_op [] rfl rfl rfl rfl (op_alloc (l := 6) tN48o) ?_
      rintro _ _ ⟨b6, rfl, rfl⟩
      refine wl_op0 [6] rfl rfl rfl (op_store rfl rfl tZ48o (by rfl) (by rfl) (by exact Nat.le_of_ble_eq_true rfl)) ?_
      rintro _ _ ⟨rfl, rfl⟩
      refine wl_det rfl rfl rfl (op_assign rfl) ?_
      refine wl_nil ?_
      refine st_tn ?_
      refine w_seq ?_
      refine w_region ?_
      refine wl_det rfl rfl rfl (op_move rfl) ?_
      refine wl_nil ?_
      refine st_tn ?_
      refine w_cond rfl (fun hc25 => ?_) (fun hc25 => ?_)
      · -- c25.t
        refine w_seq ?_
        refine w_region ?_
        refine wl_det rfl rfl rfl (op_loadA rfl tA48o (Ent.lab (l := 6) rfl (says_cel 0)) (Nat.le_of_ble_eq_true rfl)) ?_
        refine wl_op0 [4] rfl rfl rfl (op_store rfl rfl tZ48o (by rfl) (by rfl) (by exact Nat.le_of_ble_eq_true rfl)) ?_
        rintro _ _ ⟨rfl, rfl⟩
        refine wl_det rfl rfl rfl (op_assign rfl) ?_
        refine wl_nil ?_
        refine st_tn ?_
        refine w_ret ?_
        refine st_tr ?_
        refine st_ret (vs := [_, _]) [22] Try.results40 ⟨⟨_, rfl, Ent.mono (Ent.lab (l := 4) rfl (says_cel 0)) (fun _ h => run_load_agg tA48o h (Nat.le_of_ble_eq_true rfl))⟩, ⟨rfl, trivial⟩⟩ rfl ?_
        refine ⟨[(lab, _)], rfl, ?_⟩
        subst hc25; have hj : sumR k fr l k' fr' m = ⟨r22.k, r22.fr, r22.vals, 0⟩ := by unfold sumR; rw [if_neg hc8, if_neg hc14, ← hro22]; rfl
        rw [hj]; exact ⟨_, _, rfl, rfl⟩
      · -- c25.f
        subst hc25
        have ho2 : ¬ (oneR k fr l k' fr' m).2 = true := by rw [← hro22]; simp
        refine w_skip ?_
        refine st_tn ?_
        refine w_seq ?_
        refine w_region ?_
        refine wl_det rfl rfl rfl (op_loadA rfl tA48o (Ent.lab (l := 2) rfl (says_cel 0)) (Nat.le_of_ble_eq_true rfl)) ?_
        refine wl_det rfl rfl rfl (op_loadA rfl tA48o (Ent.lab (l := 3) rfl (says_cel 0)) (Nat.le_of_ble_eq_true rfl)) ?_
        refine wl_det rfl rfl rfl (op_makeFunc rfl rfl) ?_
        refine wl_op [] rfl rfl rfl rfl (op_fn Try.func71 rfl rfl rfl (both_any (fs := []) (cs := [.pointer (some ⟨b2, 0, none⟩), .pointer (some ⟨b3, 0, none⟩)]) 30 k fr k' fr' (sumV l fr m fr') (Sl.app h _) (Sl.app g _) hl hm hf hf' Try.func73 rfl rfl (fun X s h1 h2 => sum1_any (k := k) (fr := fr) (k' := k') (fr' := fr') s (Ent.app (Ent.lab (l := 2) rfl (says_cel 0)) X) (Ent.app (Ent.lab (l := 3) rfl (says_cel 0)) X) (Sl.app (Sl.app h _) X) (Sl.app (Sl.app g _) X) hl hm hf hf' (by omega) hv hw))) ?_
        rintro _ _ ⟨a30, c30, rfl, rfl⟩
        refine wl_det rfl rfl rfl (op_extract rfl rfl) ?_
        refine wl_det rfl rfl rfl (op_extract rfl rfl) ?_
        refine wl_op0 [4] rfl rfl rfl (op_store rfl rfl tZ48o (by rfl) (by rfl) (by exact Nat.le_of_ble_eq_true rfl)) ?_
        rintro _ _ ⟨rfl, rfl⟩
        refine wl_det rfl rfl rfl (op_assign rfl) ?_
        refine wl_nil ?_
        refine st_tn ?_
        refine w_ret ?_
        refine st_ret (vs := [_, _]) [30] Try.results40 ⟨⟨_, rfl, Ent.mono (Ent.lab (l := 4) rfl (says_cel 0)) (fun _ h => run_load_agg tA48o h (Nat.le_of_ble_eq_true rfl))⟩, ⟨rfl, trivial⟩⟩ rfl ?_
        refine ⟨[(lab, _)], rfl, ?_⟩
        have hj : sumR k fr l k' fr' m = bothR k (min fr fr') (max (fr + l.length) (fr' + m.length)) (sumV l fr m fr') := by
          unfold sumR; rw [if_neg hc8, if_neg hc14, if_neg ho2]
        rw [hj]; exact ⟨_, _, rfl, rfl⟩

/-- The slice is one of the arguments'. -/
def alP (a : Option Addr) (c : Nat) (l : List Int) (b : Option Addr) (d : Nat) (m : List Int) (v : Value) (vals : List Int) : Prop := (v = .slice a l.length c ∧ vals = l) ∨ (v = .slice b m.length d ∧ vals = m)
def SerE (r : R) (lab : Nat) (al : Value → List Int → Prop) (u : Value) (ρ : RL) : Prop := ∃ a c, u = .tuple #[sr r.k r.fr (.slice a r.vals.length c), .int .i64 r.e] ∧ ρ = [(lab, slE 3 encZ 1 (.slice a r.vals.length c) r.vals (al (.slice a r.vals.length c) r.vals))]
theorem zeroE (al : Value → List Int → Prop) (v : Value) (h : v = .slice none 0 0) : slE 3 encZ 1 v ([] : List Int) (al v []) (fun _ => none) := .inl (by subst h; exact slO_nil 3 1)
set_option maxHeartbeats 2000000 in
set_option maxRecDepth 100000 in
theorem ljoin_any {σ : World} {F : List Res} {a b : Option Addr} {c d : Nat} {l m : List Int} (lab : Nat) (k : SK) (fr : Int) (k' : SK) (fr' : Int) (h : Sl σ F encZ 1 (.slice a l.length c) l) (g : Sl σ F encZ 1 (.slice b m.length d) m) (hl : l.length ≤ 1000) (hm : m.length ≤ 1000) (hf : 0 ≤ fr ∧ fr ≤ 1048576) (hf' : 0 ≤ fr' ∧ fr' ≤ 1048576) (hd : max (fr + l.length) (fr' + m.length) - min fr fr' ≤ 1024) :
    FnT Try.prog σ F 39 [sr k fr (.slice a l.length c), sr k' fr' (.slice b m.length d)] [] (SerE (joinR k fr l k' fr' m) lab (alP a c l b d m)) := by
  refine fn_of 104 Try.func39 rfl Try.ntmps39 rfl ?_
  have hle := h.i64
  have gle := g.i64
  refine w_seq ?_
  refine w_region ?_
  refine wl_op [] rfl rfl rfl rfl (op_box (T := 48) (l := 2) rfl) ?_
  rintro _ _ ⟨b2, rfl, rfl⟩
  refine wl_op [] rfl rfl rfl rfl (op_box (T := 48) (l := 3) rfl) ?_
  rintro _ _ ⟨b3, rfl, rfl⟩
  refine wl_op [] rfl rfl rfl rfl (op_alloc (l := 4) tN48o) ?_
  rintro _ _ ⟨b4, rfl, rfl⟩
  refine wl_det rfl rfl rfl (op_assign rfl) ?_
  refine wl_nil ?_
  refine st_tn ?_
  refine w_seq ?_
  refine w_drawW (fun β => [⟨14, [], [], [], noW (_), false, [], []⟩, ⟨15, [0], [], [], noW (_), false, [], []⟩, ⟨16, [], [], [], noW (_), false, [], []⟩, ⟨17, [2], [], [], noW (_), false, [], []⟩, ⟨18, [3], [], [], noW (_), false, [], []⟩, ⟨19, [1, 4], [], [], noW (_), false, [], []⟩, ⟨20, [], [], [], noW (_), false, [], []⟩, ⟨21, [6], [], [], noW (_), false, [], []⟩, ⟨22, [], [], [], noW (_), false, [], []⟩, ⟨23, [8], [], [], noW (_), false, [], []⟩, ⟨24, [9], [], [], noW (_), false, [], []⟩, ⟨25, [7, 10], [], [], noW (_), false, [], []⟩, ⟨6, [5], [], [], noW (_), false, [], []⟩]) [] [2, 3] [⟨14, [], [], false, [], []⟩, ⟨15, [0], [], false, [], []⟩, ⟨16, [], [], false, [], []⟩, ⟨17, [2], [], false, [], []⟩, ⟨18, [3], [], false, [], []⟩, ⟨19, [1, 4], [], false, [], []⟩, ⟨20, [], [], false, [], []⟩, ⟨21, [6], [], false, [], []⟩, ⟨22, [], [], false, [], []⟩, ⟨23, [8], [], false, [], []⟩, ⟨24, [9], [], false, [], []⟩, ⟨25, [7, 10], [], false, [], []⟩, ⟨6, [5], [], false, [], []⟩] [[], [], [], [], [], [], [], [], [], [], [], [], []] [[], [], [], [], [], [], [], [], [], [], [], [], []] tMixo (fun _ => by rfl) (fun _ => by rfl) (by kernel_rfl) (by kernel_rfl) (by rfl) (by rfl)
      (fun β => ⟨.p rfl (by intro X; exact op_fieldAddr (off := 5) rfl tF48_4o),
      ⟨.p rfl (by intro X; rintro _ _ ⟨rfl, rfl⟩; exact op_load1 rfl tO3o (Ent.lab (l := 2) rfl (says_cel 5))),
      ⟨.p rfl (by intro X; exact op_fieldAddr (off := 6) rfl tF48_5o),
      ⟨.p rfl (by intro X; rintro _ _ ⟨rfl, rfl⟩; exact op_load1 rfl tO25o (Ent.lab (l := 2) rfl (says_cel 6))),
      ⟨.p rfl (by intro X; rintro _ _ ⟨rfl, rfl⟩; exact op_lenT rfl tS25o (Sl.ent (Sl.app (Sl.app h X) _))),
      ⟨.p rfl (by intro X; rintro _ _ ⟨rfl, rfl⟩ _ _ ⟨rfl, rfl⟩; exact op_add' rfl rfl (by omega)),
      ⟨.p rfl (by intro X; exact op_fieldAddr (off := 5) rfl tF48_4o),
      ⟨.p rfl (by intro X; rintro _ _ ⟨rfl, rfl⟩; exact op_load1 rfl tO3o (Ent.lab (l := 3) rfl (says_cel 5))),
      ⟨.p rfl (by intro X; exact op_fieldAddr (off := 6) rfl tF48_5o),
      ⟨.p rfl (by intro X; rintro _ _ ⟨rfl, rfl⟩; exact op_load1 rfl tO25o (Ent.lab (l := 3) rfl (says_cel 6))),
      ⟨.p rfl (by intro X; rintro _ _ ⟨rfl, rfl⟩; exact op_lenT rfl tS25o (Sl.ent (Sl.app (Sl.app g X) _))),
      ⟨.p rfl (by intro X; rintro _ _ ⟨rfl, rfl⟩ _ _ ⟨rfl, rfl⟩; exact op_add' rfl rfl (by omega)),
      ⟨.p rfl (by intro X; rintro _ _ ⟨rfl, rfl⟩; exact op_assign rfl),
      trivial⟩⟩⟩⟩⟩⟩⟩⟩⟩⟩⟩⟩⟩)
      (fun β β' => ⟨fun _ => by rfl, ⟨fun _ => by rfl, ⟨fun _ => by rfl, ⟨fun _ => by rfl, ⟨fun _ => by rfl, ⟨fun _ => by rfl, ⟨fun _ => by rfl, ⟨fun _ => by rfl, ⟨fun _ => by rfl, ⟨fun _ => by rfl, ⟨fun _ => by rfl, ⟨fun _ => by rfl, ⟨fun _ => by rfl, trivial⟩⟩⟩⟩⟩⟩⟩⟩⟩⟩⟩⟩⟩) ?_
  intro β
  rintro _ _ ⟨rfl, rfl⟩ _ _ ⟨rfl, rfl⟩ _ _ ⟨rfl, rfl⟩ _ _ ⟨rfl, rfl⟩ _ _ ⟨rfl, rfl⟩ _ _ ⟨rfl, rfl⟩ _ _ ⟨rfl, rfl⟩ _ _ ⟨rfl, rfl⟩ _ _ ⟨rfl, rfl⟩ _ _ ⟨rfl, rfl⟩ _ _ ⟨rfl, rfl⟩ _ _ ⟨rfl, rfl⟩ _ _ ⟨rfl, rfl⟩
  refine wl_norm (e' := [(2, _), (3, _), (4, _), (6, _), (25, _)]) (.cons rfl (.cons rfl (.cons rfl (.cons rfl (.cons rfl (.nil _)))))) (by dsimp only [cond_false, cond_true, List.nil_append, List.cons_append]) ?_
  refine wl_det rfl rfl rfl (op_assign rfl) ?_
  refine wl_nil ?_
  refine st_tn ?_
  refine w_seq ?_
  refine w_block ?_
  refine w_seq ?_
  refine w_region ?_
  refine wl_det rfl rfl rfl (op_loadA rfl tA48o (Ent.lab (l := 2) rfl (says_cel 0)) (Nat.le_of_ble_eq_true rfl)) ?_
  refine wl_det rfl rfl rfl (op_loadA rfl tA48o (Ent.lab (l := 3) rfl (says_cel 0)) (Nat.le_of_ble_eq_true rfl)) ?_
  refine wl_det rfl rfl rfl (op_fn Try.func32 rfl rfl rfl (alike_any k k' fr fr')) ?_
  refine wl_det rfl rfl rfl (op_not_d rfl) ?_
  refine wl_det rfl rfl rfl (op_assign rfl) ?_
  refine wl_nil ?_
  refine st_tn ?_
  refine w_cond_d rfl (fun hc26 => ?_) (fun hc26 => ?_)
  · -- c26.t
    refine w_seq ?_
    refine w_emp 77 (zeroE (alP a c l b d m) _ rfl) ?_
    refine w_region ?_
    refine wl_det rfl rfl rfl (op_build tB48o rfl rfl) ?_
    refine wl_op0 [4] rfl rfl rfl (op_store rfl rfl tZ48o (by rfl) (by rfl) (by exact Nat.le_of_ble_eq_true rfl)) ?_
    rintro _ _ ⟨rfl, rfl⟩
    refine wl_det rfl rfl rfl (op_assign rfl) ?_
    refine wl_nil ?_
    refine st_tn ?_
    refine w_ret ?_
    refine st_br ?_
    refine st_tr ?_
    refine st_ret (vs := [_, _]) [77] Try.results39 ⟨⟨_, rfl, Ent.mono (Ent.lab (l := 4) rfl (says_cel 0)) (fun _ h => run_load_agg tA48o h (Nat.le_of_ble_eq_true rfl))⟩, ⟨rfl, trivial⟩⟩ rfl ?_
    refine ⟨[(lab, _)], rfl, ?_⟩
    unfold joinR; rw [if_pos hc26]; exact ⟨none, 0, rfl, rfl⟩
  · -- c26.f
    have hsk : ¬ ¬ sameK k k' := hc26
    refine w_seq ?_
    refine w_region ?_
    refine wl_det rfl rfl rfl (op_fieldAddr (off := 6) rfl tF48_5o) ?_
    refine wl_det rfl rfl rfl (op_load1 rfl tO25o (Ent.lab (l := 3) rfl (says_cel 6))) ?_
    refine wl_det rfl rfl rfl (op_lenT rfl tS25o (Sl.ent (by first | exact Sl.app (by assumption) _ | exact Sl.app (Sl.app (by assumption) _) _))) ?_
    refine wl_det rfl rfl rfl (op_eql rfl rfl) ?_
    refine wl_det rfl rfl rfl (op_assign rfl) ?_
    refine wl_nil ?_
    refine st_tn ?_
    refine w_cond_d rfl (fun hc32 => ?_) (fun hc32 => ?_)
    · -- c32.t
      refine w_seq ?_
      refine w_emp 77 (r := slE 3 encZ 1 (.slice a l.length c) l (alP a c l b d m (.slice a l.length c) l)) (slE_al (.inl ⟨rfl, rfl⟩)) ?_
      refine w_region ?_
      refine wl_det rfl rfl rfl (op_loadA rfl tA48o (Ent.lab (l := 2) rfl (says_cel 0)) (Nat.le_of_ble_eq_true rfl)) ?_
      refine wl_op0 [4] rfl rfl rfl (op_store rfl rfl tZ48o (by rfl) (by rfl) (by exact Nat.le_of_ble_eq_true rfl)) ?_
      rintro _ _ ⟨rfl, rfl⟩
      refine wl_det rfl rfl rfl (op_assign rfl) ?_
      refine wl_nil ?_
      refine st_tn ?_
      refine w_ret ?_
      refine st_br ?_
      refine st_tr ?_
      refine st_ret (vs := [_, _]) [77] Try.results39 ⟨⟨_, rfl, Ent.mono (Ent.lab (l := 4) rfl (says_cel 0)) (fun _ h => run_load_agg tA48o h (Nat.le_of_ble_eq_true rfl))⟩, ⟨rfl, trivial⟩⟩ rfl ?_
      refine ⟨[(lab, _)], rfl, ?_⟩
      have hj : joinR k fr l k' fr' m = ⟨k, fr, l, 0⟩ := by unfold joinR oneR; rw [if_neg hsk, if_pos (show m.length = 0 by omega)]; rfl
      rw [hj]; exact ⟨_, _, rfl, rfl⟩
    · -- c32.f
      refine w_seq ?_
      refine w_region ?_
      refine wl_det rfl rfl rfl (op_fieldAddr (off := 6) rfl tF48_5o) ?_
      refine wl_det rfl rfl rfl (op_load1 rfl tO25o (Ent.lab (l := 2) rfl (says_cel 6))) ?_
      refine wl_det rfl rfl rfl (op_lenT rfl tS25o (Sl.ent (by first | exact Sl.app (by assumption) _ | exact Sl.app (Sl.app (by assumption) _) _))) ?_
      refine wl_det rfl rfl rfl (op_eql rfl rfl) ?_
      refine wl_det rfl rfl rfl (op_assign rfl) ?_
      refine wl_nil ?_
      refine st_tn ?_
      refine w_cond_d rfl (fun hc38 => ?_) (fun hc38 => ?_)
      · -- c38.t
        refine w_seq ?_
        refine w_emp 77 (r := slE 3 encZ 1 (.slice b m.length d) m (alP a c l b d m (.slice b m.length d) m)) (slE_al (.inr ⟨rfl, rfl⟩)) ?_
        refine w_region ?_
        refine wl_det rfl rfl rfl (op_loadA rfl tA48o (Ent.lab (l := 3) rfl (says_cel 0)) (Nat.le_of_ble_eq_true rfl)) ?_
        refine wl_op0 [4] rfl rfl rfl (op_store rfl rfl tZ48o (by rfl) (by rfl) (by exact Nat.le_of_ble_eq_true rfl)) ?_
        rintro _ _ ⟨rfl, rfl⟩
        refine wl_det rfl rfl rfl (op_assign rfl) ?_
        refine wl_nil ?_
        refine st_tn ?_
        refine w_ret ?_
        refine st_br ?_
        refine st_tr ?_
        refine st_ret (vs := [_, _]) [77] Try.results39 ⟨⟨_, rfl, Ent.mono (Ent.lab (l := 4) rfl (says_cel 0)) (fun _ h => run_load_agg tA48o h (Nat.le_of_ble_eq_true rfl))⟩, ⟨rfl, trivial⟩⟩ rfl ?_
        refine ⟨[(lab, _)], rfl, ?_⟩
        have hj : joinR k fr l k' fr' m = ⟨k', fr', m, 0⟩ := by unfold joinR oneR; rw [if_neg hsk, if_neg (show ¬ m.length = 0 by omega), if_pos (show l.length = 0 by omega)]; rfl
        rw [hj]; exact ⟨_, _, rfl, rfl⟩
      · -- c38.f
        have ho2 : ¬ (oneR k fr l k' fr' m).2 = true := oneR_both (by omega) (by omega)
        refine w_seq ?_
        refine w_cutL [(44, .bool (decide (fr + l.length < fr' ∨ fr' + m.length < fr)))] [2, 3, 4, 6, 7] [2, 3, 4] rfl (fun K' hK => ?_) ?_
        · -- cut r8
          refine w_region ?_
          refine wl_det rfl rfl rfl (op_move rfl) ?_
          refine wl_det rfl rfl rfl (op_fieldAddr (off := 5) rfl tF48_4o) ?_
          refine wl_det rfl rfl rfl (op_load1 rfl tO3o (Ent.lab (l := 3) rfl (says_cel 5))) ?_
          refine wl_det rfl rfl rfl (op_lss rfl rfl) ?_
          refine wl_det rfl rfl rfl (op_move rfl) ?_
          refine wl_gsplit (t := 49) rfl (fun hg49 => ?_) (fun hg49 => ?_)
          · -- 49 is True
            refine wl_unwanted rfl rfl rfl rfl rfl rfl rfl rfl ?_
            refine wl_unwanted rfl rfl rfl rfl rfl rfl rfl rfl ?_
            refine wl_unwanted rfl rfl rfl rfl rfl rfl rfl rfl ?_
            refine wl_unwanted rfl rfl rfl rfl rfl rfl rfl rfl ?_
            refine wl_det rfl rfl rfl (op_pick_t rfl rfl) ?_
            refine wl_det rfl rfl rfl (op_assign rfl) ?_
            refine wl_nil ?_
            refine st_tn ?_
            exact cut_done1 [2, 3, 4] hK rfl (by first | (rw [decide_eq_decide]; omega) | (symm; rw [decide_eq_false_iff_not]; omega) | (symm; rw [decide_eq_true_iff]; omega) | (simp; done) | (simp; omega) | (simp [*]; done) | (simp [*]; omega)) (by rfl) rfl rfl
          · -- 49 is False
            refine wl_wanted_det rfl rfl rfl rfl rfl rfl rfl (op_move rfl) ?_
            refine wl_wanted_det rfl rfl rfl rfl rfl rfl rfl (op_fieldAddr (off := 5) rfl tF48_4o) ?_
            refine wl_wanted_det rfl rfl rfl rfl rfl rfl rfl (op_load1 rfl tO3o (Ent.lab (l := 2) rfl (says_cel 5))) ?_
            refine wl_wanted_det rfl rfl rfl rfl rfl rfl rfl (op_lss rfl rfl) ?_
            refine wl_det rfl rfl rfl (op_pick_f rfl rfl) ?_
            refine wl_det rfl rfl rfl (op_assign rfl) ?_
            refine wl_nil ?_
            refine st_tn ?_
            exact cut_done1 [2, 3, 4] hK rfl (by first | (rw [decide_eq_decide]; omega) | (symm; rw [decide_eq_false_iff_not]; omega) | (symm; rw [decide_eq_true_iff]; omega) | (simp; done) | (simp; omega) | (simp [*]; done) | (simp [*]; omega)) (by rfl) rfl rfl
        · -- behind r8
          show W _ _ _ _ _ [(44, _), (2, _), (3, _), (4, _), (6, _), (7, _)] [(2, _), (3, _), (4, _)] _
          refine w_cond_d rfl (fun hc44 => ?_) (fun hc44 => ?_)
          · -- c44.t
            refine w_seq ?_
            refine w_emp 77 (zeroE (alP a c l b d m) _ rfl) ?_
            refine w_region ?_
            refine wl_det rfl rfl rfl (op_build tB48o rfl rfl) ?_
            refine wl_op0 [4] rfl rfl rfl (op_store rfl rfl tZ48o (by rfl) (by rfl) (by exact Nat.le_of_ble_eq_true rfl)) ?_
            rintro _ _ ⟨rfl, rfl⟩
            refine wl_det rfl rfl rfl (op_assign rfl) ?_
            refine wl_nil ?_
            refine st_tn ?_
            refine w_ret ?_
            refine st_br ?_
            refine st_tr ?_
            refine st_ret (vs := [_, _]) [77] Try.results39 ⟨⟨_, rfl, Ent.mono (Ent.lab (l := 4) rfl (says_cel 0)) (fun _ h => run_load_agg tA48o h (Nat.le_of_ble_eq_true rfl))⟩, ⟨rfl, trivial⟩⟩ rfl ?_
            refine ⟨[(lab, _)], rfl, ?_⟩
            unfold joinR; rw [if_neg hsk, if_neg ho2, if_pos (by omega)]; exact ⟨none, 0, rfl, rfl⟩
          · -- c44.f
            obtain ⟨lo, hlo⟩ : ∃ lo, lo = min fr fr' := ⟨_, rfl⟩
            obtain ⟨hi, hhi⟩ : ∃ hi, hi = max (fr + l.length) (fr' + m.length) := ⟨_, rfl⟩
            refine w_skip ?_
            refine st_bn ?_
            refine st_tn ?_
            refine w_seq ?_
            refine w_region ?_
            refine wl_det rfl rfl rfl (op_loadA rfl tA48o (Ent.lab (l := 2) rfl (says_cel 0)) (Nat.le_of_ble_eq_true rfl)) ?_
            refine wl_op [] rfl rfl rfl rfl (op_alloc (l := 8) tN48o) ?_
            rintro _ _ ⟨b8, rfl, rfl⟩
            refine wl_op0 [8] rfl rfl rfl (op_store rfl rfl tZ48o (by rfl) (by rfl) (by exact Nat.le_of_ble_eq_true rfl)) ?_
            rintro _ _ ⟨rfl, rfl⟩
            refine wl_nil ?_
            refine st_tn ?_
            refine w_seq ?_
            refine w_region ?_
            refine wl_det rfl rfl rfl (op_fieldAddr (off := 5) rfl tF48_4o) ?_
            refine wl_det rfl rfl rfl (op_load1 rfl tO3o (Ent.lab (l := 2) rfl (says_cel 5))) ?_
            refine wl_det rfl rfl rfl (op_fieldAddr (off := 5) rfl tF48_4o) ?_
            refine wl_det rfl rfl rfl (op_load1 rfl tO3o (Ent.lab (l := 3) rfl (says_cel 5))) ?_
            refine wl_det rfl rfl rfl (op_val (v' := .int .i64 lo) (by rw [hlo]) (op_min rfl rfl)) ?_
            refine wl_det rfl rfl rfl (op_fieldAddr (off := 5) rfl tF48_4o) ?_
            refine wl_op0 [8] rfl rfl rfl (op_store rfl rfl tZ3o (by rfl) (by rfl) (by exact Nat.le_of_ble_eq_true rfl)) ?_
            rintro _ _ ⟨rfl, rfl⟩
            refine wl_det rfl rfl rfl (op_fieldAddr (off := 6) rfl tF48_5o) ?_
            refine wl_op0 [8] rfl rfl rfl (op_store rfl rfl tZ25o (by rfl) (by rfl) (by exact Nat.le_of_ble_eq_true rfl)) ?_
            rintro _ _ ⟨rfl, rfl⟩
            refine wl_nil ?_
            refine st_tn ?_
            refine w_seq ?_
            refine w_seq ?_
            refine w_region ?_
            refine wl_det rfl rfl rfl (op_fieldAddr (off := 5) rfl tF48_4o) ?_
            refine wl_det rfl rfl rfl (op_load1 rfl tO3o (Ent.lab (l := 8) rfl (says_cel 5))) ?_
            refine wl_det rfl rfl rfl (op_assign rfl) ?_
            refine wl_nil ?_
            refine st_tn ?_
            refine w_block ?_
            refine w_emp 98 (slO_nil 3 1) ?_
            refine w_loopQ (X := Int × List Int × Option Addr × Nat) (fun z => (lo ≤ z.1 ∧ z.1 ≤ hi) ∧ z.2.1 = ((slots lo hi).take (z.1 - lo).toNat).map (joinV l fr m fr') ∧ ∀ q, lo ≤ q → q < z.1 → fr ≤ q → q < fr + l.length → fr' ≤ q → q < fr' + m.length → atV l fr q = atV m fr' q) (fun z => [(9, .int .i64 (z.1))]) (fun z => [(98, slW 3 encZ 1 (.slice (z.2.2.1) (z.2.1).length (z.2.2.2)) (z.2.1)), (8, cel b8 [.string k.svc, .string k.op, .int .i64 k.met, .int .i64 k.qn, .int .i64 k.qd, .int .i64 lo, .slice (z.2.2.1) (z.2.1).length (z.2.2.2)] 48)]) (fun z => (hi - z.1).toNat) ((_, [], none, 0)) [(2, _), (3, _), (4, _), (6, _), (7, _), (8, _)] [(2, _), (3, _), (4, _)] [98, 8, 2, 3, 4] rfl (rfl) (.cons rfl (.nil _)) (.cons rfl (.cons rfl (.cons rfl (.cons rfl (.cons rfl (.cons rfl (.nil _))))))) (by
                try dsimp only
                exact ⟨by omega, by rw [Int.sub_self]; rfl, fun q h1 h2 => by omega⟩) ?_
            rintro ⟨s, out, a_out, c_out⟩ ⟨hs, ho, hn⟩
            refine w_norm2 (by dsimp only [List.cons_append, List.nil_append]) (by dsimp only [List.cons_append, List.nil_append]) ?_
            try dsimp only at hs ho hn ⊢
            refine w_seq ?_
            refine w_seq ?_
            skip
            refine w_region ?_
            refine wl_det rfl rfl rfl (op_move rfl) ?_
            refine wl_det rfl rfl rfl (op_move rfl) ?_
            refine wl_det rfl rfl rfl (op_move rfl) ?_
            refine wl_det rfl rfl rfl (op_val (v' := .int .i64 hi) (by rw [hhi]) (op_max rfl rfl)) ?_
            refine wl_det rfl rfl rfl (op_lss rfl rfl) ?_
            refine wl_nil ?_
            refine st_tn ?_
            refine w_cond_d rfl (fun hc70 => ?_) (fun hc70 => ?_)
            · -- c70.t
              have hol : out.length ≤ 1024 := by rw [ho, List.length_map, List.length_take, slots_len]; omega
              refine w_skip ?_
              refine st_tn ?_
              refine w_seq ?_
              refine w_block ?_
              refine w_seq ?_
              refine w_region ?_
              refine wl_det rfl rfl rfl (op_loadA rfl tA48o (Ent.lab (l := 2) rfl (says_cel 0)) (Nat.le_of_ble_eq_true rfl)) ?_
              refine wl_det rfl rfl rfl (op_move rfl) ?_
              refine wl_det rfl rfl rfl (op_fn Try.func44 rfl rfl rfl (lat_any _ _ _ (Sl.app h _) (by omega) (by omega) (by omega))) ?_
              refine wl_det rfl rfl rfl (op_move rfl) ?_
              refine wl_det rfl rfl rfl (op_extract rfl rfl) ?_
              refine wl_det rfl rfl rfl (op_extract rfl rfl) ?_
              refine wl_det rfl rfl rfl (op_assign rfl) ?_
              refine wl_det rfl rfl rfl (op_assign rfl) ?_
              refine wl_nil ?_
              refine st_tn ?_
              refine w_seq ?_
              refine w_region ?_
              refine wl_det rfl rfl rfl (op_loadA rfl tA48o (Ent.lab (l := 3) rfl (says_cel 0)) (Nat.le_of_ble_eq_true rfl)) ?_
              refine wl_det rfl rfl rfl (op_move rfl) ?_
              refine wl_det rfl rfl rfl (op_fn Try.func44 rfl rfl rfl (lat_any _ _ _ (Sl.app g _) (by omega) (by omega) (by omega))) ?_
              refine wl_det rfl rfl rfl (op_move rfl) ?_
              refine wl_det rfl rfl rfl (op_extract rfl rfl) ?_
              refine wl_det rfl rfl rfl (op_extract rfl rfl) ?_
              refine wl_det rfl rfl rfl (op_assign rfl) ?_
              refine wl_det rfl rfl rfl (op_assign rfl) ?_
              refine wl_nil ?_
              refine st_tn ?_
              refine w_seq ?_
              refine w_seq ?_
              refine w_cutL [(93, .bool (decide (((fr ≤ s ∧ s < fr + l.length) ∧ (fr' ≤ s ∧ s < fr' + m.length)) ∧ atV l fr s ≠ atV m fr' s)))] [2, 3, 4, 6, 7, 8, 9, 10, 12, 13] [98, 8, 2, 3, 4] rfl (fun K' hK => ?_) ?_
              · -- cut r17
                refine w_region ?_
                refine wl_det rfl rfl rfl (op_move rfl) ?_
                refine wl_det rfl rfl rfl (op_move rfl) ?_
                refine wl_gsplit (t := 86) rfl (fun hg86 => ?_) (fun hg86 => ?_)
                · -- 86 is True
                  refine wl_wanted_det rfl rfl rfl rfl rfl rfl rfl (op_move rfl) ?_
                  refine wl_det rfl rfl rfl (op_pick_t rfl rfl) ?_
                  refine wl_det rfl rfl rfl (op_move rfl) ?_
                  refine wl_gsplit (t := 89) rfl (fun hg89 => ?_) (fun hg89 => ?_)
                  · -- 89 is True
                    refine wl_wanted_det rfl rfl rfl rfl rfl rfl rfl (op_move rfl) ?_
                    refine wl_wanted_det rfl rfl rfl rfl rfl rfl rfl (op_move rfl) ?_
                    refine wl_wanted_det rfl rfl rfl rfl rfl rfl rfl (op_neq rfl rfl) ?_
                    refine wl_det rfl rfl rfl (op_pick_t rfl rfl) ?_
                    refine wl_nil ?_
                    refine st_tn ?_
                    exact cut_done1 [98, 8, 2, 3, 4] hK rfl (by first | (rw [decide_eq_decide]; omega) | (symm; rw [decide_eq_false_iff_not]; omega) | (symm; rw [decide_eq_true_iff]; omega) | (simp; done) | (simp; omega) | (simp [*]; done) | (simp [*]; omega)) (by rfl) rfl rfl
                  · -- 89 is False
                    refine wl_unwanted rfl rfl rfl rfl rfl rfl rfl rfl ?_
                    refine wl_unwanted rfl rfl rfl rfl rfl rfl rfl rfl ?_
                    refine wl_unwanted rfl rfl rfl rfl rfl rfl rfl rfl ?_
                    refine wl_det rfl rfl rfl (op_pick_f rfl rfl) ?_
                    refine wl_nil ?_
                    refine st_tn ?_
                    exact cut_done1 [98, 8, 2, 3, 4] hK rfl (by first | (rw [decide_eq_decide]; omega) | (symm; rw [decide_eq_false_iff_not]; omega) | (symm; rw [decide_eq_true_iff]; omega) | (simp; done) | (simp; omega) | (simp [*]; done) | (simp [*]; omega)) (by rfl) rfl rfl
                · -- 86 is False
                  refine wl_unwanted rfl rfl rfl rfl rfl rfl rfl rfl ?_
                  refine wl_det rfl rfl rfl (op_pick_f rfl rfl) ?_
                  refine wl_det rfl rfl rfl (op_move rfl) ?_
                  refine wl_unwanted rfl rfl rfl rfl rfl rfl rfl rfl ?_
                  refine wl_unwanted rfl rfl rfl rfl rfl rfl rfl rfl ?_
                  refine wl_unwanted rfl rfl rfl rfl rfl rfl rfl rfl ?_
                  refine wl_det rfl rfl rfl (op_pick_f rfl rfl) ?_
                  refine wl_nil ?_
                  refine st_tn ?_
                  exact cut_done1 [98, 8, 2, 3, 4] hK rfl (by first | (rw [decide_eq_decide]; omega) | (symm; rw [decide_eq_false_iff_not]; omega) | (symm; rw [decide_eq_true_iff]; omega) | (simp; done) | (simp; omega) | (simp [*]; done) | (simp [*]; omega)) (by rfl) rfl rfl
              · -- behind r17
                show W _ _ _ _ _ [(93, _), (2, _), (3, _), (4, _), (6, _), (7, _), (8, _), (9, _), (10, _), (12, _), (13, _)] [(98, _), (8, _), (2, _), (3, _), (4, _)] _
                refine w_cond_d rfl (fun hc93 => ?_) (fun hc93 => ?_)
                · -- c93.t
                  refine w_seq ?_
                  refine w_emp 77 (zeroE (alP a c l b d m) _ rfl) ?_
                  refine w_region ?_
                  refine wl_det rfl rfl rfl (op_build tB48o rfl rfl) ?_
                  refine wl_op0 [4] rfl rfl rfl (op_store rfl rfl tZ48o (by rfl) (by rfl) (by exact Nat.le_of_ble_eq_true rfl)) ?_
                  rintro _ _ ⟨rfl, rfl⟩
                  refine wl_det rfl rfl rfl (op_assign rfl) ?_
                  refine wl_nil ?_
                  refine st_tn ?_
                  refine w_ret ?_
                  refine st_tr ?_
                  refine st_br ?_
                  refine st_tr ?_
                  refine st_tr ?_
                  refine st_br ?_
                  refine st_tr ?_
                  refine st_ret (vs := [_, _]) [77] Try.results39 ⟨⟨_, rfl, Ent.mono (Ent.lab (l := 4) rfl (says_cel 0)) (fun _ h => run_load_agg tA48o h (Nat.le_of_ble_eq_true rfl))⟩, ⟨rfl, trivial⟩⟩ rfl ?_
                  refine ⟨[(lab, _)], rfl, ?_⟩
                  have hA := hc93.1.1
                  have hB := hc93.1.2
                  unfold joinR; rw [if_neg hsk, if_neg ho2, if_neg (by omega), if_pos (List.any_eq_true.2 ⟨s, mem_slots.2 (by omega), decide_eq_true hc93.2⟩)]; exact ⟨none, 0, rfl, rfl⟩
                · -- c93.f
                  refine w_skip ?_
                  refine st_tn ?_
                  refine w_seq ?_
                  refine w_seq ?_
                  refine w_region ?_
                  refine wl_det rfl rfl rfl (op_move rfl) ?_
                  refine wl_nil ?_
                  refine st_tn ?_
                  refine w_cond_d rfl (fun hc95 => ?_) (fun hc95 => ?_)
                  · -- c95.t
                    have hval : atV m fr' s = joinV l fr m fr' s := by
                      unfold joinV; split
                      · rename_i hA; exact (Classical.byContradiction fun e => hc93 ⟨⟨hA, hc95⟩, fun e2 => e e2.symm⟩)
                      · rfl
                    refine w_region ?_
                    refine wl_det rfl rfl rfl (op_move rfl) ?_
                    refine wl_det rfl rfl rfl (op_assign rfl) ?_
                    refine wl_nil ?_
                    refine st_tn ?_
                    refine w_region ?_
                    refine wl_det rfl rfl rfl (op_fieldAddr (off := 6) rfl tF48_5o) ?_
                    refine wl_det rfl rfl rfl (op_load1 rfl tO25o (Ent.lab (l := 8) rfl (says_cel 6))) ?_
                    refine wl_det rfl rfl rfl (op_move rfl) ?_
                    refine wl_op [] rfl rfl rfl rfl (op_buildSlice (enc := encZ) (l := [_]) (lab := 100) tL25_1o rfl rfl (fun _ => rfl) rfl) ?_
                    rintro _ _ ⟨a100, c100, rfl, rfl⟩
                    refine wl_op [98] rfl rfl rfl rfl (op_append (lab := 98) (lab' := 101) rfl rfl tP25o enc1Z (Sl.lab 100 rfl (by simp [maxLen])) (by first | omega | (simp; done) | (simp; omega) | (simp [*]; omega)) (by first | omega | (simp; done) | (simp; omega) | (simp [*]; omega))) ?_
                    rintro _ _ ⟨a101, c101, rfl, rfl⟩
                    refine wl_det rfl rfl rfl (op_fieldAddr (off := 6) rfl tF48_5o) ?_
                    refine wl_op0 [8] rfl rfl rfl (op_store rfl rfl tZ25o (by rfl) (by rfl) (by exact Nat.le_of_ble_eq_true rfl)) ?_
                    rintro _ _ ⟨rfl, rfl⟩
                    refine wl_nil ?_
                    refine st_bn ?_
                    refine st_tn ?_
                    refine w_region ?_
                    refine wl_det rfl rfl rfl (op_move rfl) ?_
                    refine wl_det rfl rfl rfl (op_add' rfl rfl (by omega)) ?_
                    refine wl_det rfl rfl rfl (op_assign rfl) ?_
                    refine wl_nil ?_
                    refine st_roundQ (x := (s, out, a_out, c_out)) ((s + 1, _, _, _)) [101, 8, 2, 3, 4] rfl (rfl) (.cons rfl (.nil _)) (.cons rfl (.cons rfl (.cons rfl (.cons rfl (.cons rfl (.cons rfl (.nil _))))))) (by
                        try dsimp only
                        refine ⟨by omega, ?_, fun q h1 h2 h3 h4 h5 h6 => ?_⟩
                        · rw [slots_snoc hs.1 (by omega), List.map_append, ← ho, hval]; rfl
                        · by_cases hq : q = s
                          · subst hq; exact Classical.byContradiction fun e => hc93 ⟨⟨⟨h3, h4⟩, h5, h6⟩, e⟩
                          · exact hn q h1 (by omega) h3 h4 h5 h6) (by
                        try dsimp only
                        omega) 
                  · -- c95.f
                    have hval : atV l fr s = joinV l fr m fr' s := by
                      unfold joinV; rw [if_pos (by omega)]
                    refine w_skip ?_
                    refine st_tn ?_
                    refine w_region ?_
                    refine wl_det rfl rfl rfl (op_fieldAddr (off := 6) rfl tF48_5o) ?_
                    refine wl_det rfl rfl rfl (op_load1 rfl tO25o (Ent.lab (l := 8) rfl (says_cel 6))) ?_
                    refine wl_det rfl rfl rfl (op_move rfl) ?_
                    refine wl_op [] rfl rfl rfl rfl (op_buildSlice (enc := encZ) (l := [_]) (lab := 100) tL25_1o rfl rfl (fun _ => rfl) rfl) ?_
                    rintro _ _ ⟨a100, c100, rfl, rfl⟩
                    refine wl_op [98] rfl rfl rfl rfl (op_append (lab := 98) (lab' := 101) rfl rfl tP25o enc1Z (Sl.lab 100 rfl (by simp [maxLen])) (by first | omega | (simp; done) | (simp; omega) | (simp [*]; omega)) (by first | omega | (simp; done) | (simp; omega) | (simp [*]; omega))) ?_
                    rintro _ _ ⟨a101, c101, rfl, rfl⟩
                    refine wl_det rfl rfl rfl (op_fieldAddr (off := 6) rfl tF48_5o) ?_
                    refine wl_op0 [8] rfl rfl rfl (op_store rfl rfl tZ25o (by rfl) (by rfl) (by exact Nat.le_of_ble_eq_true rfl)) ?_
                    rintro _ _ ⟨rfl, rfl⟩
                    refine wl_nil ?_
                    refine st_bn ?_
                    refine st_tn ?_
                    refine w_region ?_
                    refine wl_det rfl rfl rfl (op_move rfl) ?_
                    refine wl_det rfl rfl rfl (op_add' rfl rfl (by omega)) ?_
                    refine wl_det rfl rfl rfl (op_assign rfl) ?_
                    refine wl_nil ?_
                    refine st_roundQ (x := (s, out, a_out, c_out)) ((s + 1, _, _, _)) [101, 8, 2, 3, 4] rfl (rfl) (.cons rfl (.nil _)) (.cons rfl (.cons rfl (.cons rfl (.cons rfl (.cons rfl (.cons rfl (.nil _))))))) (by
                        try dsimp only
                        refine ⟨by omega, ?_, fun q h1 h2 h3 h4 h5 h6 => ?_⟩
                        · rw [slots_snoc hs.1 (by omega), List.map_append, ← ho, hval]; rfl
                        · by_cases hq : q = s
                          · subst hq; exact Classical.byContradiction fun e => hc93 ⟨⟨⟨h3, h4⟩, h5, h6⟩, e⟩
                          · exact hn q h1 (by omega) h3 h4 h5 h6) (by
                        try dsimp only
                        omega) 
            · -- c70.f
              refine w_exit ?_
              refine st_te ?_
              refine st_te ?_
              refine st_be ?_
              refine st_tn ?_
              refine w_seq ?_
              refine w_region ?_
              refine wl_det rfl rfl rfl (op_loadA rfl tA48o (Ent.lab (l := 8) rfl (says_cel 0)) (Nat.le_of_ble_eq_true rfl)) ?_
              refine wl_op0 [4] rfl rfl rfl (op_store rfl rfl tZ48o (by rfl) (by rfl) (by exact Nat.le_of_ble_eq_true rfl)) ?_
              rintro _ _ ⟨rfl, rfl⟩
              refine wl_det rfl rfl rfl (op_assign rfl) ?_
              refine wl_nil ?_
              refine st_tn ?_
              refine w_wk 98 (slE 3 encZ 1 (.slice a_out out.length c_out) out (alP a c l b d m (.slice a_out out.length c_out) out)) rfl (fun m h => .inl h) ?_
              refine w_ret ?_
              refine st_ret (vs := [_, _]) [98] Try.results39 ⟨⟨_, rfl, Ent.mono (Ent.lab (l := 4) rfl (says_cel 0)) (fun _ h => run_load_agg tA48o h (Nat.le_of_ble_eq_true rfl))⟩, ⟨rfl, trivial⟩⟩ rfl ?_
              refine ⟨[(lab, _)], rfl, ?_⟩
              have hol : (slots lo hi).take (s - lo).toNat = slots lo hi := List.take_of_length_le (by rw [slots_len]; omega)
              rw [hol] at ho
              have hj : joinR k fr l k' fr' m = ⟨k, lo, out, 0⟩ := by
                unfold joinR; rw [if_neg hsk, if_neg ho2, if_neg (by omega), if_neg, ← hlo, ← hhi, bothR_all (by omega), ho]
                intro h1; obtain ⟨q, hq, h2⟩ := List.any_eq_true.1 h1
                have h3 := mem_slots.1 hq
                exact of_decide_eq_true h2 (hn q (by omega) (by omega) (by omega) (by omega) (by omega) (by omega))
              rw [hj]; exact ⟨_, _, rfl, rfl⟩

set_option maxHeartbeats 2000000 in
set_option maxRecDepth 100000 in
theorem lsum_any {σ : World} {F : List Res} {a b : Option Addr} {c d : Nat} {l m : List Int} (lab : Nat) (k : SK) (fr : Int) (k' : SK) (fr' : Int) (h : Sl σ F encZ 1 (.slice a l.length c) l) (g : Sl σ F encZ 1 (.slice b m.length d) m) (hl : l.length ≤ 1000) (hm : m.length ≤ 1000) (hf : 0 ≤ fr ∧ fr ≤ 1048576) (hf' : 0 ≤ fr' ∧ fr' ≤ 1048576) (hd : max (fr + l.length) (fr' + m.length) - min fr fr' ≤ 1024) (hv : ∀ x ∈ l, 0 ≤ x ∧ x ≤ 255) (hw : ∀ x ∈ m, 0 ≤ x ∧ x ≤ 255) :
    FnT Try.prog σ F 41 [sr k fr (.slice a l.length c), sr k' fr' (.slice b m.length d)] [] (SerE (sumR k fr l k' fr' m) lab (alP a c l b d m)) := by
  refine fn_of 83 Try.func41 rfl Try.ntmps41 rfl ?_
  have hle := h.i64
  have gle := g.i64
  refine w_seq ?_
  refine w_region ?_
  refine wl_op [] rfl rfl rfl rfl (op_box (T := 48) (l := 2) rfl) ?_
  rintro _ _ ⟨b2, rfl, rfl⟩
  refine wl_op [] rfl rfl rfl rfl (op_box (T := 48) (l := 3) rfl) ?_
  rintro _ _ ⟨b3, rfl, rfl⟩
  refine wl_op [] rfl rfl rfl rfl (op_alloc (l := 4) tN48o) ?_
  rintro _ _ ⟨b4, rfl, rfl⟩
  refine wl_det rfl rfl rfl (op_assign rfl) ?_
  refine wl_nil ?_
  refine st_tn ?_
  refine w_seq ?_
  refine w_block ?_
  refine w_seq ?_
  refine w_region ?_
  refine wl_det rfl rfl rfl (op_loadA rfl tA48o (Ent.lab (l := 2) rfl (says_cel 0)) (Nat.le_of_ble_eq_true rfl)) ?_
  refine wl_det rfl rfl rfl (op_loadA rfl tA48o (Ent.lab (l := 3) rfl (says_cel 0)) (Nat.le_of_ble_eq_true rfl)) ?_
  refine wl_det rfl rfl rfl (op_fn Try.func32 rfl rfl rfl (alike_any k k' fr fr')) ?_
  refine wl_det rfl rfl rfl (op_not_d rfl) ?_
  refine wl_det rfl rfl rfl (op_assign rfl) ?_
  refine wl_nil ?_
  refine st_tn ?_
  refine w_cond_d rfl (fun hc12 => ?_) (fun hc12 => ?_)
  · -- c12.t
    refine w_seq ?_
    refine w_emp 77 (zeroE (alP a c l b d m) _ rfl) ?_
    refine w_region ?_
    refine wl_det rfl rfl rfl (op_build tB48o rfl rfl) ?_
    refine wl_op0 [4] rfl rfl rfl (op_store rfl rfl tZ48o (by rfl) (by rfl) (by exact Nat.le_of_ble_eq_true rfl)) ?_
    rintro _ _ ⟨rfl, rfl⟩
    refine wl_det rfl rfl rfl (op_assign rfl) ?_
    refine wl_nil ?_
    refine st_tn ?_
    refine w_ret ?_
    refine st_br ?_
    refine st_tr ?_
    refine st_ret (vs := [_, _]) [77] Try.results41 ⟨⟨_, rfl, Ent.mono (Ent.lab (l := 4) rfl (says_cel 0)) (fun _ h => run_load_agg tA48o h (Nat.le_of_ble_eq_true rfl))⟩, ⟨rfl, trivial⟩⟩ rfl ?_
    refine ⟨[(lab, _)], rfl, ?_⟩
    unfold sumR; rw [if_pos hc12]; exact ⟨none, 0, rfl, rfl⟩
  · -- c12.f
    have hsk : ¬ ¬ sameK k k' := hc12
    refine w_seq ?_
    refine w_region ?_
    refine wl_det rfl rfl rfl (op_fieldAddr (off := 2) rfl tF48_2o) ?_
    refine wl_det rfl rfl rfl (op_load1 rfl tO3o (Ent.lab (l := 2) rfl (says_cel 2))) ?_
    refine wl_det rfl rfl rfl (op_eql rfl rfl) ?_
    refine wl_det rfl rfl rfl (op_assign rfl) ?_
    refine wl_nil ?_
    refine st_tn ?_
    refine w_cond_d rfl (fun hc18 => ?_) (fun hc18 => ?_)
    · -- c18.t
      refine w_seq ?_
      refine w_emp 77 (zeroE (alP a c l b d m) _ rfl) ?_
      refine w_region ?_
      refine wl_det rfl rfl rfl (op_build tB48o rfl rfl) ?_
      refine wl_op0 [4] rfl rfl rfl (op_store rfl rfl tZ48o (by rfl) (by rfl) (by exact Nat.le_of_ble_eq_true rfl)) ?_
      rintro _ _ ⟨rfl, rfl⟩
      refine wl_det rfl rfl rfl (op_assign rfl) ?_
      refine wl_nil ?_
      refine st_tn ?_
      refine w_ret ?_
      refine st_br ?_
      refine st_tr ?_
      refine st_ret (vs := [_, _]) [77] Try.results41 ⟨⟨_, rfl, Ent.mono (Ent.lab (l := 4) rfl (says_cel 0)) (fun _ h => run_load_agg tA48o h (Nat.le_of_ble_eq_true rfl))⟩, ⟨rfl, trivial⟩⟩ rfl ?_
      refine ⟨[(lab, _)], rfl, ?_⟩
      unfold sumR; rw [if_neg hsk, if_pos hc18]; exact ⟨none, 0, rfl, rfl⟩
    · -- c18.f
      refine w_seq ?_
      refine w_region ?_
      refine wl_det rfl rfl rfl (op_fieldAddr (off := 6) rfl tF48_5o) ?_
      refine wl_det rfl rfl rfl (op_load1 rfl tO25o (Ent.lab (l := 3) rfl (says_cel 6))) ?_
      refine wl_det rfl rfl rfl (op_lenT rfl tS25o (Sl.ent (by first | exact Sl.app (by assumption) _ | exact Sl.app (Sl.app (by assumption) _) _))) ?_
      refine wl_det rfl rfl rfl (op_eql rfl rfl) ?_
      refine wl_det rfl rfl rfl (op_assign rfl) ?_
      refine wl_nil ?_
      refine st_tn ?_
      refine w_cond_d rfl (fun hc23 => ?_) (fun hc23 => ?_)
      · -- c23.t
        refine w_seq ?_
        refine w_emp 77 (r := slE 3 encZ 1 (.slice a l.length c) l (alP a c l b d m (.slice a l.length c) l)) (slE_al (.inl ⟨rfl, rfl⟩)) ?_
        refine w_region ?_
        refine wl_det rfl rfl rfl (op_loadA rfl tA48o (Ent.lab (l := 2) rfl (says_cel 0)) (Nat.le_of_ble_eq_true rfl)) ?_
        refine wl_op0 [4] rfl rfl rfl (op_store rfl rfl tZ48o (by rfl) (by rfl) (by exact Nat.le_of_ble_eq_true rfl)) ?_
        rintro _ _ ⟨rfl, rfl⟩
        refine wl_det rfl rfl rfl (op_assign rfl) ?_
        refine wl_nil ?_
        refine st_tn ?_
        refine w_ret ?_
        refine st_br ?_
        refine st_tr ?_
        refine st_ret (vs := [_, _]) [77] Try.results41 ⟨⟨_, rfl, Ent.mono (Ent.lab (l := 4) rfl (says_cel 0)) (fun _ h => run_load_agg tA48o h (Nat.le_of_ble_eq_true rfl))⟩, ⟨rfl, trivial⟩⟩ rfl ?_
        refine ⟨[(lab, _)], rfl, ?_⟩
        have hj : sumR k fr l k' fr' m = ⟨k, fr, l, 0⟩ := by unfold sumR oneR; rw [if_neg hsk, if_neg hc18, if_pos (show m.length = 0 by omega)]; rfl
        rw [hj]; exact ⟨_, _, rfl, rfl⟩
      · -- c23.f
        refine w_seq ?_
        refine w_region ?_
        refine wl_det rfl rfl rfl (op_fieldAddr (off := 6) rfl tF48_5o) ?_
        refine wl_det rfl rfl rfl (op_load1 rfl tO25o (Ent.lab (l := 2) rfl (says_cel 6))) ?_
        refine wl_det rfl rfl rfl (op_lenT rfl tS25o (Sl.ent (by first | exact Sl.app (by assumption) _ | exact Sl.app (Sl.app (by assumption) _) _))) ?_
        refine wl_det rfl rfl rfl (op_eql rfl rfl) ?_
        refine wl_det rfl rfl rfl (op_assign rfl) ?_
        refine wl_nil ?_
        refine st_tn ?_
        refine w_cond_d rfl (fun hc29 => ?_) (fun hc29 => ?_)
        · -- c29.t
          refine w_seq ?_
          refine w_emp 77 (r := slE 3 encZ 1 (.slice b m.length d) m (alP a c l b d m (.slice b m.length d) m)) (slE_al (.inr ⟨rfl, rfl⟩)) ?_
          refine w_region ?_
          refine wl_det rfl rfl rfl (op_loadA rfl tA48o (Ent.lab (l := 3) rfl (says_cel 0)) (Nat.le_of_ble_eq_true rfl)) ?_
          refine wl_op0 [4] rfl rfl rfl (op_store rfl rfl tZ48o (by rfl) (by rfl) (by exact Nat.le_of_ble_eq_true rfl)) ?_
          rintro _ _ ⟨rfl, rfl⟩
          refine wl_det rfl rfl rfl (op_assign rfl) ?_
          refine wl_nil ?_
          refine st_tn ?_
          refine w_ret ?_
          refine st_br ?_
          refine st_tr ?_
          refine st_ret (vs := [_, _]) [77] Try.results41 ⟨⟨_, rfl, Ent.mono (Ent.lab (l := 4) rfl (says_cel 0)) (fun _ h => run_load_agg tA48o h (Nat.le_of_ble_eq_true rfl))⟩, ⟨rfl, trivial⟩⟩ rfl ?_
          refine ⟨[(lab, _)], rfl, ?_⟩
          have hj : sumR k fr l k' fr' m = ⟨k', fr', m, 0⟩ := by unfold sumR oneR; rw [if_neg hsk, if_neg hc18, if_neg (show ¬ m.length = 0 by omega), if_pos (show l.length = 0 by omega)]; rfl
          rw [hj]; exact ⟨_, _, rfl, rfl⟩
        · -- c29.f
          have ho2 : ¬ (oneR k fr l k' fr' m).2 = true := oneR_both (by omega) (by omega)
          obtain ⟨lo, hlo⟩ : ∃ lo, lo = min fr fr' := ⟨_, rfl⟩
          obtain ⟨hi, hhi⟩ : ∃ hi, hi = max (fr + l.length) (fr' + m.length) := ⟨_, rfl⟩
          refine w_skip ?_
          refine st_bn ?_
          refine st_tn ?_
          refine w_seq ?_
          refine w_region ?_
          refine wl_det rfl rfl rfl (op_loadA rfl tA48o (Ent.lab (l := 2) rfl (says_cel 0)) (Nat.le_of_ble_eq_true rfl)) ?_
          refine wl_op [] rfl rfl rfl rfl (op_alloc (l := 6) tN48o) ?_
          rintro _ _ ⟨b6, rfl, rfl⟩
          refine wl_op0 [6] rfl rfl rfl (op_store rfl rfl tZ48o (by rfl) (by rfl) (by exact Nat.le_of_ble_eq_true rfl)) ?_
          rintro _ _ ⟨rfl, rfl⟩
          refine wl_nil ?_
          refine st_tn ?_
          refine w_seq ?_
          refine w_region ?_
          refine wl_det rfl rfl rfl (op_fieldAddr (off := 5) rfl tF48_4o) ?_
          refine wl_det rfl rfl rfl (op_load1 rfl tO3o (Ent.lab (l := 2) rfl (says_cel 5))) ?_
          refine wl_det rfl rfl rfl (op_fieldAddr (off := 5) rfl tF48_4o) ?_
          refine wl_det rfl rfl rfl (op_load1 rfl tO3o (Ent.lab (l := 3) rfl (says_cel 5))) ?_
          refine wl_det rfl rfl rfl (op_val (v' := .int .i64 lo) (by rw [hlo]) (op_min rfl rfl)) ?_
          refine wl_det rfl rfl rfl (op_fieldAddr (off := 5) rfl tF48_4o) ?_
          refine wl_op0 [6] rfl rfl rfl (op_store rfl rfl tZ3o (by rfl) (by rfl) (by exact Nat.le_of_ble_eq_true rfl)) ?_
          rintro _ _ ⟨rfl, rfl⟩
          refine wl_det rfl rfl rfl (op_fieldAddr (off := 6) rfl tF48_5o) ?_
          refine wl_op0 [6] rfl rfl rfl (op_store rfl rfl tZ25o (by rfl) (by rfl) (by exact Nat.le_of_ble_eq_true rfl)) ?_
          rintro _ _ ⟨rfl, rfl⟩
          refine wl_nil ?_
          refine st_tn ?_
          refine w_seq ?_
          refine w_seq ?_
          refine w_region ?_
          refine wl_det rfl rfl rfl (op_fieldAddr (off := 5) rfl tF48_4o) ?_
          refine wl_det rfl rfl rfl (op_load1 rfl tO3o (Ent.lab (l := 6) rfl (says_cel 5))) ?_
          refine wl_det rfl rfl rfl (op_assign rfl) ?_
          refine wl_nil ?_
          refine st_tn ?_
          refine w_block ?_
          refine w_emp 96 (slO_nil 3 1) ?_
          refine w_loopQ (X := Int × List Int × Option Addr × Nat) (fun z => (lo ≤ z.1 ∧ z.1 ≤ hi) ∧ z.2.1 = ((slots lo hi).take (z.1 - lo).toNat).map (fun q => atV l fr q + atV m fr' q)) (fun z => [(7, .int .i64 (z.1))]) (fun z => [(96, slW 3 encZ 1 (.slice (z.2.2.1) (z.2.1).length (z.2.2.2)) (z.2.1)), (6, cel b6 [.string k.svc, .string k.op, .int .i64 k.met, .int .i64 k.qn, .int .i64 k.qd, .int .i64 lo, .slice (z.2.2.1) (z.2.1).length (z.2.2.2)] 48)]) (fun z => (hi - z.1).toNat) ((_, [], none, 0)) [(2, _), (3, _), (4, _), (6, _)] [(2, _), (3, _), (4, _)] [96, 6, 2, 3, 4] rfl (rfl) (.cons rfl (.nil _)) (.cons rfl (.cons rfl (.cons rfl (.cons rfl (.nil _))))) (by
              try dsimp only
              exact ⟨by omega, by rw [Int.sub_self]; rfl⟩) ?_
          rintro ⟨s, out, a_out, c_out⟩ ⟨hs, ho⟩
          refine w_norm2 (by dsimp only [List.cons_append, List.nil_append]) (by dsimp only [List.cons_append, List.nil_append]) ?_
          try dsimp only at hs ho ⊢
          refine w_seq ?_
          refine w_seq ?_
          refine w_region ?_
          refine wl_det rfl rfl rfl (op_move rfl) ?_
          refine wl_det rfl rfl rfl (op_fieldAddr (off := 5) rfl tF48_4o) ?_
          refine wl_det rfl rfl rfl (op_load1 rfl tO3o (Ent.lab (l := 2) rfl (says_cel 5))) ?_
          refine wl_det rfl rfl rfl (op_fieldAddr (off := 6) rfl tF48_5o) ?_
          refine wl_det rfl rfl rfl (op_load1 rfl tO25o (Ent.lab (l := 2) rfl (says_cel 6))) ?_
          refine wl_det rfl rfl rfl (op_lenT rfl tS25o (Sl.ent (by first | exact Sl.app (by assumption) _ | exact Sl.app (Sl.app (by assumption) _) _))) ?_
          refine wl_det rfl rfl rfl (op_add' rfl rfl (by omega)) ?_
          refine wl_det rfl rfl rfl (op_fieldAddr (off := 5) rfl tF48_4o) ?_
          refine wl_det rfl rfl rfl (op_load1 rfl tO3o (Ent.lab (l := 3) rfl (says_cel 5))) ?_
          refine wl_det rfl rfl rfl (op_fieldAddr (off := 6) rfl tF48_5o) ?_
          refine wl_det rfl rfl rfl (op_load1 rfl tO25o (Ent.lab (l := 3) rfl (says_cel 6))) ?_
          refine wl_det rfl rfl rfl (op_lenT rfl tS25o (Sl.ent (by first | exact Sl.app (by assumption) _ | exact Sl.app (Sl.app (by assumption) _) _))) ?_
          refine wl_det rfl rfl rfl (op_add' rfl rfl (by omega)) ?_
          refine wl_det rfl rfl rfl (op_val (v' := .int .i64 hi) (by rw [hhi]) (op_max rfl rfl)) ?_
          refine wl_det rfl rfl rfl (op_lss rfl rfl) ?_
          refine wl_nil ?_
          refine st_tn ?_
          refine w_cond_d rfl (fun hc59 => ?_) (fun hc59 => ?_)
          · -- c59.t
            have hol : out.length ≤ 1024 := by rw [ho, List.length_map, List.length_take, slots_len]; omega
            have hx1 := atV_bd (fr := fr) (x := s) (fun x hx => by have := hv x hx; omega : ∀ x ∈ l, 0 ≤ x ∧ x ≤ 1099511627776)
            have hx2 := atV_bd (fr := fr') (x := s) (fun x hx => by have := hw x hx; omega : ∀ x ∈ m, 0 ≤ x ∧ x ≤ 1099511627776)
            refine w_skip ?_
            refine st_tn ?_
            refine w_seq ?_
            refine w_block ?_
            refine w_seq ?_
            refine w_region ?_
            refine wl_det rfl rfl rfl (op_loadA rfl tA48o (Ent.lab (l := 2) rfl (says_cel 0)) (Nat.le_of_ble_eq_true rfl)) ?_
            refine wl_det rfl rfl rfl (op_move rfl) ?_
            refine wl_det rfl rfl rfl (op_fn Try.func44 rfl rfl rfl (lat_any _ _ _ (Sl.app h _) (by omega) (by omega) (by omega))) ?_
            refine wl_det rfl rfl rfl (op_move rfl) ?_
            refine wl_det rfl rfl rfl (op_extract rfl rfl) ?_
            refine wl_det rfl rfl rfl (op_extract rfl rfl) ?_
            refine wl_det rfl rfl rfl (op_assign rfl) ?_
            refine wl_det rfl rfl rfl (op_assign rfl) ?_
            refine wl_nil ?_
            refine st_tn ?_
            refine w_seq ?_
            refine w_region ?_
            refine wl_det rfl rfl rfl (op_loadA rfl tA48o (Ent.lab (l := 3) rfl (says_cel 0)) (Nat.le_of_ble_eq_true rfl)) ?_
            refine wl_det rfl rfl rfl (op_move rfl) ?_
            refine wl_det rfl rfl rfl (op_fn Try.func44 rfl rfl rfl (lat_any _ _ _ (Sl.app g _) (by omega) (by omega) (by omega))) ?_
            refine wl_det rfl rfl rfl (op_move rfl) ?_
            refine wl_det rfl rfl rfl (op_extract rfl rfl) ?_
            refine wl_det rfl rfl rfl (op_extract rfl rfl) ?_
            refine wl_det rfl rfl rfl (op_assign rfl) ?_
            refine wl_det rfl rfl rfl (op_assign rfl) ?_
            refine wl_nil ?_
            refine st_tn ?_
            refine w_region ?_
            refine wl_det rfl rfl rfl (op_fieldAddr (off := 6) rfl tF48_5o) ?_
            refine wl_det rfl rfl rfl (op_load1 rfl tO25o (Ent.lab (l := 6) rfl (says_cel 6))) ?_
            refine wl_det rfl rfl rfl (op_move rfl) ?_
            refine wl_det rfl rfl rfl (op_move rfl) ?_
            refine wl_det rfl rfl rfl (op_add' rfl rfl (by omega)) ?_
            refine wl_op [] rfl rfl rfl rfl (op_buildSlice (enc := encZ) (l := [_]) (lab := 79) tL25_1o rfl rfl (fun _ => rfl) rfl) ?_
            rintro _ _ ⟨a79, c79, rfl, rfl⟩
            refine wl_op [96] rfl rfl rfl rfl (op_append (lab := 96) (lab' := 80) rfl rfl tP25o enc1Z (Sl.lab 79 rfl (by simp [maxLen])) (by first | omega | (simp; done) | (simp; omega) | (simp [*]; omega)) (by first | omega | (simp; done) | (simp; omega) | (simp [*]; omega))) ?_
            rintro _ _ ⟨a80, c80, rfl, rfl⟩
            refine wl_det rfl rfl rfl (op_fieldAddr (off := 6) rfl tF48_5o) ?_
            refine wl_op0 [6] rfl rfl rfl (op_store rfl rfl tZ25o (by rfl) (by rfl) (by exact Nat.le_of_ble_eq_true rfl)) ?_
            rintro _ _ ⟨rfl, rfl⟩
            refine wl_nil ?_
            refine st_bn ?_
            refine st_tn ?_
            refine w_region ?_
            refine wl_det rfl rfl rfl (op_move rfl) ?_
            refine wl_det rfl rfl rfl (op_add' rfl rfl (by omega)) ?_
            refine wl_det rfl rfl rfl (op_assign rfl) ?_
            refine wl_nil ?_
            refine st_roundQ (x := (s, out, a_out, c_out)) ((s + 1, _, _, _)) [80, 6, 2, 3, 4] rfl (rfl) (.cons rfl (.nil _)) (.cons rfl (.cons rfl (.cons rfl (.cons rfl (.nil _))))) (by
                try dsimp only
                refine ⟨by omega, ?_⟩
                rw [slots_snoc hs.1 (by omega), List.map_append, ← ho]; rfl) (by
                try dsimp only
                omega) 
          · -- c59.f
            refine w_exit ?_
            refine st_te ?_
            refine st_te ?_
            refine st_be ?_
            refine st_tn ?_
            refine w_seq ?_
            refine w_region ?_
            refine wl_det rfl rfl rfl (op_loadA rfl tA48o (Ent.lab (l := 6) rfl (says_cel 0)) (Nat.le_of_ble_eq_true rfl)) ?_
            refine wl_op0 [4] rfl rfl rfl (op_store rfl rfl tZ48o (by rfl) (by rfl) (by exact Nat.le_of_ble_eq_true rfl)) ?_
            rintro _ _ ⟨rfl, rfl⟩
            refine wl_det rfl rfl rfl (op_assign rfl) ?_
            refine wl_nil ?_
            refine st_tn ?_
            refine w_wk 96 (slE 3 encZ 1 (.slice a_out out.length c_out) out (alP a c l b d m (.slice a_out out.length c_out) out)) rfl (fun m h => .inl h) ?_
            refine w_ret ?_
            refine st_ret (vs := [_, _]) [96] Try.results41 ⟨⟨_, rfl, Ent.mono (Ent.lab (l := 4) rfl (says_cel 0)) (fun _ h => run_load_agg tA48o h (Nat.le_of_ble_eq_true rfl))⟩, ⟨rfl, trivial⟩⟩ rfl ?_
            refine ⟨[(lab, _)], rfl, ?_⟩
            have hol : (slots lo hi).take (s - lo).toNat = slots lo hi := List.take_of_length_le (by rw [slots_len]; omega)
            rw [hol] at ho
            have hb5 : ∀ q, sumV l fr m fr' q = (atV l fr q + atV m fr' q, 0) := fun q => by
              have h1 := atV_bd5 (fr := fr) (x := q) hv
              have h2 := atV_bd5 (fr := fr') (x := q) hw
              unfold sumV; rw [if_neg (by omega)]
            have hj : sumR k fr l k' fr' m = ⟨k, lo, out, 0⟩ := by
              unfold sumR; rw [if_neg hsk, if_neg hc18, if_neg ho2, ← hlo, ← hhi, show sumV l fr m fr' = fun q => (atV l fr q + atV m fr' q, 0) from funext hb5, bothR_all (by omega), ho]
            rw [hj]; exact ⟨_, _, rfl, rfl⟩

end Go.Proofs.Ytbgddblfalahfaa
