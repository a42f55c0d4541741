/- Traces of two stories; what the law SeriesAdds needs (layer 43). The law SeriesAdds (layer 43). The law SeriesAdds (layer 43): the walk. Conditions: none. -/
import Derived.Test.YtbgddblfalahfaaSlZ
import Derived.Test.YtbgddblfalahfaaSCb
namespace Go.Proofs.Ytbgddblfalahfaa
open Go Go.SL Go.RowKit
set_option linter.unusedVariables false
set_option linter.unusedSimpArgs false
section
variable {P : Program} {σ : World} {n : Nat} {F : List Res} {e : Env}
theorem opt_oc {o : Oper} {ι : Type} {R' : RL} {A : List Res} {B : ι → List Res} {S' : Value → RL → Prop} {R : ι → RL} {S : ι → Value → RL → Prop} (ho : Opens σ A ι B) (hA : rs R' = A) (hB : ∀ i, rs (R i) = B i) (h : ∀ i, OpT P σ n F o e (R i) (S i))
    (hc : ∀ i u ρ, S i u ρ → ∃ ρ', S' u ρ' ∧ Closes σ (rs ρ) (rs ρ')) : OpT P σ n F o e R' S' := fun Q K a w hr hw kk => by
  subst hA
  obtain ⟨i, h1⟩ := ho F w hw
  rw [← hB i] at h1
  exact h i Q K a w hr h1 fun v ρ w' hs ho' => by
    obtain ⟨ρ', e4, e5⟩ := hc i v ρ hs
    exact kk v ρ' w' e4 (e5 F w' ho')
theorem opt_fr {o : Oper} (R R2 : RL) {S : Value → RL → Prop} (h : OpT P σ n (rs R2 ++ F) o e R S) : OpT P σ n F o e (R ++ R2) (fun u ρ => ∃ ρ0, S u ρ0 ∧ ρ = ρ0 ++ R2) := fun Q K a w hr hw kk =>
  h Q K a w hr (by unfold rs at hw ⊢; rw [List.map_append, List.append_assoc] at hw; exact hw) fun v ρ w' hs ho' => kk v (ρ ++ R2) w' ⟨ρ, hs, rfl⟩ (by unfold rs at ho' ⊢; rw [List.map_append, List.append_assoc]; exact ho')
end
theorem pool_app {σ : World} : ∀ (P1 P2 : PSp), Closes σ [poolT P1, poolT P2] [poolT (P1 ++ P2)]
  | [], P2 => fun F w h => h.tail
  | p :: P1, P2 => fun F w h => by
    have h1 : SL.Own σ (slW 111 encSp 14 p.1 p.2 :: poolT P1 :: poolT P2 :: F) w := SL.Own.unstar h
    have h2 := pool_app P1 P2 (slW 111 encSp 14 p.1 p.2 :: F) w (h1.perm (List.Perm.trans (List.Perm.swap _ _ _) (List.Perm.cons _ (List.Perm.swap _ _ _))))
    exact SL.Own.star (h2.perm (List.Perm.swap _ _ _))
theorem tP70a : appB Try.prog 70 74 3 40 = true := by kernel_rfl
theorem op_appT {σ : World} {n : Nat} {F : List Res} {e : Env} {dst : Option Tmp} {ty : TypeId} {pos : String} {after : Array Edge} {guard : Option (Nat × Bool)} {x y : Operand} {K1 K2 : KT} {a1 a2 : Option Addr} {c1 c2 : Nat} (l1 l2 lab : Nat) (h1 : KtOk K1 3) (h2 : KtOk K2 3) (hx : ev e x = some (.slice a1 K1.length c1)) (hy : ev e y = some (.slice a2 K2.length c2)) :
    OpT Try.prog σ n F ⟨dst, .call ⟨.builtin .append, #[x, y], #[70, 70]⟩, ty, pos, after, guard⟩ e [(l1, trsR K1 a1 c1), (l2, trsR K2 a2 c2)] (fun u ρ => ∃ (a : Option Addr) (c : Nat), u = .slice a (K1 ++ K2).length c ∧ ρ = [(lab, trsR (K1 ++ K2) a c)]) :=
  opt_oc (ι := TrI K1 × TrI K2) ((trs_opens K1 a1 c1).app (trs_opens K2 a2 c2)) rfl
    (R := fun i => [(74, slW 74 encTr 3 (.slice a1 i.1.1.1.length c1) i.1.1.1)] ++ [(605, poolT i.1.1.2), (75, slW 74 encTr 3 (.slice a2 i.2.1.1.length c2) i.2.1.1), (606, poolT i.2.1.2)]) (fun i => rfl)
    (S := fun i u ρ => ∃ ρ0, (∃ (a : Option Addr) (c : Nat), u = .slice a (i.1.1.1 ++ i.2.1.1).length c ∧ ρ0 = [(74, slW 74 encTr 3 u (i.1.1.1 ++ i.2.1.1))]) ∧ ρ = ρ0 ++ [(605, poolT i.1.1.2), (75, slW 74 encTr 3 (.slice a2 i.2.1.1.length c2) i.2.1.1), (606, poolT i.2.1.2)])
    (fun i => by
      have e1 : K1.length = i.1.1.1.length := by have h0 := congrArg List.length i.1.2.1; rw [List.length_map] at h0; exact h0.symm
      have e2 : K2.length = i.2.1.1.length := by have h0 := congrArg List.length i.2.2.1; rw [List.length_map] at h0; exact h0.symm
      have b1 := h1.len
      have b2 := h2.len
      exact opt_fr _ _ (op_append (lab := 74) (lab' := 74) (l1 := i.1.1.1) (l2 := i.2.1.1) (v := .slice a1 i.1.1.1.length c1) (u := .slice a2 i.2.1.1.length c2) (by rw [← e1]; exact hx) (by rw [← e2]; exact hy) tP70a enc1Tr (Sl.lab 75 rfl (by unfold maxLen; omega)) (by omega) (by omega)))
    fun i u ρ ⟨ρ0, ⟨a, c, h3, h4⟩, h5⟩ => ⟨[(lab, trsR (K1 ++ K2) a c)], ⟨a, c, by
        have e1 := congrArg List.length i.1.2.1
        have e2 := congrArg List.length i.2.2.1
        rw [List.length_map] at e1 e2
        rw [h3, List.length_append, List.length_append, e1, e2], rfl⟩, by
      rw [h5, h4, h3]
      intro F w hw
      have hw1 : SL.Own σ ((poolT i.1.1.2 :: poolT i.2.1.2 :: slW 74 encTr 3 (.slice a (i.1.1.1 ++ i.2.1.1).length c) (i.1.1.1 ++ i.2.1.1) :: slW 74 encTr 3 (.slice a2 i.2.1.1.length c2) i.2.1.1 :: F)) w := hw.perm (List.Perm.trans (List.Perm.swap _ _ _) (List.Perm.cons _ (List.Perm.trans (List.Perm.cons _ (List.Perm.swap _ _ _)) (List.Perm.swap _ _ _))))
      have hw2 := pool_app i.1.1.2 i.2.1.2 _ w hw1
      have hw3 : SL.Own σ (slW 74 encTr 3 (.slice a (i.1.1.1 ++ i.2.1.1).length c) (i.1.1.1 ++ i.2.1.1) :: poolT (i.1.1.2 ++ i.2.1.2) :: F) w := by
        have h8 : SL.Own σ (slW 74 encTr 3 (.slice a2 i.2.1.1.length c2) i.2.1.1 :: poolT (i.1.1.2 ++ i.2.1.2) :: slW 74 encTr 3 (.slice a (i.1.1.1 ++ i.2.1.1).length c) (i.1.1.1 ++ i.2.1.1) :: F) w := hw2.perm (List.Perm.trans (List.Perm.cons _ (List.Perm.swap _ _ _)) (List.Perm.swap _ _ _))
        exact h8.tail.perm (List.Perm.swap _ _ _)
      exact trs_closes (i.1.1.1 ++ i.2.1.1, i.1.1.2 ++ i.2.1.2) ⟨by rw [List.map_append, i.1.2.1, i.2.2.1], fun t ht => by
        rcases List.mem_append.1 ht with ht | ht
        · exact List.mem_append.2 (.inl (i.1.2.2 t ht))
        · exact List.mem_append.2 (.inr (i.2.2.2 t ht))⟩ F w hw3⟩
end Go.Proofs.Ytbgddblfalahfaa
namespace Go.Proofs.Ytbgddblfalahfaa
open Go Go.SL Go.RowKit
set_option linter.unusedVariables false
set_option linter.unusedSimpArgs false
def valsV (k : SK) (K : KT) : List Int := (slots 0 64).map (valT k K)
theorem valsV_len (k : SK) (K : KT) : (valsV k K).length = 64 := by unfold valsV; rw [List.length_map, slots_len]; rfl
theorem ofR_go {k : SK} (hG : GK k) (K : KT) : ofR k K 0 64 = ⟨k, 0, valsV k K, 0⟩ := by
  have h1 : chkE k 0 [] = 0 := (chk_ok hG (fr := 0) (l := []) (by simp) (by simp)).2 (by simp)
  unfold ofR
  rw [if_neg (by rw [h1]; simp), if_neg (by omega), if_neg (by omega)]
  rfl
theorem of_go {σ : World} {F : List Res} {a va : Option Addr} {c vn vc : Nat} {K : KT} (lab lab2 : Nat) (k : SK) (fr : Int) {n : Nat} (hK : KtOk K n) (hn : n ≤ 100) (hG : GK k) :
    FnT Try.prog σ F 36 [.slice a K.length c, sr k fr (.slice va vn vc), .agg #[.int .i64 0, .int .i64 64]] [(lab, trsR K a c)] (fun u ρ => ∃ (a' : Option Addr) (c' : Nat), u = .tuple #[sr k 0 (.slice a' (valsV k K).length c'), .int .i64 0] ∧ ρ = [(lab, trsR K a c), (lab2, slW 3 SL.encZ 1 (.slice a' (valsV k K).length c') (valsV k K))]) := by
  have h := of_c (σ := σ) (F := F) (a := a) (va := va) (c := c) (vn := vn) (vc := vc) lab lab2 k fr 0 64 hK hn hG.svc hG.op hG.q1 hG.q2 (by decide) (by decide)
  rw [ofR_go hG K] at h
  exact h
theorem valK_bd {K : KT} {n : Nat} (h : KtOk K n) (hn : n ≤ 100) (k : SK) (hm : k.met ≠ 3) (s : Int) : 0 ≤ valT k K s ∧ valT k K s ≤ 10000 := by
  have h1 := durT_le k s K h.sp
  have h2 := h.len
  unfold valT
  rw [if_neg hm]
  split <;> omega
theorem valT_add {k : SK} (hm : k.met ≠ 3) (K1 K2 : KT) (s : Int) : valT k (K1 ++ K2) s = valT k K1 s + valT k K2 s := by
  unfold valT
  rw [if_neg hm, if_neg hm, if_neg hm]
  split
  · unfold errT; rw [List.map_append, List.sum_append]; omega
  · unfold durT; rw [List.map_append, List.flatten_append, List.length_append]; omega
theorem atV_vals {k : SK} {K : KT} {s : Int} (h : s ∈ slots 0 64) : atV (valsV k K) 0 s = valT k K s := by
  have h1 := mem_slots.1 h
  unfold atV
  rw [if_pos (by rw [valsV_len]; omega)]
  unfold valsV
  rw [List.getD_eq_getElem?_getD, List.getElem?_map, slots_get h1.1 h1.2]; rfl
theorem sumR_go {k : SK} {K1 K2 : KT} (h1 : KtOk K1 3) (h2 : KtOk K2 3) (hm : k.met ≠ 3) : sumR k 0 (valsV k K1) k 0 (valsV k K2) = ⟨k, 0, valsV k (K1 ++ K2), 0⟩ := by
  have hl1 := valsV_len k K1
  have hl2 := valsV_len k K2
  have hsv : ∀ s ∈ slots 0 64, sumV (valsV k K1) 0 (valsV k K2) 0 s = (valT k (K1 ++ K2) s, 0) := fun s hs => by
    have b1 := valK_bd h1 (by omega) k hm s
    have b2 := valK_bd h2 (by omega) k hm s
    unfold sumV
    rw [atV_vals hs, atV_vals hs, if_neg (by omega), valT_add hm]
  unfold sumR
  rw [if_neg (fun h => h (sameK_refl k)), if_neg hm, if_neg (oneR_both (by omega) (by omega)), hl1, hl2]
  show bothR k 0 64 _ = _
  unfold bothR
  rw [if_neg (by omega), List.find?_eq_none.2 (fun q hq => by rw [hsv q hq]; simp)]
  show (⟨k, 0, (slots 0 64).map (fun s => (sumV (valsV k K1) 0 (valsV k K2) 0 s).1), 0⟩ : R) = _
  rw [List.map_congr_left (g := valT k (K1 ++ K2)) (fun s hs => by rw [hsv s hs])]
  rfl
theorem sumR_lat {k : SK} {K1 K2 : KT} (hm : k.met = 3) : sumR k 0 (valsV k K1) k 0 (valsV k K2) = zeroR 12 := by
  unfold sumR
  rw [if_neg (fun h => h (sameK_refl k)), if_pos hm]
theorem valsV_bd {k : SK} {K : KT} {n : Nat} (h : KtOk K n) (hn : n ≤ 100) : ∀ x ∈ valsV k K, 0 ≤ x ∧ x ≤ 1099511627776 := fun x hx => by
  unfold valsV at hx
  obtain ⟨s, _, rfl⟩ := List.mem_map.1 hx
  by_cases hm : k.met = 3
  · unfold valT
    rw [if_neg (by omega), if_pos hm]
    refine quant_bd fun y hy => ?_
    unfold durT at hy
    obtain ⟨l, hl, hy⟩ := List.mem_flatten.1 hy
    obtain ⟨q, hq, rfl⟩ := List.mem_map.1 hl
    split at hy
    · exact durS_bd (fun x hx => (h.bd q hq x hx).2.2) y hy
    · simp at hy
  · have := valK_bd h hn k hm s; omega
def kE (k : SK) : SK := ⟨k.svc, k.op, 2, k.qn, k.qd⟩
def kT (k : SK) : SK := ⟨k.svc, k.op, 1, k.qn, k.qd⟩
theorem gk_E {k : SK} (h : GK k) (hm : k.met ≠ 3) : GK (kE k) := ⟨h.svc, h.op, h.q1, h.q2, by simp [kE], h.n1, h.n2, fun h3 => by simp [kE] at h3, fun _ => h.q.2 hm⟩
theorem gk_T {k : SK} (h : GK k) (hm : k.met ≠ 3) : GK (kT k) := ⟨h.svc, h.op, h.q1, h.q2, by simp [kT], h.n1, h.n2, fun h3 => by simp [kT] at h3, fun _ => h.q.2 hm⟩
theorem zip_vals (k : SK) (K : KT) : (valsV (kE k) K).zip (valsV (kT k) K) = (slots 0 64).map (fun s => (valT (kE k) K s, valT (kT k) K s)) := by unfold valsV; rw [List.zip_map']
theorem err_le {k : SK} {K : KT} {n : Nat} (h : KtOk K n) (s : Int) : 0 ≤ valT (kE k) K s ∧ valT (kE k) K s ≤ valT (kT k) K s := by
  have h1 := (durT_le (kE k) s K h.sp).2
  have h2 : valT (kE k) K s = (errT (kE k) K s : Int) := by unfold valT; rw [if_pos (show (kE k).met = 2 from rfl)]
  have h3 : valT (kT k) K s = ((durT (kE k) K s).length : Int) := by
    unfold valT
    rw [if_neg (by simp [kT]), if_neg (by simp [kT])]
    rfl
  rw [h2, h3]; omega
theorem rates_go {k : SK} {K : KT} {n : Nat} (h : KtOk K n) : ratesE (kE k) 0 (valsV (kE k) K) (kT k) 0 (valsV (kT k) K) = 0 := by
  unfold ratesE
  rw [if_neg (by simp [kE, kT]), if_neg (by rw [valsV_len, valsV_len]; simp [kE, kT]), zip_vals, if_neg]
  intro h1
  obtain ⟨p, hp, h2⟩ := List.any_eq_true.1 h1
  obtain ⟨s, _, rfl⟩ := List.mem_map.1 hp
  have := err_le (k := k) h s
  have := of_decide_eq_true h2
  dsimp only at this
  omega
def rateL (k : SK) (K : KT) : List Int := (slots 0 64).map (fun s => rateOf (valT (kE k) K s, valT (kT k) K s))
theorem rateL_len (k : SK) (K : KT) : (rateL k K).length = 64 := by unfold rateL; rw [List.length_map, slots_len]; rfl
theorem rateL_bd {k : SK} {K : KT} {n : Nat} (h : KtOk K n) : ∀ x ∈ rateL k K, 0 ≤ x ∧ x ≤ 1000000 := fun x hx => by
  unfold rateL at hx
  obtain ⟨s, _, rfl⟩ := List.mem_map.1 hx
  have h1 := err_le (k := k) h s
  unfold rateOf
  dsimp only
  generalize valT (kE k) K s = p at *
  generalize valT (kT k) K s = q at *
  refine ⟨Int.ediv_nonneg (by omega) (by omega), ?_⟩
  have hq : 0 < max 1 q := by omega
  refine Int.le_of_lt_add_one (Int.ediv_lt_of_lt_mul hq ?_)
  have : p ≤ max 1 q := by omega
  omega
theorem rates_fn {σ : World} {F : List Res} {a b : Option Addr} {c d : Nat} {k : SK} {K : KT} {n : Nat} (lab : Nat) (hK : KtOk K n) (hn : n ≤ 100) (h : Sl σ F SL.encZ 1 (.slice a (valsV (kE k) K).length c) (valsV (kE k) K)) (g : Sl σ F SL.encZ 1 (.slice b (valsV (kT k) K).length d) (valsV (kT k) K)) :
    FnT Try.prog σ F 21 [sr (kE k) 0 (.slice a (valsV (kE k) K).length c), sr (kT k) 0 (.slice b (valsV (kT k) K).length d)] [] (fun u ρ => ∃ (a' : Option Addr) (c' : Nat), u = .tuple #[.slice a' (rateL k K).length c', .int .i64 0] ∧ ρ = [(lab, slW 3 SL.encZ 1 (.slice a' (rateL k K).length c') (rateL k K))]) := by
  have h1 := valsV_len (kE k) K
  have h2 := valsV_len (kT k) K
  refine fn_imp (rates_any lab (kE k) 0 (kT k) 0 h g (by omega) (by omega) (valsV_bd hK hn) (valsV_bd hK hn)) ?_
  rintro u ρ ⟨r, a', c', hr, hu, hρ⟩
  rw [rates_go hK, if_pos rfl, zip_vals, List.map_map] at hr
  have hr2 : r = rateL k K := hr
  subst hr2
  rw [rates_go hK] at hu
  exact ⟨a', c', hu, hρ⟩
end Go.Proofs.Ytbgddblfalahfaa
namespace Go.Proofs.Ytbgddblfalahfaa
open Go Go.SL Go.RowKit
set_option linter.unusedVariables false
set_option linter.unusedSimpArgs false
theorem tA37sn : aggB Try.prog 37 2 = true := by kernel_rfl
theorem tA46sn : aggB Try.prog 46 6 = true := by kernel_rfl
theorem tA48sn : aggB Try.prog 48 7 = true := by kernel_rfl
theorem tA68sn : aggB Try.prog 68 7 = true := by kernel_rfl
theorem tB37sn : placesB Try.prog 37 = some ([(0, 1), (1, 1)], [Value.int .i64 0, Value.int .i64 0]) := by kernel_rfl
theorem tF48_2sn : fieldB Try.prog 48 2 2 = true := by kernel_rfl
theorem tMixsn : Try.prog.follows .mixedOrders = true := by kernel_rfl
theorem tN37sn : (Try.prog.info? 37).bind (·.zero) = some (Value.agg #[Value.int .i64 0, Value.int .i64 0]) := by kernel_rfl
theorem tN48sn : (Try.prog.info? 48).bind (·.zero) = some (Value.agg #[Value.string .empty, Value.string .empty, Value.int .i64 0, Value.int .i64 0, Value.int .i64 0, Value.int .i64 0, Value.slice none 0 0]) := by kernel_rfl
theorem tO3sn : oneB Try.prog 3 = true := by kernel_rfl
theorem tS25sn : sliceB Try.prog 25 3 1 = true := by kernel_rfl
theorem tZ3sn : (Try.prog.info? 3).map (·.size) = some 1 := by kernel_rfl
theorem tZ37sn : (Try.prog.info? 37).map (·.size) = some 2 := by kernel_rfl
theorem tZ48sn : (Try.prog.info? 48).map (·.size) = some 7 := by kernel_rfl
theorem kt_app {K1 K2 : KT} (h1 : KtOk K1 3) (h2 : KtOk K2 3) : KtOk (K1 ++ K2) 6 := ⟨by rw [List.length_append]; have := h1.len; have := h2.len; omega, fun q hq => (List.mem_append.1 hq).elim (h1.sp q) (h2.sp q), fun q hq => (List.mem_append.1 hq).elim (h1.bd q) (h2.bd q)⟩
theorem sl64 {k : SK} {K : KT} : (valsV k K).length ≤ maxLen := by rw [valsV_len]; unfold maxLen; omega
theorem sames_go {σ : World} {F : List Res} {a b : Option Addr} {c d : Nat} {k : SK} {V : List Int} {r : R} (hr : r = ⟨k, 0, V, 0⟩) (h : Sl σ F SL.encZ 1 (.slice a V.length c) V) (g : Sl σ F SL.encZ 1 (.slice b r.vals.length d) r.vals) :
    FnT Try.prog σ F 27 [sr k 0 (.slice a V.length c), sr r.k r.fr (.slice b r.vals.length d)] [] (fun u ρ => u = .bool true ∧ ρ = []) := by
  subst hr
  exact same_self h g
set_option maxHeartbeats 4000000 in
set_option maxRecDepth 100000 in
theorem lawAdds_any {σ : World} {F : List Res} {S S' : StoryV} {a : Option Addr} {c : Nat} {l : List Int} (x0 x1 x2 x3 x4 : Int) (hS : StOk σ F S) (hS' : StOk σ F S') (h : Sl σ F encY 1 (.slice a l.length c) l) (hb : ∀ x ∈ l, 0 ≤ x ∧ x ≤ 255) (h0 : 0 ≤ x0 ∧ x0 ≤ 255) (h1 : 0 ≤ x1 ∧ x1 ≤ 255) (h2 : 0 ≤ x2 ∧ x2 ≤ 255) (h3 : 0 ≤ x3 ∧ x3 ≤ 255) (h4 : 0 ≤ x4 ∧ x4 ≤ 255) :
    FnT Try.prog σ F 13 [stV S, stV S', .agg #[.int .u8 x0, .int .u8 x1, .int .u8 x2, .int .u8 x3, .int .u8 x4, .slice a l.length c]] [] (fun u ρ => u = .bool true ∧ ρ = []) := by
  refine fn_of 159 Try.func13 rfl Try.ntmps13 rfl ?_
  have hG := kG_ok x0 x1 x2 x3
  obtain ⟨k, hk⟩ : ∃ k, k = kG x0 x1 x2 x3 := ⟨_, rfl⟩
  rw [← hk] at hG
  refine w_seq (w_region (wl_op [] rfl rfl rfl rfl (op_box (T := 68) (l := 3) rfl) ?_))
  rintro _ _ ⟨b3, rfl, rfl⟩
  refine wl_op [] rfl rfl rfl rfl (op_box (T := 68) (l := 4) rfl) ?_
  rintro _ _ ⟨b4, rfl, rfl⟩
  refine wl_op [] rfl rfl rfl rfl (op_box (T := 46) (l := 5) rfl) ?_
  rintro _ _ ⟨b5, rfl, rfl⟩
  refine za rfl (wl_nil (st_tn (w_seq (w_seq (w_region (zd rfl (op_fn Try.func16 rfl rfl rfl (known_any)) (zd rfl (op_not_t rfl) (zm rfl (wl_wanted_det rfl rfl rfl rfl rfl rfl rfl (op_loadA rfl tA68sn (Ent.lab (l := 3) rfl (says_cel 0)) (Nat.le_of_ble_eq_true rfl)) (wl_wanted_det rfl rfl rfl rfl rfl rfl rfl (op_fn Try.func34 rfl rfl rfl (short_any (hS.app _))) (wl_wanted_det rfl rfl rfl rfl rfl rfl rfl (op_not_d rfl) (zd rfl (op_pick_f rfl rfl) (zm rfl ?_)))))))))))))
  refine wl_gsplit (t := 33) rfl (fun hg33 => ?_) (fun hg33 => ?_)
  · -- 33 is True
    refine wl_unwanted rfl rfl rfl rfl rfl rfl rfl rfl (wl_unwanted rfl rfl rfl rfl rfl rfl rfl rfl (wl_unwanted rfl rfl rfl rfl rfl rfl rfl rfl (zd rfl (op_pick_t rfl rfl) (wl_nil (st_tn (w_cond_t (rfl) ?_))))))
    refine w_seq (w_region (zd rfl (op_fn Try.func16 rfl rfl rfl (known_any)) (za rfl (wl_nil (st_tn (w_ret (st_tr (st_ret (vs := [_]) [] Try.results13 ⟨rfl, trivial⟩ rfl ?_))))))))
    refine ⟨_, rfl, ?_⟩
    exact ⟨rfl, rfl⟩
  · -- 33 is False
    refine wl_wanted_det rfl rfl rfl rfl rfl rfl rfl (op_loadA rfl tA68sn (Ent.lab (l := 4) rfl (says_cel 0)) (Nat.le_of_ble_eq_true rfl)) (wl_wanted_det rfl rfl rfl rfl rfl rfl rfl (op_fn Try.func34 rfl rfl rfl (short_any (hS'.app _))) (wl_wanted_det rfl rfl rfl rfl rfl rfl rfl (op_not_d rfl) (zd rfl (op_pick_f rfl rfl) (wl_nil (st_tn (w_cond_d rfl (fun hc37 => ?_) (fun hc37 => ?_)))))))
    · -- c37.t
      refine w_seq (w_region (zd rfl (op_fn Try.func16 rfl rfl rfl (known_any)) (za rfl (wl_nil (st_tn (w_ret (st_tr (st_ret (vs := [_]) [] Try.results13 ⟨rfl, trivial⟩ rfl ?_))))))))
      refine ⟨_, rfl, ?_⟩
      exact ⟨rfl, rfl⟩
    · -- c37.f
      refine w_skip (st_tn (w_seq ?_))
      have hsh : shortP S := Classical.byContradiction fun hn => by simp_all
      have hsh' : shortP S' := Classical.byContradiction fun hn => by simp_all
      have hK := traces_ok hS.b hsh
      have hK' := traces_ok hS'.b hsh'
      refine w_region (zd rfl (op_build tB37sn rfl rfl) (wl_op [] rfl rfl rfl rfl (op_alloc (l := 7) tN37sn) ?_))
      rintro _ _ ⟨b7, rfl, rfl⟩
      refine wl_op0 [7] rfl rfl rfl (op_store rfl rfl tZ37sn (by rfl) (by rfl) (by exact Nat.le_of_ble_eq_true rfl)) ?_
      rintro _ _ ⟨rfl, rfl⟩
      refine wl_nil (st_tn (w_seq (w_region (zd rfl (op_loadA rfl tA46sn (Ent.lab (l := 5) rfl (says_cel 0)) (Nat.le_of_ble_eq_true rfl)) (wl_op [] rfl rfl rfl rfl (op_fn Try.func20 rfl rfl rfl (fn_imp (series_any 41 x0 x1 x2 x3 x4 (Sl.app h _) hb h0 h1 h2 h3 h4) (fun u ρ hu => (by rw [← hk] at hu; exact hu : ∃ a c, u = sr k (x4 % 40) (.slice a (l.take 30).length c) ∧ ρ = [(41, slW 3 encZ 1 (.slice a (l.take 30).length c) (l.take 30))])))) ?_)))))
      rintro _ _ ⟨a41, c41, rfl, rfl⟩
      refine wl_op [] rfl rfl rfl rfl (op_alloc (l := 8) tN48sn) ?_
      rintro _ _ ⟨b8, rfl, rfl⟩
      refine wl_op0 [8] rfl rfl rfl (op_store rfl rfl tZ48sn (by rfl) (by rfl) (by exact Nat.le_of_ble_eq_true rfl)) ?_
      rintro _ _ ⟨rfl, rfl⟩
      refine wl_nil (st_tn (w_seq ?_))
      refine w_drawW (fun β => [⟨43, [], [], [], noW (_), false, [], []⟩, ⟨44, [0], [], [], fun w => DetW _ _, true, [], []⟩, ⟨45, [], [], [], noW (_), false, [], []⟩, ⟨46, [], [], [], noW (_), false, [], []⟩, ⟨47, [2, 3], [1], [], fun w => DetW _ _, false, [], []⟩, ⟨42, [4], [], [], noW (_), false, [], []⟩, ⟨48, [5], [], [], noW (_), false, [], []⟩, ⟨49, [5], [], [], noW (_), false, [], []⟩, ⟨9, [], [], [], fun w => DetW _ _, true, [], []⟩, ⟨168, [6], [8], [], noW (_), false, [], []⟩]) [] [3, 8, 7] [⟨43, [], [], false, [], []⟩, ⟨44, [0], [], true, [], []⟩, ⟨45, [], [], false, [], []⟩, ⟨46, [], [], false, [], []⟩, ⟨47, [2, 3], [1], false, [], []⟩, ⟨42, [4], [], false, [], []⟩, ⟨48, [5], [], false, [], []⟩, ⟨49, [5], [], false, [], []⟩, ⟨9, [], [], true, [], []⟩, ⟨168, [6], [8], false, [], []⟩] [[], [], [], [], [1], [1, 4], [1, 4], [1, 4], [], [1, 4, 8]] [[], [], [], [], [], [], [], [], [], []] tMixsn (fun _ => by rfl) (fun _ => by rfl) (by kernel_rfl) (by kernel_rfl) (by rfl) (by rfl)
          (fun β => ⟨.p rfl (by intro X; exact op_loadA rfl tA68sn (Ent.lab (l := 3) rfl (says_cel 0)) (Nat.le_of_ble_eq_true rfl)),
          ⟨.px rfl (by intro X; rintro _ _ ⟨rfl, rfl⟩; refine OpT.mono (op_fn Try.func35 rfl rfl rfl (traces_c 44 ((hS.app _).app _) hsh)) ?_; rintro _ _ ⟨a44, c44, rfl, rfl⟩; obtain ⟨w, rfl, rfl⟩ : ∃ w : Wt, w.a = a44 ∧ w.c = c44 := ⟨{ a := a44, c := c44 }, rfl, rfl⟩; exact ⟨w, rfl, rfl⟩),
          ⟨.p rfl (by intro X; exact op_loadA rfl tA48sn (Ent.lab (l := 8) rfl (says_cel 0)) (Nat.le_of_ble_eq_true rfl)),
          ⟨.p rfl (by intro X; exact op_loadA rfl tA37sn (Ent.lab (l := 7) rfl (says_cel 0)) (Nat.le_of_ble_eq_true rfl)),
          ⟨.px rfl (by intro X; rintro _ _ ⟨rfl, rfl⟩ _ _ ⟨rfl, rfl⟩ _ _ ⟨rfl, rfl⟩; show OpT _ _ _ _ _ _ [(_, _)] _; refine OpT.mono (op_fn Try.func36 rfl rfl rfl (of_go 44 47 k (x4 % 40) hK (by decide) hG)) ?_; rintro _ _ ⟨a47, c47, rfl, rfl⟩; obtain ⟨w, rfl, rfl⟩ : ∃ w : Wt, w.a = a47 ∧ w.c = c47 := ⟨{ a := a47, c := c47 }, rfl, rfl⟩; exact ⟨w, rfl, rfl⟩),
          ⟨.p rfl (by intro X; rintro _ _ ⟨rfl, rfl⟩; exact op_move rfl),
          ⟨.p rfl (by intro X; rintro _ _ ⟨rfl, rfl⟩; exact op_extract rfl rfl),
          ⟨.p rfl (by intro X; rintro _ _ ⟨rfl, rfl⟩; exact op_extract rfl rfl),
          ⟨.px rfl (by intro X; refine OpT.mono (op_alloc (l := 9) tN48sn) ?_; rintro _ _ ⟨b9, rfl, rfl⟩; obtain ⟨w, rfl⟩ : ∃ w : Wt, w.b = b9 := ⟨{ b := b9 }, rfl⟩; exact ⟨w, rfl, rfl⟩),
          ⟨.p rfl (by intro X; rintro _ _ ⟨rfl, rfl⟩ _ _ ⟨rfl, rfl⟩; show OpT _ _ _ _ _ _ [(_, _)] _; exact op_store rfl rfl tZ48sn (by rfl) (by rfl) (by exact Nat.le_of_ble_eq_true rfl)) (hu := by exact .inr fun _ _ h => h.1),
          trivial⟩⟩⟩⟩⟩⟩⟩⟩⟩⟩)
          (fun β β' => ⟨fun _ => by rfl, ⟨fun _ => by rfl, ⟨fun _ => by rfl, ⟨fun _ => by rfl, ⟨fun h => by first | rfl | (simp only [h 1 (by decide)]), ⟨fun h => by first | rfl | (simp only [h 1 (by decide), h 4 (by decide)]), ⟨fun h => by first | rfl | (simp only [h 1 (by decide), h 4 (by decide)]), ⟨fun h => by first | rfl | (simp only [h 1 (by decide), h 4 (by decide)]), ⟨fun _ => by rfl, ⟨fun h => by first | rfl | (simp only [h 1 (by decide), h 4 (by decide), h 8 (by decide)]), trivial⟩⟩⟩⟩⟩⟩⟩⟩⟩⟩) ?_
      intro β
      rintro _ _ ⟨rfl, rfl⟩ _ _ ⟨rfl, rfl⟩ _ _ ⟨rfl, rfl⟩ _ _ ⟨rfl, rfl⟩ _ _ ⟨rfl, rfl⟩ _ _ ⟨rfl, rfl⟩ _ _ ⟨rfl, rfl⟩ _ _ ⟨rfl, rfl⟩ _ _ ⟨rfl, rfl⟩ _ _ ⟨rfl, rfl⟩
      generalize (β 1).a = a44
      generalize (β 1).c = c44
      generalize (β 4).a = a47
      generalize (β 4).c = c47
      generalize (β 8).b = b9
      refine wl_norm (e' := [(3, _), (4, _), (7, _), (8, _), (9, _), (49, _)]) (.cons rfl (.cons rfl (.cons rfl (.cons rfl (.cons rfl (.cons rfl (.nil _))))))) (by dsimp only [cond_false, cond_true, List.nil_append, List.cons_append]) ?_
      refine za rfl (wl_nil (st_tn (w_seq ?_)))
      refine w_drawW (fun β => [⟨51, [], [], [], noW (_), false, [], []⟩, ⟨52, [0], [], [], fun w => DetW _ _, true, [], []⟩, ⟨53, [], [], [], noW (_), false, [], []⟩, ⟨54, [], [], [], noW (_), false, [], []⟩, ⟨55, [2, 3], [1], [], fun w => DetW _ _, false, [], []⟩, ⟨50, [4], [], [], noW (_), false, [], []⟩, ⟨56, [5], [], [], noW (_), false, [], []⟩, ⟨57, [5], [], [], noW (_), false, [], []⟩, ⟨11, [], [], [], fun w => DetW _ _, true, [], []⟩, ⟨168, [6], [8], [], noW (_), false, [], []⟩]) [] [4, 8, 7] [⟨51, [], [], false, [], []⟩, ⟨52, [0], [], true, [], []⟩, ⟨53, [], [], false, [], []⟩, ⟨54, [], [], false, [], []⟩, ⟨55, [2, 3], [1], false, [], []⟩, ⟨50, [4], [], false, [], []⟩, ⟨56, [5], [], false, [], []⟩, ⟨57, [5], [], false, [], []⟩, ⟨11, [], [], true, [], []⟩, ⟨168, [6], [8], false, [], []⟩] [[], [], [], [], [1], [1, 4], [1, 4], [1, 4], [], [1, 4, 8]] [[], [], [], [], [], [], [], [], [], []] tMixsn (fun _ => by rfl) (fun _ => by rfl) (by kernel_rfl) (by kernel_rfl) (by rfl) (by rfl)
          (fun β => ⟨.p rfl (by intro X; exact op_loadA rfl tA68sn (Ent.lab (l := 4) rfl (says_cel 0)) (Nat.le_of_ble_eq_true rfl)),
          ⟨.px rfl (by intro X; rintro _ _ ⟨rfl, rfl⟩; refine OpT.mono (op_fn Try.func35 rfl rfl rfl (traces_c 52 ((hS'.app _).app _) hsh')) ?_; rintro _ _ ⟨a52, c52, rfl, rfl⟩; obtain ⟨w, rfl, rfl⟩ : ∃ w : Wt, w.a = a52 ∧ w.c = c52 := ⟨{ a := a52, c := c52 }, rfl, rfl⟩; exact ⟨w, rfl, rfl⟩),
          ⟨.p rfl (by intro X; exact op_loadA rfl tA48sn (Ent.lab (l := 8) rfl (says_cel 0)) (Nat.le_of_ble_eq_true rfl)),
          ⟨.p rfl (by intro X; exact op_loadA rfl tA37sn (Ent.lab (l := 7) rfl (says_cel 0)) (Nat.le_of_ble_eq_true rfl)),
          ⟨.px rfl (by intro X; rintro _ _ ⟨rfl, rfl⟩ _ _ ⟨rfl, rfl⟩ _ _ ⟨rfl, rfl⟩; show OpT _ _ _ _ _ _ [(_, _)] _; refine OpT.mono (op_fn Try.func36 rfl rfl rfl (of_go 52 55 k (x4 % 40) hK' (by decide) hG)) ?_; rintro _ _ ⟨a55, c55, rfl, rfl⟩; obtain ⟨w, rfl, rfl⟩ : ∃ w : Wt, w.a = a55 ∧ w.c = c55 := ⟨{ a := a55, c := c55 }, rfl, rfl⟩; exact ⟨w, rfl, rfl⟩),
          ⟨.p rfl (by intro X; rintro _ _ ⟨rfl, rfl⟩; exact op_move rfl),
          ⟨.p rfl (by intro X; rintro _ _ ⟨rfl, rfl⟩; exact op_extract rfl rfl),
          ⟨.p rfl (by intro X; rintro _ _ ⟨rfl, rfl⟩; exact op_extract rfl rfl),
          ⟨.px rfl (by intro X; refine OpT.mono (op_alloc (l := 11) tN48sn) ?_; rintro _ _ ⟨b11, rfl, rfl⟩; obtain ⟨w, rfl⟩ : ∃ w : Wt, w.b = b11 := ⟨{ b := b11 }, rfl⟩; exact ⟨w, rfl, rfl⟩),
          ⟨.p rfl (by intro X; rintro _ _ ⟨rfl, rfl⟩ _ _ ⟨rfl, rfl⟩; show OpT _ _ _ _ _ _ [(_, _)] _; exact op_store rfl rfl tZ48sn (by rfl) (by rfl) (by exact Nat.le_of_ble_eq_true rfl)) (hu := by exact .inr fun _ _ h => h.1),
          trivial⟩⟩⟩⟩⟩⟩⟩⟩⟩⟩)
          (fun β β' => ⟨fun _ => by rfl, ⟨fun _ => by rfl, ⟨fun _ => by rfl, ⟨fun _ => by rfl, ⟨fun h => by first | rfl | (simp only [h 1 (by decide)]), ⟨fun h => by first | rfl | (simp only [h 1 (by decide), h 4 (by decide)]), ⟨fun h => by first | rfl | (simp only [h 1 (by decide), h 4 (by decide)]), ⟨fun h => by first | rfl | (simp only [h 1 (by decide), h 4 (by decide)]), ⟨fun _ => by rfl, ⟨fun h => by first | rfl | (simp only [h 1 (by decide), h 4 (by decide), h 8 (by decide)]), trivial⟩⟩⟩⟩⟩⟩⟩⟩⟩⟩) ?_
      intro β
      rintro _ _ ⟨rfl, rfl⟩ _ _ ⟨rfl, rfl⟩ _ _ ⟨rfl, rfl⟩ _ _ ⟨rfl, rfl⟩ _ _ ⟨rfl, rfl⟩ _ _ ⟨rfl, rfl⟩ _ _ ⟨rfl, rfl⟩ _ _ ⟨rfl, rfl⟩ _ _ ⟨rfl, rfl⟩ _ _ ⟨rfl, rfl⟩
      generalize (β 1).a = a52
      generalize (β 1).c = c52
      generalize (β 4).a = a55
      generalize (β 4).c = c55
      generalize (β 8).b = b11
      refine wl_norm (e' := [(3, _), (4, _), (7, _), (8, _), (9, _), (10, _), (11, _), (57, _)]) (.cons rfl (.cons rfl (.cons rfl (.cons rfl (.cons rfl (.cons rfl (.cons rfl (.cons rfl (.nil _))))))))) (by dsimp only [cond_false, cond_true, List.nil_append, List.cons_append]) ?_
      refine za rfl (wl_nil (st_tn (w_seq ?_)))
      refine w_drawW (fun β => [⟨59, [], [], [], noW (_), false, [], []⟩, ⟨60, [0], [], [], fun w => DetW _ _, true, [], []⟩, ⟨61, [], [], [], noW (_), false, [], []⟩, ⟨62, [2], [], [], fun w => DetW _ _, true, [], []⟩, ⟨63, [], [1, 3], [], fun w => DetW _ _, true, [], []⟩, ⟨64, [], [], [], noW (_), false, [], []⟩, ⟨65, [], [], [], noW (_), false, [], []⟩, ⟨66, [5, 6], [4], [], fun w => DetW _ _, false, [], []⟩, ⟨58, [7], [], [], noW (_), false, [], []⟩, ⟨67, [8], [], [], noW (_), false, [], []⟩, ⟨68, [8], [], [], noW (_), false, [], []⟩, ⟨13, [], [], [], fun w => DetW _ _, true, [], []⟩, ⟨171, [9], [11], [], noW (_), false, [], []⟩]) [] [3, 4, 8, 7] [⟨59, [], [], false, [], []⟩, ⟨60, [0], [], true, [], []⟩, ⟨61, [], [], false, [], []⟩, ⟨62, [2], [], true, [], []⟩, ⟨63, [], [1, 3], true, [], []⟩, ⟨64, [], [], false, [], []⟩, ⟨65, [], [], false, [], []⟩, ⟨66, [5, 6], [4], false, [], []⟩, ⟨58, [7], [], false, [], []⟩, ⟨67, [8], [], false, [], []⟩, ⟨68, [8], [], false, [], []⟩, ⟨13, [], [], true, [], []⟩, ⟨171, [9], [11], false, [], []⟩] [[], [], [], [], [1, 3], [], [], [1, 3, 4], [1, 3, 4, 7], [1, 3, 4, 7], [1, 3, 4, 7], [], [1, 3, 4, 7, 11]] [[], [], [], [], [], [], [], [], [], [], [], [], []] tMixsn (fun _ => by rfl) (fun _ => by rfl) (by kernel_rfl) (by kernel_rfl) (by rfl) (by rfl)
          (fun β => ⟨.p rfl (by intro X; exact op_loadA rfl tA68sn (Ent.lab (l := 3) rfl (says_cel 0)) (Nat.le_of_ble_eq_true rfl)),
          ⟨.px rfl (by intro X; rintro _ _ ⟨rfl, rfl⟩; refine OpT.mono (op_fn Try.func35 rfl rfl rfl (traces_c 60 ((hS.app _).app _) hsh)) ?_; rintro _ _ ⟨a60, c60, rfl, rfl⟩; obtain ⟨w, rfl, rfl⟩ : ∃ w : Wt, w.a = a60 ∧ w.c = c60 := ⟨{ a := a60, c := c60 }, rfl, rfl⟩; exact ⟨w, rfl, rfl⟩),
          ⟨.p rfl (by intro X; exact op_loadA rfl tA68sn (Ent.lab (l := 4) rfl (says_cel 0)) (Nat.le_of_ble_eq_true rfl)),
          ⟨.px rfl (by intro X; rintro _ _ ⟨rfl, rfl⟩; refine OpT.mono (op_fn Try.func35 rfl rfl rfl (traces_c 62 ((hS'.app _).app _) hsh')) ?_; rintro _ _ ⟨a62, c62, rfl, rfl⟩; obtain ⟨w, rfl, rfl⟩ : ∃ w : Wt, w.a = a62 ∧ w.c = c62 := ⟨{ a := a62, c := c62 }, rfl, rfl⟩; exact ⟨w, rfl, rfl⟩),
          ⟨.px rfl (by intro X; rintro _ _ ⟨rfl, rfl⟩ _ _ ⟨rfl, rfl⟩; show OpT _ _ _ _ _ _ [(_, _), (_, _)] _; refine OpT.mono (op_appT 60 62 63 hK hK' rfl rfl) ?_; rintro _ _ ⟨a63, c63, rfl, rfl⟩; obtain ⟨w, rfl, rfl⟩ : ∃ w : Wt, w.a = a63 ∧ w.c = c63 := ⟨{ a := a63, c := c63 }, rfl, rfl⟩; exact ⟨w, rfl, rfl⟩),
          ⟨.p rfl (by intro X; exact op_loadA rfl tA48sn (Ent.lab (l := 8) rfl (says_cel 0)) (Nat.le_of_ble_eq_true rfl)),
          ⟨.p rfl (by intro X; exact op_loadA rfl tA37sn (Ent.lab (l := 7) rfl (says_cel 0)) (Nat.le_of_ble_eq_true rfl)),
          ⟨.px rfl (by intro X; rintro _ _ ⟨rfl, rfl⟩ _ _ ⟨rfl, rfl⟩ _ _ ⟨rfl, rfl⟩; show OpT _ _ _ _ _ _ [(_, _)] _; refine OpT.mono (op_fn Try.func36 rfl rfl rfl (of_go 63 66 k (x4 % 40) (kt_app hK hK') (by decide) hG)) ?_; rintro _ _ ⟨a66, c66, rfl, rfl⟩; obtain ⟨w, rfl, rfl⟩ : ∃ w : Wt, w.a = a66 ∧ w.c = c66 := ⟨{ a := a66, c := c66 }, rfl, rfl⟩; exact ⟨w, rfl, rfl⟩),
          ⟨.p rfl (by intro X; rintro _ _ ⟨rfl, rfl⟩; exact op_move rfl),
          ⟨.p rfl (by intro X; rintro _ _ ⟨rfl, rfl⟩; exact op_extract rfl rfl),
          ⟨.p rfl (by intro X; rintro _ _ ⟨rfl, rfl⟩; exact op_extract rfl rfl),
          ⟨.px rfl (by intro X; refine OpT.mono (op_alloc (l := 13) tN48sn) ?_; rintro _ _ ⟨b13, rfl, rfl⟩; obtain ⟨w, rfl⟩ : ∃ w : Wt, w.b = b13 := ⟨{ b := b13 }, rfl⟩; exact ⟨w, rfl, rfl⟩),
          ⟨.p rfl (by intro X; rintro _ _ ⟨rfl, rfl⟩ _ _ ⟨rfl, rfl⟩; show OpT _ _ _ _ _ _ [(_, _)] _; exact op_store rfl rfl tZ48sn (by rfl) (by rfl) (by exact Nat.le_of_ble_eq_true rfl)) (hu := by exact .inr fun _ _ h => h.1),
          trivial⟩⟩⟩⟩⟩⟩⟩⟩⟩⟩⟩⟩⟩)
          (fun β β' => ⟨fun _ => by rfl, ⟨fun _ => by rfl, ⟨fun _ => by rfl, ⟨fun _ => by rfl, ⟨fun h => by first | rfl | (simp only [h 1 (by decide), h 3 (by decide)]), ⟨fun _ => by rfl, ⟨fun _ => by rfl, ⟨fun h => by first | rfl | (simp only [h 1 (by decide), h 3 (by decide), h 4 (by decide)]), ⟨fun h => by first | rfl | (simp only [h 1 (by decide), h 3 (by decide), h 4 (by decide), h 7 (by decide)]), ⟨fun h => by first | rfl | (simp only [h 1 (by decide), h 3 (by decide), h 4 (by decide), h 7 (by decide)]), ⟨fun h => by first | rfl | (simp only [h 1 (by decide), h 3 (by decide), h 4 (by decide), h 7 (by decide)]), ⟨fun _ => by rfl, ⟨fun h => by first | rfl | (simp only [h 1 (by decide), h 3 (by decide), h 4 (by decide), h 7 (by decide), h 11 (by decide)]), trivial⟩⟩⟩⟩⟩⟩⟩⟩⟩⟩⟩⟩⟩) ?_
      intro β
      rintro _ _ ⟨rfl, rfl⟩ _ _ ⟨rfl, rfl⟩ _ _ ⟨rfl, rfl⟩ _ _ ⟨rfl, rfl⟩ _ _ ⟨rfl, rfl⟩ _ _ ⟨rfl, rfl⟩ _ _ ⟨rfl, rfl⟩ _ _ ⟨rfl, rfl⟩ _ _ ⟨rfl, rfl⟩ _ _ ⟨rfl, rfl⟩ _ _ ⟨rfl, rfl⟩ _ _ ⟨rfl, rfl⟩ _ _ ⟨rfl, rfl⟩
      generalize (β 1).a = a60
      generalize (β 1).c = c60
      generalize (β 3).a = a62
      generalize (β 3).c = c62
      generalize (β 4).a = a63
      generalize (β 4).c = c63
      generalize (β 7).a = a66
      generalize (β 7).c = c66
      generalize (β 11).b = b13
      refine wl_norm (e' := [(3, _), (7, _), (8, _), (9, _), (10, _), (11, _), (12, _), (13, _), (68, _)]) (.cons rfl (.cons rfl (.cons rfl (.cons rfl (.cons rfl (.cons rfl (.cons rfl (.cons rfl (.cons rfl (.nil _)))))))))) (by dsimp only [cond_false, cond_true, List.nil_append, List.cons_append]) ?_
      refine za rfl (wl_nil (st_tn (w_seq (w_region (zd rfl (op_loadA rfl tA48sn (Ent.lab (l := 9) rfl (says_cel 0)) (Nat.le_of_ble_eq_true rfl)) (zd rfl (op_loadA rfl tA48sn (Ent.lab (l := 11) rfl (says_cel 0)) (Nat.le_of_ble_eq_true rfl)) (wl_op [] rfl rfl rfl rfl (op_fn Try.func40 rfl rfl rfl (sum_any 72 k 0 k 0 (Sl.lab 47 rfl sl64) (Sl.lab 55 rfl sl64) (by rw [valsV_len]; omega) (by rw [valsV_len]; omega) (by decide) (by decide) (valsV_bd hK (by decide)) (valsV_bd hK' (by decide)))) ?_)))))))
      rintro _ _ ⟨a72, c72, rfl, rfl⟩
      refine zm rfl (zd rfl (op_extract rfl rfl) (zd rfl (op_extract rfl rfl) (wl_op [] rfl rfl rfl rfl (op_alloc (l := 15) tN48sn) ?_)))
      rintro _ _ ⟨b15, rfl, rfl⟩
      refine wl_op0 [15] rfl rfl rfl (op_store rfl rfl tZ48sn (by rfl) (by rfl) (by exact Nat.le_of_ble_eq_true rfl)) ?_
      rintro _ _ ⟨rfl, rfl⟩
      refine za rfl (wl_nil (st_tn (w_seq (w_seq (w_region (zm rfl (zd rfl (op_val (v' := .bool false) (by rfl) (op_neq rfl rfl)) ?_)))))))
      refine zm rfl (wl_wanted_det rfl rfl rfl rfl rfl rfl rfl (op_move rfl) (wl_wanted_det rfl rfl rfl rfl rfl rfl rfl (op_val (v' := .bool false) (by rfl) (op_neq rfl rfl)) ?_))
      refine zd rfl (op_pick_f rfl rfl) (zm rfl (wl_wanted_det rfl rfl rfl rfl rfl rfl rfl (op_move rfl) (wl_wanted_det rfl rfl rfl rfl rfl rfl rfl (op_val (v' := .bool false) (by rfl) (op_neq rfl rfl)) ?_)))
      refine zd rfl (op_pick_f rfl rfl) (wl_nil (st_tn (w_cond_f (rfl) ?_)))
      refine w_skip (st_tn (w_seq (w_seq (w_region (zd rfl (op_fieldAddr (off := 2) rfl tF48_2sn) (zd rfl (op_load1 rfl tO3sn (Ent.lab (l := 8) rfl (says_cel 2))) (zd rfl (op_eql rfl rfl) (wl_nil (st_tn (w_cond_d rfl (fun hc87 => ?_) (fun hc87 => ?_)))))))))))
      · -- c87.t
        have hsl := sumR_lat (K1 := tracesR S) (K2 := tracesR S') hc87
        refine w_seq (w_region (zm rfl (zd rfl (op_val (v' := .bool true) (by rw [hsl]; rfl) (op_eql rfl rfl)) ?_)))
        refine za rfl (wl_nil (st_tn (w_ret (st_tr (st_ret (vs := [_]) [] Try.results13 ⟨rfl, trivial⟩ rfl ?_)))))
        refine ⟨_, rfl, ?_⟩
        exact ⟨rfl, rfl⟩
      · -- c87.f
        have hsg := sumR_go hK hK' hc87
        refine w_skip (st_tn (w_seq ?_))
        refine w_drawW (fun β => [⟨90, [], [], [], noW (_), false, [], []⟩, ⟨91, [], [], [], noW (_), false, [], []⟩, ⟨17, [], [], [], fun w => DetW _ _, true, [], []⟩, ⟨18, [], [], [], fun w => DetW _ _, false, [], []⟩, ⟨163, [0], [2], [], noW (_), false, [], []⟩]) [] [8] [⟨90, [], [], false, [], []⟩, ⟨91, [], [], false, [], []⟩, ⟨17, [], [], true, [], []⟩, ⟨18, [], [], false, [], []⟩, ⟨163, [0], [2], false, [], []⟩] [[], [], [], [], [2]] [[], [], [], [], []] tMixsn (fun _ => by rfl) (fun _ => by rfl) (by kernel_rfl) (by kernel_rfl) (by rfl) (by rfl)
            (fun β => ⟨.p rfl (by intro X; exact op_loadA rfl tA48sn (Ent.lab (l := 8) rfl (says_cel 0)) (Nat.le_of_ble_eq_true rfl)),
            ⟨.p rfl (by intro X; exact op_loadA rfl tA48sn (Ent.lab (l := 8) rfl (says_cel 0)) (Nat.le_of_ble_eq_true rfl)),
            ⟨.px rfl (by intro X; refine OpT.mono (op_alloc (l := 17) tN48sn) ?_; rintro _ _ ⟨b17, rfl, rfl⟩; obtain ⟨w, rfl⟩ : ∃ w : Wt, w.b = b17 := ⟨{ b := b17 }, rfl⟩; exact ⟨w, rfl, rfl⟩),
            ⟨.px rfl (by intro X; refine OpT.mono (op_alloc (l := 18) tN48sn) ?_; rintro _ _ ⟨b18, rfl, rfl⟩; obtain ⟨w, rfl⟩ : ∃ w : Wt, w.b = b18 := ⟨{ b := b18 }, rfl⟩; exact ⟨w, rfl, rfl⟩),
            ⟨.p rfl (by intro X; rintro _ _ ⟨rfl, rfl⟩ _ _ ⟨rfl, rfl⟩; show OpT _ _ _ _ _ _ [(_, _)] _; exact op_store rfl rfl tZ48sn (by rfl) (by rfl) (by exact Nat.le_of_ble_eq_true rfl)) (hu := by exact .inr fun _ _ h => h.1),
            trivial⟩⟩⟩⟩⟩)
            (fun β β' => ⟨fun _ => by rfl, ⟨fun _ => by rfl, ⟨fun _ => by rfl, ⟨fun _ => by rfl, ⟨fun h => by first | rfl | (simp only [h 2 (by decide)]), trivial⟩⟩⟩⟩⟩) ?_
        intro β
        rintro _ _ ⟨rfl, rfl⟩ _ _ ⟨rfl, rfl⟩ _ _ ⟨rfl, rfl⟩ _ _ ⟨rfl, rfl⟩ _ _ ⟨rfl, rfl⟩
        generalize (β 2).b = b17
        generalize (β 3).b = b18
        refine wl_norm (e' := [(3, _), (7, _), (13, _), (15, _), (16, _), (17, _), (18, _), (91, _)]) (.cons rfl (.cons rfl (.cons rfl (.cons rfl (.cons rfl (.cons rfl (.cons rfl (.cons rfl (.nil _))))))))) (by dsimp only [cond_false, cond_true, List.nil_append, List.cons_append]) ?_
        refine wl_op0 [18] rfl rfl rfl (op_store rfl rfl tZ48sn (by rfl) (by rfl) (by exact Nat.le_of_ble_eq_true rfl)) ?_
        rintro _ _ ⟨rfl, rfl⟩
        refine wl_nil (st_tn (w_seq (w_region (zd rfl (op_fieldAddr (off := 2) rfl tF48_2sn) (wl_op0 [17] rfl rfl rfl (op_store rfl rfl tZ3sn (by rfl) (by rfl) (by exact Nat.le_of_ble_eq_true rfl)) ?_)))))
        rintro _ _ ⟨rfl, rfl⟩
        refine zd rfl (op_fieldAddr (off := 2) rfl tF48_2sn) (wl_op0 [18] rfl rfl rfl (op_store rfl rfl tZ3sn (by rfl) (by rfl) (by exact Nat.le_of_ble_eq_true rfl)) ?_)
        rintro _ _ ⟨rfl, rfl⟩
        refine wl_nil (st_tn (w_seq (w_wk 17 (cel b17 (sr (kE k) (x4 % 40) (.slice a41 (l.take 30).length c41)).cells.toList 48) rfl (fun _ h => h) ?_)))
        refine w_wk 18 (cel b18 (sr (kT k) (x4 % 40) (.slice a41 (l.take 30).length c41)).cells.toList 48) rfl (fun _ h => h) ?_
        refine w_drawW (fun β => [⟨95, [], [], [], noW (_), false, [], []⟩, ⟨96, [0], [], [], fun w => DetW _ _, true, [], []⟩, ⟨97, [], [], [], noW (_), false, [], []⟩, ⟨98, [], [], [], noW (_), false, [], []⟩, ⟨99, [2, 3], [1], [], fun w => DetW _ _, false, [], []⟩, ⟨94, [4], [], [], noW (_), false, [], []⟩, ⟨100, [5], [], [], noW (_), false, [], []⟩, ⟨101, [5], [], [], noW (_), false, [], []⟩, ⟨19, [], [], [], fun w => DetW _ _, true, [], []⟩, ⟨168, [6], [8], [], noW (_), false, [], []⟩]) [] [3, 17, 7] [⟨95, [], [], false, [], []⟩, ⟨96, [0], [], true, [], []⟩, ⟨97, [], [], false, [], []⟩, ⟨98, [], [], false, [], []⟩, ⟨99, [2, 3], [1], false, [], []⟩, ⟨94, [4], [], false, [], []⟩, ⟨100, [5], [], false, [], []⟩, ⟨101, [5], [], false, [], []⟩, ⟨19, [], [], true, [], []⟩, ⟨168, [6], [8], false, [], []⟩] [[], [], [], [], [1], [1, 4], [1, 4], [1, 4], [], [1, 4, 8]] [[], [], [], [], [], [], [], [], [], []] tMixsn (fun _ => by rfl) (fun _ => by rfl) (by kernel_rfl) (by kernel_rfl) (by rfl) (by rfl)
            (fun β => ⟨.p rfl (by intro X; exact op_loadA rfl tA68sn (Ent.lab (l := 3) rfl (says_cel 0)) (Nat.le_of_ble_eq_true rfl)),
            ⟨.px rfl (by intro X; rintro _ _ ⟨rfl, rfl⟩; refine OpT.mono (op_fn Try.func35 rfl rfl rfl (traces_c 96 ((hS.app _).app _) hsh)) ?_; rintro _ _ ⟨a96, c96, rfl, rfl⟩; obtain ⟨w, rfl, rfl⟩ : ∃ w : Wt, w.a = a96 ∧ w.c = c96 := ⟨{ a := a96, c := c96 }, rfl, rfl⟩; exact ⟨w, rfl, rfl⟩),
            ⟨.p rfl (by intro X; exact op_loadA rfl tA48sn (Ent.lab (l := 17) rfl (says_cel 0)) (Nat.le_of_ble_eq_true rfl)),
            ⟨.p rfl (by intro X; exact op_loadA rfl tA37sn (Ent.lab (l := 7) rfl (says_cel 0)) (Nat.le_of_ble_eq_true rfl)),
            ⟨.px rfl (by intro X; rintro _ _ ⟨rfl, rfl⟩ _ _ ⟨rfl, rfl⟩ _ _ ⟨rfl, rfl⟩; show OpT _ _ _ _ _ _ [(_, _)] _; refine OpT.mono (op_fn Try.func36 rfl rfl rfl (of_go 96 99 (kE k) (x4 % 40) hK (by decide) (gk_E hG hc87))) ?_; rintro _ _ ⟨a99, c99, rfl, rfl⟩; obtain ⟨w, rfl, rfl⟩ : ∃ w : Wt, w.a = a99 ∧ w.c = c99 := ⟨{ a := a99, c := c99 }, rfl, rfl⟩; exact ⟨w, rfl, rfl⟩),
            ⟨.p rfl (by intro X; rintro _ _ ⟨rfl, rfl⟩; exact op_move rfl),
            ⟨.p rfl (by intro X; rintro _ _ ⟨rfl, rfl⟩; exact op_extract rfl rfl),
            ⟨.p rfl (by intro X; rintro _ _ ⟨rfl, rfl⟩; exact op_extract rfl rfl),
            ⟨.px rfl (by intro X; refine OpT.mono (op_alloc (l := 19) tN48sn) ?_; rintro _ _ ⟨b19, rfl, rfl⟩; obtain ⟨w, rfl⟩ : ∃ w : Wt, w.b = b19 := ⟨{ b := b19 }, rfl⟩; exact ⟨w, rfl, rfl⟩),
            ⟨.p rfl (by intro X; rintro _ _ ⟨rfl, rfl⟩ _ _ ⟨rfl, rfl⟩; show OpT _ _ _ _ _ _ [(_, _)] _; exact op_store rfl rfl tZ48sn (by rfl) (by rfl) (by exact Nat.le_of_ble_eq_true rfl)) (hu := by exact .inr fun _ _ h => h.1),
            trivial⟩⟩⟩⟩⟩⟩⟩⟩⟩⟩)
            (fun β β' => ⟨fun _ => by rfl, ⟨fun _ => by rfl, ⟨fun _ => by rfl, ⟨fun _ => by rfl, ⟨fun h => by first | rfl | (simp only [h 1 (by decide)]), ⟨fun h => by first | rfl | (simp only [h 1 (by decide), h 4 (by decide)]), ⟨fun h => by first | rfl | (simp only [h 1 (by decide), h 4 (by decide)]), ⟨fun h => by first | rfl | (simp only [h 1 (by decide), h 4 (by decide)]), ⟨fun _ => by rfl, ⟨fun h => by first | rfl | (simp only [h 1 (by decide), h 4 (by decide), h 8 (by decide)]), trivial⟩⟩⟩⟩⟩⟩⟩⟩⟩⟩) ?_
        intro β
        rintro _ _ ⟨rfl, rfl⟩ _ _ ⟨rfl, rfl⟩ _ _ ⟨rfl, rfl⟩ _ _ ⟨rfl, rfl⟩ _ _ ⟨rfl, rfl⟩ _ _ ⟨rfl, rfl⟩ _ _ ⟨rfl, rfl⟩ _ _ ⟨rfl, rfl⟩ _ _ ⟨rfl, rfl⟩ _ _ ⟨rfl, rfl⟩
        generalize (β 1).a = a96
        generalize (β 1).c = c96
        generalize (β 4).a = a99
        generalize (β 4).c = c99
        generalize (β 8).b = b19
        refine wl_norm (e' := [(3, _), (7, _), (13, _), (15, _), (16, _), (18, _), (19, _), (101, _)]) (.cons rfl (.cons rfl (.cons rfl (.cons rfl (.cons rfl (.cons rfl (.cons rfl (.cons rfl (.nil _))))))))) (by dsimp only [cond_false, cond_true, List.nil_append, List.cons_append]) ?_
        refine za rfl (wl_nil (st_tn (w_seq ?_)))
        refine w_drawW (fun β => [⟨103, [], [], [], noW (_), false, [], []⟩, ⟨104, [0], [], [], fun w => DetW _ _, true, [], []⟩, ⟨105, [], [], [], noW (_), false, [], []⟩, ⟨106, [], [], [], noW (_), false, [], []⟩, ⟨107, [2, 3], [1], [], fun w => DetW _ _, false, [], []⟩, ⟨102, [4], [], [], noW (_), false, [], []⟩, ⟨108, [5], [], [], noW (_), false, [], []⟩, ⟨109, [5], [], [], noW (_), false, [], []⟩, ⟨21, [], [], [], fun w => DetW _ _, true, [], []⟩, ⟨168, [6], [8], [], noW (_), false, [], []⟩]) [] [3, 18, 7] [⟨103, [], [], false, [], []⟩, ⟨104, [0], [], true, [], []⟩, ⟨105, [], [], false, [], []⟩, ⟨106, [], [], false, [], []⟩, ⟨107, [2, 3], [1], false, [], []⟩, ⟨102, [4], [], false, [], []⟩, ⟨108, [5], [], false, [], []⟩, ⟨109, [5], [], false, [], []⟩, ⟨21, [], [], true, [], []⟩, ⟨168, [6], [8], false, [], []⟩] [[], [], [], [], [1], [1, 4], [1, 4], [1, 4], [], [1, 4, 8]] [[], [], [], [], [], [], [], [], [], []] tMixsn (fun _ => by rfl) (fun _ => by rfl) (by kernel_rfl) (by kernel_rfl) (by rfl) (by rfl)
            (fun β => ⟨.p rfl (by intro X; exact op_loadA rfl tA68sn (Ent.lab (l := 3) rfl (says_cel 0)) (Nat.le_of_ble_eq_true rfl)),
            ⟨.px rfl (by intro X; rintro _ _ ⟨rfl, rfl⟩; refine OpT.mono (op_fn Try.func35 rfl rfl rfl (traces_c 104 ((hS.app _).app _) hsh)) ?_; rintro _ _ ⟨a104, c104, rfl, rfl⟩; obtain ⟨w, rfl, rfl⟩ : ∃ w : Wt, w.a = a104 ∧ w.c = c104 := ⟨{ a := a104, c := c104 }, rfl, rfl⟩; exact ⟨w, rfl, rfl⟩),
            ⟨.p rfl (by intro X; exact op_loadA rfl tA48sn (Ent.lab (l := 18) rfl (says_cel 0)) (Nat.le_of_ble_eq_true rfl)),
            ⟨.p rfl (by intro X; exact op_loadA rfl tA37sn (Ent.lab (l := 7) rfl (says_cel 0)) (Nat.le_of_ble_eq_true rfl)),
            ⟨.px rfl (by intro X; rintro _ _ ⟨rfl, rfl⟩ _ _ ⟨rfl, rfl⟩ _ _ ⟨rfl, rfl⟩; show OpT _ _ _ _ _ _ [(_, _)] _; refine OpT.mono (op_fn Try.func36 rfl rfl rfl (of_go 104 107 (kT k) (x4 % 40) hK (by decide) (gk_T hG hc87))) ?_; rintro _ _ ⟨a107, c107, rfl, rfl⟩; obtain ⟨w, rfl, rfl⟩ : ∃ w : Wt, w.a = a107 ∧ w.c = c107 := ⟨{ a := a107, c := c107 }, rfl, rfl⟩; exact ⟨w, rfl, rfl⟩),
            ⟨.p rfl (by intro X; rintro _ _ ⟨rfl, rfl⟩; exact op_move rfl),
            ⟨.p rfl (by intro X; rintro _ _ ⟨rfl, rfl⟩; exact op_extract rfl rfl),
            ⟨.p rfl (by intro X; rintro _ _ ⟨rfl, rfl⟩; exact op_extract rfl rfl),
            ⟨.px rfl (by intro X; refine OpT.mono (op_alloc (l := 21) tN48sn) ?_; rintro _ _ ⟨b21, rfl, rfl⟩; obtain ⟨w, rfl⟩ : ∃ w : Wt, w.b = b21 := ⟨{ b := b21 }, rfl⟩; exact ⟨w, rfl, rfl⟩),
            ⟨.p rfl (by intro X; rintro _ _ ⟨rfl, rfl⟩ _ _ ⟨rfl, rfl⟩; show OpT _ _ _ _ _ _ [(_, _)] _; exact op_store rfl rfl tZ48sn (by rfl) (by rfl) (by exact Nat.le_of_ble_eq_true rfl)) (hu := by exact .inr fun _ _ h => h.1),
            trivial⟩⟩⟩⟩⟩⟩⟩⟩⟩⟩)
            (fun β β' => ⟨fun _ => by rfl, ⟨fun _ => by rfl, ⟨fun _ => by rfl, ⟨fun _ => by rfl, ⟨fun h => by first | rfl | (simp only [h 1 (by decide)]), ⟨fun h => by first | rfl | (simp only [h 1 (by decide), h 4 (by decide)]), ⟨fun h => by first | rfl | (simp only [h 1 (by decide), h 4 (by decide)]), ⟨fun h => by first | rfl | (simp only [h 1 (by decide), h 4 (by decide)]), ⟨fun _ => by rfl, ⟨fun h => by first | rfl | (simp only [h 1 (by decide), h 4 (by decide), h 8 (by decide)]), trivial⟩⟩⟩⟩⟩⟩⟩⟩⟩⟩) ?_
        intro β
        rintro _ _ ⟨rfl, rfl⟩ _ _ ⟨rfl, rfl⟩ _ _ ⟨rfl, rfl⟩ _ _ ⟨rfl, rfl⟩ _ _ ⟨rfl, rfl⟩ _ _ ⟨rfl, rfl⟩ _ _ ⟨rfl, rfl⟩ _ _ ⟨rfl, rfl⟩ _ _ ⟨rfl, rfl⟩ _ _ ⟨rfl, rfl⟩
        generalize (β 1).a = a104
        generalize (β 1).c = c104
        generalize (β 4).a = a107
        generalize (β 4).c = c107
        generalize (β 8).b = b21
        refine wl_norm (e' := [(13, _), (15, _), (16, _), (19, _), (20, _), (21, _), (109, _)]) (.cons rfl (.cons rfl (.cons rfl (.cons rfl (.cons rfl (.cons rfl (.cons rfl (.nil _)))))))) (by dsimp only [cond_false, cond_true, List.nil_append, List.cons_append]) ?_
        refine za rfl (wl_nil (st_tn (w_seq (w_region (zd rfl (op_loadA rfl tA48sn (Ent.lab (l := 19) rfl (says_cel 0)) (Nat.le_of_ble_eq_true rfl)) (zd rfl (op_loadA rfl tA48sn (Ent.lab (l := 21) rfl (says_cel 0)) (Nat.le_of_ble_eq_true rfl)) (wl_op [] rfl rfl rfl rfl (op_fn Try.func21 rfl rfl rfl (rates_fn 113 hK (by decide) (Sl.lab 99 rfl sl64) (Sl.lab 107 rfl sl64))) ?_)))))))
        rintro _ _ ⟨a113, c113, rfl, rfl⟩
        refine zm rfl (zd rfl (op_extract rfl rfl) (zd rfl (op_extract rfl rfl) (za rfl (za rfl (wl_nil (st_tn (w_seq (w_seq (w_region (zm rfl (zd rfl (op_val (v' := .bool false) (by rw [hsg]; rfl) (op_neq rfl rfl)) ?_)))))))))))
        refine zm rfl (wl_wanted_det rfl rfl rfl rfl rfl rfl rfl (op_move rfl) (wl_wanted_det rfl rfl rfl rfl rfl rfl rfl (op_val (v' := .bool false) (by rfl) (op_neq rfl rfl)) ?_))
        refine zd rfl (op_pick_f rfl rfl) (zm rfl (wl_wanted_det rfl rfl rfl rfl rfl rfl rfl (op_move rfl) (wl_wanted_det rfl rfl rfl rfl rfl rfl rfl (op_val (v' := .bool false) (by rfl) (op_neq rfl rfl)) ?_)))
        refine zd rfl (op_pick_f rfl rfl) (zm rfl (wl_wanted_det rfl rfl rfl rfl rfl rfl rfl (op_move rfl) (wl_wanted_det rfl rfl rfl rfl rfl rfl rfl (op_val (v' := .bool false) (by rfl) (op_neq rfl rfl)) ?_)))
        refine zd rfl (op_pick_f rfl rfl) (zm rfl (wl_wanted_det rfl rfl rfl rfl rfl rfl rfl (op_loadA rfl tA48sn (Ent.lab (l := 13) rfl (says_cel 0)) (Nat.le_of_ble_eq_true rfl)) (wl_wanted_det rfl rfl rfl rfl rfl rfl rfl (op_loadA rfl tA48sn (Ent.lab (l := 15) rfl (says_cel 0)) (Nat.le_of_ble_eq_true rfl)) (wl_wanted_det rfl rfl rfl rfl rfl rfl rfl (op_fn Try.func27 rfl rfl rfl (sames_go hsg (Sl.lab 66 rfl sl64) (Sl.lab 72 rfl (by rw [hsg]; exact sl64)))) ?_))))
        refine wl_wanted_det rfl rfl rfl rfl rfl rfl rfl (op_not_t rfl) (zd rfl (op_pick_f rfl rfl) (zm rfl (wl_wanted_det rfl rfl rfl rfl rfl rfl rfl (op_move rfl) (wl_wanted_det rfl rfl rfl rfl rfl rfl rfl (op_lenT rfl tS25sn (Sl.ent (Sl.lab 113 rfl (by rw [rateL_len]; unfold maxLen; omega)))) ?_))))
        refine wl_wanted_det rfl rfl rfl rfl rfl rfl rfl (op_val (v' := .bool false) (by rw [rateL_len]; rfl) (op_neq rfl rfl)) ?_
        refine zd rfl (op_pick_f rfl rfl) (wl_nil (st_tn (w_cond_f (rfl) ?_)))
        refine w_skip (st_tn (w_seq (w_seq ?_)))
        have hrb := rateL_bd (k := k) hK
        have hrl := rateL_len k (tracesR S)
        refine w_region (za rfl (wl_nil (st_tn (w_block ?_))))
        refine w_loopQ (X := Nat) (fun z => z ≤ 64) (fun z => [(25, .int .i64 (z))]) (fun _ => []) (fun z => 64 - z) (0) [(23, _)] [(113, _)] [113] rfl (rfl) (.cons rfl (.nil _)) (.cons rfl (.nil _)) (by
            try dsimp only
            exact Nat.zero_le _) ?_
        rintro i hi
        refine w_norm2 (by dsimp only [List.cons_append, List.nil_append]) (by dsimp only [List.cons_append, List.nil_append]) ?_
        try dsimp only at hi ⊢
        refine w_seq (w_seq (w_region (zm rfl (zm rfl (zd rfl (op_lenT rfl tS25sn (Sl.ent (Sl.lab 113 rfl (by rw [rateL_len]; unfold maxLen; omega)))) ?_)))))
        refine zd rfl (op_lss rfl rfl) (wl_nil (st_tn (w_cond_d rfl (fun hc144 => ?_) (fun hc144 => ?_))))
        · -- c144.t
          obtain ⟨x, hx⟩ := getE (l := rateL k (tracesR S)) (i := i) (by omega)
          have hxb := hrb x (List.mem_of_getElem? hx)
          have hil : i < (rateL k (tracesR S)).length := by omega
          refine w_skip (st_tn (w_seq (w_block (w_seq (w_region (zm rfl (zm rfl (zd rfl (op_idx rfl rfl tS25sn (Sl.ent (Sl.lab 113 rfl (by rw [rateL_len]; unfold maxLen; omega))) (by omega)) ?_))))))))
          refine zd rfl (op_ldx rfl tO3sn (Sl.lab 113 rfl (by rw [rateL_len]; unfold maxLen; omega)) (by assumption) (by rfl)) ?_
          refine zd rfl (op_val (v' := .bool false) (by rw [decide_eq_false (by omega)]) (op_lss rfl rfl)) ?_
          refine zm rfl (wl_wanted_det rfl rfl rfl rfl rfl rfl rfl (op_move rfl) (wl_wanted_det rfl rfl rfl rfl rfl rfl rfl (op_move rfl) (wl_wanted_det rfl rfl rfl rfl rfl rfl rfl (op_idx rfl rfl tS25sn (Sl.ent (Sl.lab 113 rfl (by rw [rateL_len]; unfold maxLen; omega))) (by omega)) ?_)))
          refine wl_wanted_det rfl rfl rfl rfl rfl rfl rfl (op_ldx rfl tO3sn (Sl.lab 113 rfl (by rw [rateL_len]; unfold maxLen; omega)) (by assumption) (by rfl)) ?_
          refine wl_wanted_det rfl rfl rfl rfl rfl rfl rfl (op_val (v' := .bool false) (by rw [decide_eq_false (by omega)]) (op_gtr rfl rfl)) ?_
          refine zd rfl (op_pick_f rfl rfl) (wl_nil (st_tn (w_cond_f (rfl) ?_)))
          refine w_skip (st_bn (st_tn (w_region (zm rfl (zd rfl (op_add' rfl rfl (by omega)) ?_)))))
          refine za rfl (wl_nil ?_)
          refine st_roundQ (x := i) (i + 1) [113] rfl (rfl) (.cons rfl (.nil _)) (.cons rfl (.nil _)) (by
              try dsimp only
              omega) (by
              try dsimp only
              omega)
        · -- c144.f
          refine w_exit (st_te ?_)
          refine st_te ?_
          refine st_be (st_tn (w_seq (w_region (za rfl (wl_nil (st_tn (w_ret (st_ret (vs := [_]) [] Try.results13 ⟨rfl, trivial⟩ rfl ?_))))))))
          refine ⟨_, rfl, ?_⟩
          exact ⟨rfl, rfl⟩
end Go.Proofs.Ytbgddblfalahfaa
