/- Contracts of the encoding's writer, for numbers that are not negative. Conditions: none. -/
import Derived.Test.YtkknlfhncheflaaB13
import Derived.Test.YtkknlfhncheflaaSlA
namespace Go.Proofs.Ytkknlfhncheflaa
open Go Go.SL Go.RowKit Go.BitM
set_option linter.unusedVariables false
set_option linter.unusedSimpArgs false
theorem tF97_0n : fieldB Try.prog 97 0 0 = true := by kernel_rfl
theorem tL95_1n : zerosB Try.prog 95 5 1 1 = some [Value.int .u8 0] := by kernel_rfl
theorem tMixn : Try.prog.follows .mixedOrders = true := by kernel_rfl
theorem tO95n : oneB Try.prog 95 = true := by kernel_rfl
theorem tP95n : appB Try.prog 95 5 1 1 = true := by kernel_rfl
theorem tZ95n : (Try.prog.info? 95).map (·.size) = some 1 := by kernel_rfl

/-- How many bytes a number takes. -/
def nb (x : Nat) : Nat := if h : x = 0 then 0 else nb (x / 256) + 1
termination_by x
decreasing_by omega
theorem nb_pos {x : Nat} (h : 0 < x) : nb x = nb (x / 256) + 1 := by rw [nb, dif_neg (by omega)]
theorem nb_zero : nb 0 = 0 := by rw [nb, dif_pos rfl]
theorem nb_le : ∀ (k x : Nat), x < 256 ^ k → nb x ≤ k
  | 0, x, h => by
    have : x = 0 := by simpa using h
    subst this; rw [nb_zero]; omega
  | k + 1, x, h => by
    rcases Nat.eq_zero_or_pos x with h0 | h0
    · subst h0; rw [nb_zero]; omega
    · rw [nb_pos h0]
      have := nb_le k (x / 256) (by rw [Nat.pow_succ] at h; omega)
      omega
def byteAt (x j : Int) : UInt8 := UInt8.ofNat (x / 2 ^ (8 * j).toNat).toNat
def tops (x : Int) (k j : Nat) : List UInt8 := (List.range j).map fun i : Nat => byteAt x ((k : Int) - 1 - (i : Int))
theorem tops_succ (x : Int) (k j : Nat) : tops x k (j + 1) = tops x k j ++ [byteAt x ((k : Int) - 1 - (j : Int))] := by unfold tops; rw [List.range_succ, List.map_append]; rfl
theorem length_tops (x : Int) (k j : Nat) : (tops x k j).length = j := by unfold tops; simp
theorem u8_lt (b : UInt8) : (b.toNat : Int) < 256 := by have := b.toNat_lt; omega
/-- The form of a number that is not negative. -/
def encN (x : Int) : List UInt8 := UInt8.ofNat (128 + (nb x.toNat : Int)).toNat :: tops x (nb x.toNat) (nb x.toNat)
theorem length_encN (x : Int) : (encN x).length = nb x.toNat + 1 := by unfold encN; simp [length_tops]
set_option maxHeartbeats 400000 in
set_option maxRecDepth 100000 in
theorem magn_any {σ : World} {F : List Res} (x : Int) (h : 0 ≤ x ∧ x ≤ 9223372036854775807) : FnT Try.prog σ F 83 [.int .i64 x] [] (fun u ρ => u = .int .u64 x ∧ ρ = []) := by
  refine fn_of 10 Try.func83 rfl Try.ntmps83 rfl ?_
  refine w_seq ?_
  refine w_region ?_
  refine wl_det rfl rfl rfl (op_assign rfl) ?_
  refine wl_nil ?_
  refine st_tn ?_
  refine w_seq ?_
  refine w_seq ?_
  refine w_region ?_
  refine wl_det rfl rfl rfl (op_move rfl) ?_
  refine wl_det rfl rfl rfl (op_lss rfl rfl) ?_
  refine wl_nil ?_
  refine st_tn ?_
  refine w_cond_d rfl (fun hc4 => ?_) (fun hc4 => ?_)
  · -- c4.t
    exfalso; omega
  · -- c4.f
    refine w_skip ?_
    refine st_tn ?_
    refine w_seq ?_
    refine w_region ?_
    refine wl_det rfl rfl rfl (op_move rfl) ?_
    refine wl_det rfl rfl rfl (op_convU64 rfl (by rw [Try.underlying3]; rfl) Try.underlying116 (by omega)) ?_
    refine wl_det rfl rfl rfl (op_assign rfl) ?_
    refine wl_nil ?_
    refine st_tn ?_
    refine w_ret ?_
    refine st_ret (vs := [_]) [] Try.results83 ⟨rfl, trivial⟩ rfl ?_
    refine ⟨_, rfl, ?_⟩
    exact ⟨rfl, rfl⟩

-- CALL sleuth/encoding.magnitude magn_any _ (by omega)
set_option maxHeartbeats 1000000 in
set_option maxRecDepth 100000 in
theorem wnum_any {σ : World} {F : List Res} {b : Nat} {a : Option Addr} {c : Nat} {l : List UInt8} (x : Int) (hx : 0 ≤ x ∧ x ≤ 9223372036854775807) (hl : l.length ≤ 1099511627776) :
    FnT Try.prog σ F 70 [.pointer (some ⟨b, 0, none⟩), .int .i64 x] [(100, cel b [.slice a l.length c] 97), (101, slW 5 encU 1 (.slice a l.length c) l)]
      (fun u ρ => ∃ a' c', u = .tuple #[] ∧ ρ = [(100, cel b [.slice a' (l ++ encN x).length c'] 97), (101, slW 5 encU 1 (.slice a' (l ++ encN x).length c') (l ++ encN x))]) := by
  refine fn_of 68 Try.func70 rfl Try.ntmps70 rfl ?_
  obtain ⟨m, rfl⟩ := Int.eq_ofNat_of_zero_le hx.1
  have hk : nb m ≤ 8 := nb_le 8 m (by have := hx.2; omega)
  refine w_seq ?_
  refine w_seq ?_
  refine w_region ?_
  refine wl_det rfl rfl rfl (op_move rfl) ?_
  refine wl_det rfl rfl rfl (op_eqPtr rfl Try.underlying115) ?_
  refine wl_nil ?_
  refine st_tn ?_
  refine w_cond_f (rfl) ?_
  refine w_skip ?_
  refine st_tn ?_
  refine w_seq ?_
  refine w_region ?_
  refine wl_det rfl rfl rfl (op_move rfl) ?_
  refine wl_det rfl rfl rfl (op_fn Try.func83 rfl rfl rfl (magn_any _ (by omega))) ?_
  refine wl_det rfl rfl rfl (op_assign rfl) ?_
  refine wl_det rfl rfl rfl (op_assign rfl) ?_
  refine wl_nil ?_
  refine st_tn ?_
  refine w_seq ?_
  refine w_seq ?_
  refine w_region ?_
  refine wl_det rfl rfl rfl (op_move rfl) ?_
  refine wl_det rfl rfl rfl (op_assign rfl) ?_
  refine wl_nil ?_
  refine st_tn ?_
  refine w_block ?_
  refine w_loopK (X := Nat × Nat) (fun z => z.1 + nb z.2 = nb m ∧ z.2 ≤ m) (fun z => [(5, .int .i64 z.1), (6, .int .u64 z.2)]) (fun _ => []) (fun z => z.2) ((0, m)) [(0, _), (1, _), (4, _)] [(100, _), (101, _)] (⟨Nat.zero_add _, Nat.le_refl _⟩) (.cons rfl (.cons rfl (.nil _))) (.cons rfl (.cons rfl (.cons rfl (.nil _)))) [100, 101] rfl (rfl) ?_
  rintro ⟨i, y⟩ ⟨hi, hy⟩
  refine w_norm2 (by dsimp only [List.cons_append, List.nil_append]) (by dsimp only [List.cons_append, List.nil_append]) ?_
  dsimp only at hi hy
  refine w_seq ?_
  refine w_seq ?_
  refine w_region ?_
  refine wl_det rfl rfl rfl (op_move rfl) ?_
  refine wl_det rfl rfl rfl (op_gtr rfl rfl) ?_
  refine wl_nil ?_
  refine st_tn ?_
  refine w_cond_d rfl (fun hc15 => ?_) (fun hc15 => ?_)
  · -- c15.t
    refine w_skip ?_
    refine st_tn ?_
    refine w_seq ?_
    refine w_block ?_
    refine w_region ?_
    refine wl_det rfl rfl rfl (op_move rfl) ?_
    refine wl_det rfl rfl rfl (op_add' rfl rfl (by omega)) ?_
    refine wl_det rfl rfl rfl (op_assign rfl) ?_
    refine wl_nil ?_
    refine st_bn ?_
    refine st_tn ?_
    refine w_region ?_
    refine wl_det rfl rfl rfl (op_move rfl) ?_
    refine wl_det rfl rfl rfl (op_shrN rfl rfl (by omega) (by omega)) ?_
    refine wl_det rfl rfl rfl (op_assign rfl) ?_
    refine wl_nil ?_
    refine st_roundK (x := (i, y)) ((i + 1, y / 256)) [100, 101] (by have := nb_pos (x := y) (by omega); exact ⟨by show i + 1 + nb (y / 256) = nb m; omega, by show y / 256 ≤ m; omega⟩) (by show y / 256 < y; omega) (.cons rfl (.cons (by show some (Value.int .u64 ((y : Int) / 2 ^ (8 : Int).toNat)) = some (Value.int .u64 ((y / 256 : Nat) : Int)); congr 2) (.nil _))) (.cons rfl (.cons rfl (.cons rfl (.nil _)))) rfl (rfl) 
  · -- c15.f
    refine w_exit ?_
    refine st_te ?_
    refine st_te ?_
    refine st_be ?_
    refine st_tn ?_
    refine w_seq ?_
    have hyz : y = 0 := by omega
    have hin : i = nb m := by rw [hyz, nb_zero] at hi; omega
    refine w_region ?_
    refine wl_det rfl rfl rfl (op_assign rfl) ?_
    refine wl_nil ?_
    refine st_tn ?_
    refine w_seq ?_
    refine w_seq ?_
    refine w_region ?_
    refine wl_det rfl rfl rfl (op_move rfl) ?_
    refine wl_det rfl rfl rfl (op_lss rfl rfl) ?_
    refine wl_nil ?_
    refine st_tn ?_
    refine w_cond_d rfl (fun hc21 => ?_) (fun hc21 => ?_)
    · -- c21.t
      exfalso; omega
    · -- c21.f
      refine w_region ?_
      refine wl_det rfl rfl rfl (op_move rfl) ?_
      refine wl_det rfl rfl rfl (op_move rfl) ?_
      refine wl_det rfl rfl rfl (op_nilCheck rfl) ?_
      refine wl_det rfl rfl rfl (op_fieldAddr (off := 0) rfl tF97_0n) ?_
      refine wl_det rfl rfl rfl (op_load1 rfl tO95n (Ent.lab (l := 100) rfl (says_cel 0))) ?_
      refine wl_det rfl rfl rfl (op_move rfl) ?_
      refine wl_det rfl rfl rfl (op_add' rfl rfl (by omega)) ?_
      refine wl_det rfl rfl rfl (op_convU rfl (by rw [Try.underlying3]; rfl) Try.underlying5 (by omega)) ?_
      refine wl_op [] rfl rfl rfl rfl (op_buildSlice (enc := encU) (l := [_]) (lab := 42) tL95_1n rfl rfl (fun _ => rfl) rfl) ?_
      rintro _ _ ⟨a42, c42, rfl, rfl⟩
      refine wl_op [101] rfl rfl rfl rfl (op_append (lab := 101) (lab' := 43) rfl rfl tP95n enc1U (Sl.lab 42 rfl (by simp [maxLen])) (by first | omega | (simp; omega) | (simp [length_tops]; omega)) (by first | omega | (simp; omega) | (simp [length_tops]; omega))) ?_
      rintro _ _ ⟨a43, c43, rfl, rfl⟩
      refine wl_det rfl rfl rfl (op_nilCheck rfl) ?_
      refine wl_det rfl rfl rfl (op_fieldAddr (off := 0) rfl tF97_0n) ?_
      refine wl_op0 [100] rfl rfl rfl (op_store rfl rfl tZ95n (by rfl) (by rfl) (by exact Nat.le_of_ble_eq_true rfl)) ?_
      rintro _ _ ⟨rfl, rfl⟩
      refine wl_nil ?_
      refine st_tn ?_
      refine w_seq ?_
      refine w_region ?_
      refine wl_det rfl rfl rfl (op_move rfl) ?_
      refine wl_det rfl rfl rfl (op_sub' rfl rfl (by omega)) ?_
      refine wl_det rfl rfl rfl (op_assign rfl) ?_
      refine wl_nil ?_
      refine st_tn ?_
      refine w_block ?_
      refine w_loopK (X := Nat × Option Addr × Nat) (fun z => z.1 ≤ nb m) (fun z => [(8, .int .i64 ((nb m : Int) - 1 - z.1))]) (fun z => [(100, cel b [.slice z.2.1 (l ++ [UInt8.ofNat (128 + (nb m : Int)).toNat] ++ tops m (nb m) z.1).length z.2.2] 97), (101, slW 5 encU 1 (.slice z.2.1 (l ++ [UInt8.ofNat (128 + (nb m : Int)).toNat] ++ tops m (nb m) z.1).length z.2.2) (l ++ [UInt8.ofNat (128 + (nb m : Int)).toNat] ++ tops m (nb m) z.1))]) (fun z => nb m - z.1) ((0, a43, c43)) [(0, _), (4, _), (7, _)] [] (Nat.zero_le _) (.cons (by rw [← hin]; show some (Value.int .i64 ((i : Int) - 1)) = _; rw [show ((i : Int) - 1 - (0 : Nat)) = (i : Int) - 1 by omega]) (.nil _)) (.cons rfl (.cons rfl (.cons rfl (.nil _)))) [100, 43] rfl (by rw [← hin, show tops m i 0 = [] from rfl]; simp only [List.append_nil]; rfl) ?_
      rintro ⟨j, a2, c2⟩ hj
      refine w_norm2 (by dsimp only [List.cons_append, List.nil_append]) (by dsimp only [List.cons_append, List.nil_append]) ?_
      dsimp only at hj
      refine w_seq ?_
      refine w_seq ?_
      refine w_region ?_
      refine wl_det rfl rfl rfl (op_move rfl) ?_
      refine wl_det rfl rfl rfl (op_geq rfl rfl) ?_
      refine wl_nil ?_
      refine st_tn ?_
      refine w_cond_d rfl (fun hc49 => ?_) (fun hc49 => ?_)
      · -- c49.t
        refine w_skip ?_
        refine st_tn ?_
        refine w_seq ?_
        refine w_block ?_
        refine w_draw (D := [⟨52, [], [], [], _, false, [], []⟩, ⟨53, [], [], [], _, false, [], []⟩, ⟨54, [1], [], [], _, false, [], []⟩, ⟨55, [2], [], [], _, false, [], []⟩, ⟨56, [3], [], [], _, false, [], []⟩, ⟨57, [], [], [], _, false, [], []⟩, ⟨58, [], [], [], _, false, [], []⟩, ⟨59, [6], [], [], _, false, [], []⟩, ⟨60, [5, 7], [], [], _, false, [], []⟩, ⟨61, [8], [], [], _, false, [], []⟩, ⟨62, [], [], [], _, false, [], []⟩, ⟨63, [9, 10], [], [], _, false, [], []⟩, ⟨64, [11], [], [], _, false, [], []⟩, ⟨65, [4, 12], [], [(101, _)], _, false, [], []⟩]) [101] [0, 4, 8, 7] [⟨52, [], [], false, [], []⟩, ⟨53, [], [], false, [], []⟩, ⟨54, [1], [], false, [], []⟩, ⟨55, [2], [], false, [], []⟩, ⟨56, [3], [], false, [], []⟩, ⟨57, [], [], false, [], []⟩, ⟨58, [], [], false, [], []⟩, ⟨59, [6], [], false, [], []⟩, ⟨60, [5, 7], [], false, [], []⟩, ⟨61, [8], [], false, [], []⟩, ⟨62, [], [], false, [], []⟩, ⟨63, [9, 10], [], false, [], []⟩, ⟨64, [11], [], false, [], []⟩, ⟨65, [4, 12], [], false, [], []⟩] tMixn (by rfl) (by kernel_rfl) (by rfl) (by rfl)
            ⟨.plain rfl (by intro X; exact op_move rfl),
            ⟨.plain rfl (by intro X; exact op_move rfl),
            ⟨.plain rfl (by intro X; rintro _ _ ⟨rfl, rfl⟩; exact op_nilCheck rfl),
            ⟨.plain rfl (by intro X; rintro _ _ ⟨rfl, rfl⟩; exact op_fieldAddr (off := 0) rfl tF97_0n),
            ⟨.plain rfl (by intro X; rintro _ _ ⟨rfl, rfl⟩; exact op_load1 rfl tO95n (Ent.lab (l := 100) rfl (says_cel 0))),
            ⟨.plain rfl (by intro X; exact op_move rfl),
            ⟨.plain rfl (by intro X; exact op_move rfl),
            ⟨.plain rfl (by intro X; rintro _ _ ⟨rfl, rfl⟩; exact op_mul' rfl rfl (by omega)),
            ⟨.plain rfl (by intro X; rintro _ _ ⟨rfl, rfl⟩ _ _ ⟨rfl, rfl⟩; exact op_shrN rfl rfl (by omega) (by omega)),
            ⟨.plain rfl (by intro X; rintro _ _ ⟨rfl, rfl⟩; exact op_convU rfl (by rw [Try.underlying116]; rfl) Try.underlying5 (Int.ediv_nonneg (by omega) (by exact Int.pow_nonneg (by omega)))),
            ⟨.plain rfl (by intro X; exact op_move rfl),
            ⟨.plain rfl (by intro X; rintro _ _ ⟨rfl, rfl⟩ _ _ ⟨rfl, rfl⟩; exact op_xor8 rfl rfl ⟨Int.natCast_nonneg _, u8_lt _⟩),
            ⟨.plain rfl (by intro X; rintro _ _ ⟨rfl, rfl⟩; exact op_buildSlice (enc := encU) (l := [_]) (lab := 64) tL95_1n rfl rfl (fun _ => rfl) rfl),
            ⟨.plain rfl (by intro X; rintro _ _ ⟨rfl, rfl⟩ _ _ ⟨a64, c64, rfl, rfl⟩; exact op_append (lab := 101) (lab' := 65) rfl rfl tP95n enc1U (Sl.lab 64 rfl (by simp [maxLen])) (by first | omega | (simp; omega) | (simp [length_tops]; omega)) (by first | omega | (simp; omega) | (simp [length_tops]; omega))),
            trivial⟩⟩⟩⟩⟩⟩⟩⟩⟩⟩⟩⟩⟩⟩ ?_
        rintro _ _ ⟨rfl, rfl⟩ _ _ ⟨rfl, rfl⟩ _ _ ⟨rfl, rfl⟩ _ _ ⟨rfl, rfl⟩ _ _ ⟨rfl, rfl⟩ _ _ ⟨rfl, rfl⟩ _ _ ⟨rfl, rfl⟩ _ _ ⟨rfl, rfl⟩ _ _ ⟨rfl, rfl⟩ _ _ ⟨rfl, rfl⟩ _ _ ⟨rfl, rfl⟩ _ _ ⟨rfl, rfl⟩ _ _ ⟨a64, c64, rfl, rfl⟩ _ _ ⟨a65, c65, rfl, rfl⟩
        refine wl_norm (e' := [(0, _), (4, _), (7, _), (8, _), (52, _), (65, _)]) (.cons rfl (.cons rfl (.cons rfl (.cons rfl (.cons rfl (.cons rfl (.nil _))))))) (by dsimp only [cond_false, cond_true, List.nil_append, List.cons_append]) ?_
        refine wl_det rfl rfl rfl (op_nilCheck rfl) ?_
        refine wl_det rfl rfl rfl (op_fieldAddr (off := 0) rfl tF97_0n) ?_
        refine wl_op0 [100] rfl rfl rfl (op_store rfl rfl tZ95n (by rfl) (by rfl) (by exact Nat.le_of_ble_eq_true rfl)) ?_
        rintro _ _ ⟨rfl, rfl⟩
        refine wl_nil ?_
        refine st_bn ?_
        refine st_tn ?_
        refine w_region ?_
        refine wl_det rfl rfl rfl (op_move rfl) ?_
        refine wl_det rfl rfl rfl (op_sub' rfl rfl (by omega)) ?_
        refine wl_det rfl rfl rfl (op_assign rfl) ?_
        refine wl_nil ?_
        refine st_roundK (x := (j, a2, c2)) ((j + 1, a65, c65)) [100, 65] (by show j + 1 ≤ nb m; omega) (by show nb m - (j + 1) < nb m - j; omega) (.cons (by show some (Value.int .i64 ((nb m : Int) - 1 - (j : Int) - 1)) = some (Value.int .i64 ((nb m : Int) - 1 - ((j + 1 : Nat) : Int))); congr 2; omega) (.nil _)) (.cons rfl (.cons rfl (.cons rfl (.nil _)))) rfl (by show rs [_, _] = rs [_, _]; rw [tops_succ, ← List.append_assoc]; rfl) 
      · -- c49.f
        refine w_exit ?_
        refine st_te ?_
        refine st_te ?_
        refine st_be ?_
        refine st_end (vs := []) [100, 101] Try.results70 trivial rfl ?_
        refine ⟨[(100, _), (101, _)], rfl, ?_⟩
        have hjk : j = nb m := by omega
        have hfin : l ++ encN m = l ++ [UInt8.ofNat (128 + (nb m : Int)).toNat] ++ tops m (nb m) j := by rw [hjk]; unfold encN; simp
        refine ⟨a2, c2, rfl, ?_⟩; rw [hfin]

end Go.Proofs.Ytkknlfhncheflaa
