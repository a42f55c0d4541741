/- Contracts: Decode (layer 6). Conditions: none. -/
import Derived.Test.YtbpihhaiechnbaaD8
import Derived.Test.YtbpihhaiechnbaaM3
import Derived.Test.YtbpihhaiechnbaaSlW
namespace Go.Proofs.Ytbpihhaiechnbaa
open Go Go.SL Go.RowKit Go.DicM
set_option linter.unusedVariables false
set_option linter.unusedSimpArgs false
theorem tL22_1i : zerosB Try.prog 22 9 1 1 = some [Value.string .empty] := by kernel_rfl
theorem tMixi : Try.prog.follows .mixedOrders = true := by kernel_rfl
theorem tO9i : oneB Try.prog 9 = true := by kernel_rfl
theorem tP22i : appB Try.prog 22 9 1 16 = true := by kernel_rfl
theorem tS22i : sliceB Try.prog 22 9 1 = true := by kernel_rfl

/-- The string before. -/
def lastOf (out : List Bs) (i : Nat) : Bs := if 0 < i then out.getD (i - 1) [] else []
theorem lastOf_snoc {out : List Bs} {x : Bs} {i : Nat} (h : out.length = i) : lastOf (out ++ [x]) (i + 1) = x := by
  unfold lastOf; rw [if_pos (by omega), List.getD_eq_getElem?_getD, List.getElem?_append_right (by omega)]
  rw [show i + 1 - 1 - out.length = 0 by omega]; rfl
theorem dstep_g {i : Nat} {prev r : Bs} {b : UInt8} (h : i % 16 ≠ 0) : dStep i prev (b :: r) = dBody i b.toNat prev r := by unfold dStep; rw [if_pos h]
theorem dstep_n {i : Nat} {prev : Bs} (h : i % 16 ≠ 0) : dStep i prev [] = .error 4 := by unfold dStep; rw [if_pos h]
theorem dstep_0 {i : Nat} {prev s : Bs} (h : ¬ i % 16 ≠ 0) : dStep i prev s = dBody i 0 prev s := by unfold dStep; rw [if_neg h]
theorem dbody_1 {i has : Nat} {prev r : Bs} {b : UInt8} (h : r.length < b.toNat) : dBody i has prev (b :: r) = .error 4 := by unfold dBody; simp only; rw [if_pos h]
theorem dbody_2 {i has : Nat} {prev r : Bs} {b : UInt8} (h : ¬ r.length < b.toNat) (h2 : prev.length < has) : dBody i has prev (b :: r) = .error 3 := by unfold dBody; simp only; rw [if_neg h, if_pos h2]
theorem dbody_3 {i has : Nat} {prev r : Bs} {b : UInt8} (h : ¬ r.length < b.toNat) (h2 : ¬ prev.length < has) (h3 : 255 < (prev.take has ++ r.take b.toNat).length) : dBody i has prev (b :: r) = .error 5 := by unfold dBody; simp only; rw [if_neg h, if_neg h2, if_pos h3]
theorem dbody_4 {i has : Nat} {prev r : Bs} {b : UInt8} (h : ¬ r.length < b.toNat) (h2 : ¬ prev.length < has) (h3 : ¬ 255 < (prev.take has ++ r.take b.toNat).length) (h4 : 0 < i ∧ prev.take has ++ r.take b.toNat ≤ prev) : dBody i has prev (b :: r) = .error 8 := by unfold dBody; simp only; rw [if_neg h, if_neg h2, if_neg h3, if_pos h4]
theorem dbody_5 {i has : Nat} {prev r : Bs} {b : UInt8} (h : ¬ r.length < b.toNat) (h2 : ¬ prev.length < has) (h3 : ¬ 255 < (prev.take has ++ r.take b.toNat).length) (h4 : ¬ (0 < i ∧ prev.take has ++ r.take b.toNat ≤ prev)) (h5 : i % 16 ≠ 0 ∧ common prev (prev.take has ++ r.take b.toNat) ≠ has) : dBody i has prev (b :: r) = .error 3 := by unfold dBody; simp only; rw [if_neg h, if_neg h2, if_neg h3, if_neg h4, if_pos h5]
theorem dbody_6 {i has : Nat} {prev r : Bs} {b : UInt8} (h : ¬ r.length < b.toNat) (h2 : ¬ prev.length < has) (h3 : ¬ 255 < (prev.take has ++ r.take b.toNat).length) (h4 : ¬ (0 < i ∧ prev.take has ++ r.take b.toNat ≤ prev)) (h5 : ¬ (i % 16 ≠ 0 ∧ common prev (prev.take has ++ r.take b.toNat) ≠ has)) : dBody i has prev (b :: r) = .ok (prev.take has ++ r.take b.toNat, r.drop b.toNat) := by unfold dBody; simp only; rw [if_neg h, if_neg h2, if_neg h3, if_neg h4, if_neg h5]
set_option maxHeartbeats 4000000 in
set_option maxRecDepth 100000 in
theorem dec_any {σ : World} {F : List Res} (lab : Nat) (s : Bs) (hs : s.length ≤ 1099511627776) :
    FnT Try.prog σ F 41 [.string (str s)] [] (NewE (dec s).1 (dec s).2 lab) := by
  refine fn_of 109 Try.func41 rfl Try.ntmps41 rfl ?_
  refine w_seq ?_
  refine w_region ?_
  refine wl_det rfl rfl rfl (op_assign rfl) ?_
  refine wl_det rfl rfl rfl (op_assign rfl) ?_
  refine wl_nil ?_
  refine st_tn ?_
  refine w_seq ?_
  refine w_seq ?_
  refine w_region ?_
  refine wl_det rfl rfl rfl (op_move rfl) ?_
  refine wl_det rfl rfl rfl (op_lenBs rfl Try.underlying9) ?_
  refine wl_det rfl rfl rfl (op_lss rfl rfl) ?_
  refine wl_nil ?_
  refine st_tn ?_
  refine w_cond_d rfl (fun hc14 => ?_) (fun hc14 => ?_)
  · -- c14.t
    have hdec : dec s = ([], 4) := by
      match s, hc14 with
      | [], _ => rfl
      | [a], _ => rfl
      | a :: b :: r, h => simp at h; omega
    refine w_seq ?_
    refine w_emp 71 (slO_nil 9 1) ?_
    refine w_region ?_
    refine wl_det rfl rfl rfl (op_assign rfl) ?_
    refine wl_det rfl rfl rfl (op_assign rfl) ?_
    refine wl_nil ?_
    refine st_tn ?_
    refine w_ret ?_
    refine st_tr ?_
    refine st_ret (vs := [_, _]) [71] Try.results41 ⟨rfl, ⟨rfl, trivial⟩⟩ rfl ?_
    refine ⟨[(lab, _)], rfl, ?_⟩
    rw [hdec]; exact ⟨none, 0, rfl, rfl⟩
  · -- c14.f
    obtain ⟨a, b, r, rfl⟩ : ∃ a b r, s = a :: b :: r := by
      match s, hc14 with
      | [], h => simp at h
      | [a], h => simp at h
      | a :: b :: r, _ => exact ⟨a, b, r, rfl⟩
    have ha0 : (a :: b :: r)[0]? = some a := rfl
    have hb0 : (a :: b :: r)[1]? = some b := rfl
    have hal := UInt8.toNat_lt a
    have hbl := UInt8.toNat_lt b
    simp only [List.length_cons] at hs
    refine w_skip ?_
    refine st_tn ?_
    refine w_seq ?_
    refine w_drawW (fun β => [⟨15, [], [], [], noW (_), false, [], []⟩, ⟨16, [0], [], [], noW (_), false, [], []⟩, ⟨17, [1], [], [], noW (_), false, [], []⟩, ⟨18, [2], [], [], noW (_), false, [], []⟩, ⟨19, [], [], [], noW (_), false, [], []⟩, ⟨20, [4], [], [], noW (_), false, [], []⟩, ⟨21, [5], [], [], noW (_), false, [], []⟩]) [] [0] [⟨15, [], [], false, [], []⟩, ⟨16, [0], [], false, [], []⟩, ⟨17, [1], [], false, [], []⟩, ⟨18, [2], [], false, [], []⟩, ⟨19, [], [], false, [], []⟩, ⟨20, [4], [], false, [], []⟩, ⟨21, [5], [], false, [], []⟩] [[], [], [], [], [], [], []] [[], [], [], [], [], [], []] tMixi (fun _ => by rfl) (fun _ => by rfl) (by kernel_rfl) (by kernel_rfl) (by rfl) (by rfl)
        (fun β => ⟨.p rfl (by intro X; exact op_move rfl),
        ⟨.p rfl (by intro X; rintro _ _ ⟨rfl, rfl⟩; exact op_idxBs rfl rfl Try.underlying9 (by assumption)),
        ⟨.p rfl (by intro X; rintro _ _ ⟨rfl, rfl⟩; exact op_convI64 rfl (by rw [Try.underlying5]; rfl) Try.underlying3 (by omega)),
        ⟨.p rfl (by intro X; rintro _ _ ⟨rfl, rfl⟩; exact op_shl8 rfl rfl hal),
        ⟨.p rfl (by intro X; exact op_move rfl),
        ⟨.p rfl (by intro X; rintro _ _ ⟨rfl, rfl⟩; exact op_idxBs rfl rfl Try.underlying9 (by assumption)),
        ⟨.p rfl (by intro X; rintro _ _ ⟨rfl, rfl⟩; exact op_convI64 rfl (by rw [Try.underlying5]; rfl) Try.underlying3 (by omega)),
        trivial⟩⟩⟩⟩⟩⟩⟩)
        (fun β β' => ⟨fun _ => by rfl, ⟨fun _ => by rfl, ⟨fun _ => by rfl, ⟨fun _ => by rfl, ⟨fun _ => by rfl, ⟨fun _ => by rfl, ⟨fun _ => by rfl, trivial⟩⟩⟩⟩⟩⟩⟩) ?_
    intro β
    rintro _ _ ⟨rfl, rfl⟩ _ _ ⟨rfl, rfl⟩ _ _ ⟨rfl, rfl⟩ _ _ ⟨rfl, rfl⟩ _ _ ⟨rfl, rfl⟩ _ _ ⟨rfl, rfl⟩ _ _ ⟨rfl, rfl⟩
    refine wl_norm (e' := [(0, _), (18, _), (21, _)]) (.cons rfl (.cons rfl (.cons rfl (.nil _)))) (by dsimp only [cond_false, cond_true, List.nil_append, List.cons_append]) ?_
    refine wl_det rfl rfl rfl (op_or8 rfl rfl hal hbl) ?_
    refine wl_det rfl rfl rfl (op_assign rfl) ?_
    refine wl_nil ?_
    refine st_tn ?_
    refine w_seq ?_
    refine w_seq ?_
    refine w_region ?_
    refine wl_det rfl rfl rfl (op_move rfl) ?_
    refine wl_det rfl rfl rfl (op_gtr rfl rfl) ?_
    refine wl_nil ?_
    refine st_tn ?_
    refine w_cond_d rfl (fun hc24 => ?_) (fun hc24 => ?_)
    · -- c24.t
      refine w_seq ?_
      refine w_emp 72 (slO_nil 9 1) ?_
      have hdec : dec (a :: b :: r) = ([], 6) := by unfold dec; simp only; rw [if_pos (by omega)]
      refine w_region ?_
      refine wl_det rfl rfl rfl (op_assign rfl) ?_
      refine wl_det rfl rfl rfl (op_assign rfl) ?_
      refine wl_nil ?_
      refine st_tn ?_
      refine w_ret ?_
      refine st_tr ?_
      refine st_ret (vs := [_, _]) [72] Try.results41 ⟨rfl, ⟨rfl, trivial⟩⟩ rfl ?_
      refine ⟨[(lab, _)], rfl, ?_⟩
      rw [hdec]; exact ⟨none, 0, rfl, rfl⟩
    · -- c24.f
      have hdec0 : dec (a :: b :: r) = decR (a.toNat * 256 + b.toNat) 0 [] r [] := by
        conv => lhs; unfold dec
        simp only; rw [if_neg (by omega)]
      obtain ⟨n, hn⟩ : ∃ n, n = a.toNat * 256 + b.toNat := ⟨_, rfl⟩
      rw [← hn] at hdec0 ⊢
      obtain ⟨R, hR⟩ : ∃ R, R = dec (a :: b :: r) := ⟨_, rfl⟩
      rw [← hR] at hdec0 ⊢
      refine w_skip ?_
      refine st_tn ?_
      refine w_seq ?_
      refine w_region ?_
      refine wl_det rfl rfl rfl (op_move rfl) ?_
      refine wl_det rfl rfl rfl (op_val (v' := .string (str r)) (by rfl) (op_sliceLBs rfl rfl Try.underlying9 (by simp))) ?_
      refine wl_det rfl rfl rfl (op_assign rfl) ?_
      refine wl_nil ?_
      refine st_tn ?_
      refine w_seq ?_
      refine w_region ?_
      refine wl_det rfl rfl rfl (op_assign rfl) ?_
      refine wl_nil ?_
      refine st_tn ?_
      refine w_seq ?_
      refine w_seq ?_
      refine w_region ?_
      refine wl_det rfl rfl rfl (op_move rfl) ?_
      refine wl_det rfl rfl rfl (op_move rfl) ?_
      refine wl_nil ?_
      refine st_tn ?_
      refine w_block ?_
      refine w_emp 5 (slO_nil 9 1) ?_
      refine w_loopQ (X := List UInt8 × List (List UInt8) × Option Addr × Nat × Nat) (fun z => z.2.2.2.2 ≤ n ∧ z.2.1.length = z.2.2.2.2 ∧ z.1.length ≤ 1099511627776 ∧ decR (n - z.2.2.2.2) z.2.2.2.2 (lastOf z.2.1 z.2.2.2.2) z.1 z.2.1 = R ∧ ∀ x ∈ z.2.1, x.length ≤ 255) (fun z => [(0, .string (str (z.1))), (5, .slice (z.2.2.1) (z.2.1).length (z.2.2.2.1)), (28, .int .i64 (z.2.2.2.2))]) (fun z => [(5, slW 9 encT 1 (.slice (z.2.2.1) (z.2.1).length (z.2.2.2.1)) (z.2.1))]) (fun z => n - z.2.2.2.2) ((r, [], none, 0, 0)) [(27, _)] [] [5] rfl (rfl) (.cons rfl (.cons rfl (.cons rfl (.nil _)))) (.cons rfl (.nil _)) (by
          try dsimp only
          exact ⟨Nat.zero_le _, rfl, by omega, hdec0.symm, by simp⟩) ?_
      rintro ⟨q, out, a_out, c_out, i⟩ ⟨hi, ho, hq, hd, hsh⟩
      refine w_norm2 (by dsimp only [List.cons_append, List.nil_append]) (by dsimp only [List.cons_append, List.nil_append]) ?_
      try dsimp only at hi ho hq hd hsh ⊢
      refine w_seq ?_
      refine w_region ?_
      refine wl_det rfl rfl rfl (op_lss rfl rfl) ?_
      refine wl_nil ?_
      refine st_tn ?_
      refine w_seq ?_
      refine w_cond_d rfl (fun hc29 => ?_) (fun hc29 => ?_)
      · -- c29.t
        have hlt : i < n := by omega
        refine w_skip ?_
        refine st_tn ?_
        refine w_seq ?_
        refine w_block ?_
        refine w_seq ?_
        refine w_region ?_
        refine wl_det rfl rfl rfl (op_move rfl) ?_
        refine wl_det rfl rfl rfl (op_assign rfl) ?_
        refine wl_nil ?_
        refine st_tn ?_
        refine w_seq ?_
        refine w_region ?_
        refine wl_det rfl rfl rfl (op_assign rfl) ?_
        refine wl_det rfl rfl rfl (op_val (v' := .int .i64 ((0 : Nat) : Int)) (by rfl) (op_assign rfl)) ?_
        refine wl_nil ?_
        refine st_tn ?_
        refine w_seq ?_
        refine w_seq ?_
        refine w_region ?_
        refine wl_det rfl rfl rfl (op_move rfl) ?_
        refine wl_det rfl rfl rfl (op_gtr rfl rfl) ?_
        refine wl_nil ?_
        refine st_tn ?_
        refine w_cond_d rfl (fun hc32 => ?_) (fun hc32 => ?_)
        · -- c32.t
          obtain ⟨y, hy⟩ := getE (l := out) (i := ((i : Int) - 1).toNat) (by omega)
          have hyl : y.length ≤ 255 := hsh y (List.mem_of_getElem? hy)
          have hl : lastOf out i = y := by unfold lastOf; rw [if_pos (by omega)]; exact getD_of (by rw [show i - 1 = ((i : Int) - 1).toNat by omega]; exact hy)
          refine w_region ?_
          refine wl_det rfl rfl rfl (op_move rfl) ?_
          refine wl_det rfl rfl rfl (op_move rfl) ?_
          refine wl_det rfl rfl rfl (op_sub' rfl rfl (by omega)) ?_
          refine wl_det rfl rfl rfl (op_idxZ rfl rfl tS22i (Sl.ent (Sl.lab 5 rfl (by unfold maxLen; omega))) (by omega) (by omega)) ?_
          refine wl_det rfl rfl rfl (op_ldx rfl tO9i (Sl.lab 5 rfl (by unfold maxLen; omega)) (by assumption) (by rfl)) ?_
          refine wl_det rfl rfl rfl (op_assign rfl) ?_
          refine wl_nil ?_
          refine st_tn ?_
          refine w_seq ?_
          refine w_region ?_
          refine wl_det rfl rfl rfl (op_move rfl) ?_
          refine wl_det rfl rfl rfl (op_remN rfl rfl (by omega) (by omega)) ?_
          refine wl_det rfl rfl rfl (op_neq rfl rfl) ?_
          refine wl_det rfl rfl rfl (op_assign rfl) ?_
          refine wl_nil ?_
          refine st_tn ?_
          refine w_seq ?_
          refine w_seq ?_
          refine w_region ?_
          refine wl_det rfl rfl rfl (op_move rfl) ?_
          refine wl_nil ?_
          refine st_tn ?_
          refine w_cond_d rfl (fun hc41 => ?_) (fun hc41 => ?_)
          · -- c41.t
            refine w_seq ?_
            refine w_seq ?_
            refine w_region ?_
            refine wl_det rfl rfl rfl (op_move rfl) ?_
            refine wl_det rfl rfl rfl (op_eqBs rfl rfl) ?_
            refine wl_nil ?_
            refine st_tn ?_
            refine w_cond_d rfl (fun hc43 => ?_) (fun hc43 => ?_)
            · -- c43.t
              subst hc43
              have hRe : R = ([], 4) := by rw [← hd]; exact decR_err hlt (dstep_n (by omega))
              refine w_seq ?_
              refine w_emp 73 (slO_nil 9 1) ?_
              refine w_region ?_
              refine wl_det rfl rfl rfl (op_assign rfl) ?_
              refine wl_det rfl rfl rfl (op_assign rfl) ?_
              refine wl_nil ?_
              refine st_tn ?_
              refine w_ret ?_
              refine st_tr ?_
              refine st_tr ?_
              refine st_br ?_
              refine st_tr ?_
              refine st_tr ?_
              refine st_br ?_
              refine st_tr ?_
              refine st_ret (vs := [_, _]) [73] Try.results41 ⟨rfl, ⟨rfl, trivial⟩⟩ rfl ?_
              refine ⟨[(lab, _)], rfl, ?_⟩
              rw [hRe]; exact ⟨_, _, rfl, rfl⟩
            · -- c43.f
              obtain ⟨g, s1, rfl⟩ := List.exists_cons_of_ne_nil hc43
              have hg0 : (g :: s1)[0]? = some g := rfl
              have hgl := UInt8.toNat_lt g
              simp only [List.length_cons] at hq
              have hS : dStep i (lastOf out i) (g :: s1) = dBody i g.toNat y s1 := by rw [hl]; exact dstep_g (by omega)
              refine w_skip ?_
              refine st_tn ?_
              refine w_drawW (fun β => [⟨44, [], [], [], noW (_), false, [], []⟩, ⟨45, [0], [], [], noW (_), false, [], []⟩, ⟨46, [1], [], [], noW (_), false, [], []⟩, ⟨47, [], [], [], noW (_), false, [], []⟩, ⟨48, [3], [], [], noW (_), false, [], []⟩, ⟨8, [2], [], [], noW (_), false, [], []⟩]) [] [0] [⟨44, [], [], false, [], []⟩, ⟨45, [0], [], false, [], []⟩, ⟨46, [1], [], false, [], []⟩, ⟨47, [], [], false, [], []⟩, ⟨48, [3], [], false, [], []⟩, ⟨8, [2], [], false, [], []⟩] [[], [], [], [], [], []] [[], [], [], [], [], []] tMixi (fun _ => by rfl) (fun _ => by rfl) (by kernel_rfl) (by kernel_rfl) (by rfl) (by rfl)
                  (fun β => ⟨.p rfl (by intro X; exact op_move rfl),
                  ⟨.p rfl (by intro X; rintro _ _ ⟨rfl, rfl⟩; exact op_idxBs rfl rfl Try.underlying9 (by assumption)),
                  ⟨.p rfl (by intro X; rintro _ _ ⟨rfl, rfl⟩; exact op_convI64 rfl (by rw [Try.underlying5]; rfl) Try.underlying3 (by omega)),
                  ⟨.p rfl (by intro X; exact op_move rfl),
                  ⟨.p rfl (by intro X; rintro _ _ ⟨rfl, rfl⟩; exact op_val (v' := .string (str s1)) (by rfl) (op_sliceLBs rfl rfl Try.underlying9 (by simp))),
                  ⟨.p rfl (by intro X; rintro _ _ ⟨rfl, rfl⟩; exact op_assign rfl),
                  trivial⟩⟩⟩⟩⟩⟩)
                  (fun β β' => ⟨fun _ => by rfl, ⟨fun _ => by rfl, ⟨fun _ => by rfl, ⟨fun _ => by rfl, ⟨fun _ => by rfl, ⟨fun _ => by rfl, trivial⟩⟩⟩⟩⟩⟩) ?_
              intro β
              rintro _ _ ⟨rfl, rfl⟩ _ _ ⟨rfl, rfl⟩ _ _ ⟨rfl, rfl⟩ _ _ ⟨rfl, rfl⟩ _ _ ⟨rfl, rfl⟩ _ _ ⟨rfl, rfl⟩
              refine wl_norm (e' := [(5, _), (6, _), (7, _), (8, _), (9, _), (27, _), (28, _), (48, _)]) (.cons rfl (.cons rfl (.cons rfl (.cons rfl (.cons rfl (.cons rfl (.cons rfl (.cons rfl (.nil _))))))))) (by dsimp only [cond_false, cond_true, List.nil_append, List.cons_append]) ?_
              refine wl_det rfl rfl rfl (op_assign rfl) ?_
              refine wl_nil ?_
              refine st_tn ?_
              refine w_seq ?_
              refine w_seq ?_
              refine w_region ?_
              refine wl_det rfl rfl rfl (op_move rfl) ?_
              refine wl_det rfl rfl rfl (op_eqBs rfl rfl) ?_
              refine wl_det rfl rfl rfl (op_move rfl) ?_
              refine wl_gsplit (t := 51) rfl (fun hg51 => ?_) (fun hg51 => ?_)
              · -- 51 is True
                have hg51' : s1 = [] := hg51
                subst hg51'
                have hRe : R = ([], 4) := by rw [← hd]; exact decR_err hlt hS
                refine wl_unwanted rfl rfl rfl rfl rfl rfl rfl rfl ?_
                refine wl_unwanted rfl rfl rfl rfl rfl rfl rfl rfl ?_
                refine wl_unwanted rfl rfl rfl rfl rfl rfl rfl rfl ?_
                refine wl_unwanted rfl rfl rfl rfl rfl rfl rfl rfl ?_
                refine wl_unwanted rfl rfl rfl rfl rfl rfl rfl rfl ?_
                refine wl_unwanted rfl rfl rfl rfl rfl rfl rfl rfl ?_
                refine wl_unwanted rfl rfl rfl rfl rfl rfl rfl rfl ?_
                refine wl_det rfl rfl rfl (op_pick_t rfl rfl) ?_
                refine wl_nil ?_
                refine st_tn ?_
                refine w_cond_t (rfl) ?_
                refine w_seq ?_
                refine w_emp 74 (slO_nil 9 1) ?_
                refine w_region ?_
                refine wl_det rfl rfl rfl (op_assign rfl) ?_
                refine wl_det rfl rfl rfl (op_assign rfl) ?_
                refine wl_nil ?_
                refine st_tn ?_
                refine w_ret ?_
                refine st_tr ?_
                refine st_br ?_
                refine st_tr ?_
                refine st_tr ?_
                refine st_br ?_
                refine st_tr ?_
                refine st_ret (vs := [_, _]) [74] Try.results41 ⟨rfl, ⟨rfl, trivial⟩⟩ rfl ?_
                refine ⟨[(lab, _)], rfl, ?_⟩
                rw [hRe]; exact ⟨_, _, rfl, rfl⟩
              · -- 51 is False
                obtain ⟨b1, r1, rfl⟩ := List.exists_cons_of_ne_nil (show s1 ≠ [] from hg51)
                have hb1 : (b1 :: r1)[0]? = some b1 := rfl
                have hb1l := UInt8.toNat_lt b1
                simp only [List.length_cons] at hq
                refine wl_wanted_det rfl rfl rfl rfl rfl rfl rfl (op_move rfl) ?_
                refine wl_wanted_det rfl rfl rfl rfl rfl rfl rfl (op_lenBs rfl Try.underlying9) ?_
                refine wl_wanted_det rfl rfl rfl rfl rfl rfl rfl (op_move rfl) ?_
                refine wl_wanted_det rfl rfl rfl rfl rfl rfl rfl (op_idxBs rfl rfl Try.underlying9 (by assumption)) ?_
                refine wl_wanted_det rfl rfl rfl rfl rfl rfl rfl (op_convI64 rfl (by rw [Try.underlying5]; rfl) Try.underlying3 (by omega)) ?_
                refine wl_wanted_det rfl rfl rfl rfl rfl rfl rfl (op_add' rfl rfl (by omega)) ?_
                refine wl_wanted_det rfl rfl rfl rfl rfl rfl rfl (op_lss rfl rfl) ?_
                refine wl_det rfl rfl rfl (op_pick_f rfl rfl) ?_
                refine wl_nil ?_
                refine st_tn ?_
                refine w_cond_d rfl (fun hc59 => ?_) (fun hc59 => ?_)
                · -- c59.t
                  have hRe : R = ([], 4) := by rw [← hd]; exact decR_err hlt (hS.trans (dbody_1 (by simp only [List.length_cons] at hc59; omega)))
                  refine w_seq ?_
                  refine w_emp 74 (slO_nil 9 1) ?_
                  refine w_region ?_
                  refine wl_det rfl rfl rfl (op_assign rfl) ?_
                  refine wl_det rfl rfl rfl (op_assign rfl) ?_
                  refine wl_nil ?_
                  refine st_tn ?_
                  refine w_ret ?_
                  refine st_tr ?_
                  refine st_br ?_
                  refine st_tr ?_
                  refine st_tr ?_
                  refine st_br ?_
                  refine st_tr ?_
                  refine st_ret (vs := [_, _]) [74] Try.results41 ⟨rfl, ⟨rfl, trivial⟩⟩ rfl ?_
                  refine ⟨[(lab, _)], rfl, ?_⟩
                  rw [hRe]; exact ⟨_, _, rfl, rfl⟩
                · -- c59.f
                  have h1 : ¬ r1.length < b1.toNat := by simp only [List.length_cons] at hc59; omega
                  refine w_skip ?_
                  refine st_tn ?_
                  refine w_seq ?_
                  refine w_region ?_
                  refine wl_det rfl rfl rfl (op_move rfl) ?_
                  refine wl_det rfl rfl rfl (op_move rfl) ?_
                  refine wl_det rfl rfl rfl (op_idxBs rfl rfl Try.underlying9 (by assumption)) ?_
                  refine wl_det rfl rfl rfl (op_convI64 rfl (by rw [Try.underlying5]; rfl) Try.underlying3 (by omega)) ?_
                  refine wl_det rfl rfl rfl (op_val (v' := .int .i64 ((1 + b1.toNat : Nat) : Int)) (by rfl) (op_add' rfl rfl (by omega))) ?_
                  refine wl_det rfl rfl rfl (op_val (v' := .string (str (r1.take b1.toNat))) (by rw [show ((b1 :: r1).take (1 + b1.toNat)).drop 1 = r1.take b1.toNat by rw [Nat.add_comm]; rfl]) (op_sliceBs rfl rfl rfl Try.underlying9 (by simp only [List.length_cons]; omega) (by simp only [List.length_cons]; omega))) ?_
                  refine wl_det rfl rfl rfl (op_assign rfl) ?_
                  refine wl_nil ?_
                  refine st_tn ?_
                  refine w_seq ?_
                  refine w_region ?_
                  refine wl_det rfl rfl rfl (op_move rfl) ?_
                  refine wl_det rfl rfl rfl (op_move rfl) ?_
                  refine wl_det rfl rfl rfl (op_lenBs rfl Try.underlying9) ?_
                  refine wl_det rfl rfl rfl (op_val (v' := .int .i64 ((1 + b1.toNat : Nat) : Int)) (by congr 1; simp; omega) (op_add' rfl rfl (by simp; omega))) ?_
                  refine wl_det rfl rfl rfl (op_val (v' := .string (str (r1.drop b1.toNat))) (by rw [show (b1 :: r1).drop (1 + b1.toNat) = r1.drop b1.toNat by rw [Nat.add_comm]; rfl]) (op_sliceLBs rfl rfl Try.underlying9 (by simp only [List.length_cons]; omega))) ?_
                  refine wl_det rfl rfl rfl (op_assign rfl) ?_
                  refine wl_nil ?_
                  refine st_tn ?_
                  refine w_seq ?_
                  refine w_seq ?_
                  refine w_region ?_
                  refine wl_det rfl rfl rfl (op_move rfl) ?_
                  refine wl_det rfl rfl rfl (op_move rfl) ?_
                  refine wl_det rfl rfl rfl (op_lenBs rfl Try.underlying9) ?_
                  refine wl_det rfl rfl rfl (op_gtr rfl rfl) ?_
                  refine wl_nil ?_
                  refine st_tn ?_
                  refine w_cond_d rfl (fun hc74 => ?_) (fun hc74 => ?_)
                  · -- c74.t
                    have hRe : R = ([], 3) := by rw [← hd]; exact decR_err hlt (hS.trans (dbody_2 h1 (by omega)))
                    refine w_seq ?_
                    refine w_emp 75 (slO_nil 9 1) ?_
                    refine w_region ?_
                    refine wl_det rfl rfl rfl (op_assign rfl) ?_
                    refine wl_det rfl rfl rfl (op_assign rfl) ?_
                    refine wl_nil ?_
                    refine st_tn ?_
                    refine w_ret ?_
                    refine st_tr ?_
                    refine st_br ?_
                    refine st_tr ?_
                    refine st_tr ?_
                    refine st_br ?_
                    refine st_tr ?_
                    refine st_ret (vs := [_, _]) [75] Try.results41 ⟨rfl, ⟨rfl, trivial⟩⟩ rfl ?_
                    refine ⟨[(lab, _)], rfl, ?_⟩
                    rw [hRe]; exact ⟨_, _, rfl, rfl⟩
                  · -- c74.f
                    refine w_skip ?_
                    refine st_tn ?_
                    refine w_seq ?_
                    refine w_region ?_
                    refine wl_det rfl rfl rfl (op_move rfl) ?_
                    refine wl_det rfl rfl rfl (op_move rfl) ?_
                    refine wl_det rfl rfl rfl (op_sliceRBs rfl rfl Try.underlying9 (by omega)) ?_
                    refine wl_det rfl rfl rfl (op_move rfl) ?_
                    refine wl_det rfl rfl rfl (op_catBs rfl rfl (by simp; omega)) ?_
                    refine wl_det rfl rfl rfl (op_assign rfl) ?_
                    refine wl_nil ?_
                    refine st_tn ?_
                    refine w_seq ?_
                    refine w_block ?_
                    refine w_seq ?_
                    refine w_region ?_
                    refine wl_det rfl rfl rfl (op_move rfl) ?_
                    refine wl_det rfl rfl rfl (op_lenBs rfl Try.underlying9) ?_
                    refine wl_det rfl rfl rfl (op_gtr rfl rfl) ?_
                    refine wl_det rfl rfl rfl (op_assign rfl) ?_
                    refine wl_nil ?_
                    refine st_tn ?_
                    refine w_cond_d rfl (fun hc80 => ?_) (fun hc80 => ?_)
                    · -- c80.t
                      have hRe : R = ([], 5) := by rw [← hd]; exact decR_err hlt (hS.trans (dbody_3 h1 (by omega) (by omega)))
                      refine w_seq ?_
                      refine w_emp 76 (slO_nil 9 1) ?_
                      refine w_region ?_
                      refine wl_det rfl rfl rfl (op_assign rfl) ?_
                      refine wl_det rfl rfl rfl (op_assign rfl) ?_
                      refine wl_nil ?_
                      refine st_tn ?_
                      refine w_ret ?_
                      refine st_br ?_
                      refine st_tr ?_
                      refine st_br ?_
                      refine st_tr ?_
                      refine st_tr ?_
                      refine st_br ?_
                      refine st_tr ?_
                      refine st_ret (vs := [_, _]) [76] Try.results41 ⟨rfl, ⟨rfl, trivial⟩⟩ rfl ?_
                      refine ⟨[(lab, _)], rfl, ?_⟩
                      rw [hRe]; exact ⟨_, _, rfl, rfl⟩
                    · -- c80.f
                      refine w_seq ?_
                      refine w_region ?_
                      refine wl_det rfl rfl rfl (op_move rfl) ?_
                      refine wl_det rfl rfl rfl (op_gtr rfl rfl) ?_
                      refine wl_det rfl rfl rfl (op_move rfl) ?_
                      refine wl_gsplit (t := 87) rfl (fun hg87 => ?_) (fun hg87 => ?_)
                      · -- 87 is True
                        refine wl_wanted_det rfl rfl rfl rfl rfl rfl rfl (op_move rfl) ?_
                        refine wl_wanted_det rfl rfl rfl rfl rfl rfl rfl (op_move rfl) ?_
                        refine wl_wanted_det rfl rfl rfl rfl rfl rfl rfl (op_leBs rfl rfl) ?_
                        refine wl_det rfl rfl rfl (op_pick_t rfl rfl) ?_
                        refine wl_det rfl rfl rfl (op_assign rfl) ?_
                        refine wl_nil ?_
                        refine st_tn ?_
                        refine w_cond_d rfl (fun hc84 => ?_) (fun hc84 => ?_)
                        · -- c84.t
                          have hRe : R = ([], 8) := by rw [← hd]; exact decR_err hlt (hS.trans (dbody_4 h1 (by omega) (by omega) ⟨by omega, hc84⟩))
                          refine w_seq ?_
                          refine w_emp 77 (slO_nil 9 1) ?_
                          refine w_region ?_
                          refine wl_det rfl rfl rfl (op_assign rfl) ?_
                          refine wl_det rfl rfl rfl (op_assign rfl) ?_
                          refine wl_nil ?_
                          refine st_tn ?_
                          refine w_ret ?_
                          refine st_br ?_
                          refine st_tr ?_
                          refine st_br ?_
                          refine st_tr ?_
                          refine st_tr ?_
                          refine st_br ?_
                          refine st_tr ?_
                          refine st_ret (vs := [_, _]) [77] Try.results41 ⟨rfl, ⟨rfl, trivial⟩⟩ rfl ?_
                          refine ⟨[(lab, _)], rfl, ?_⟩
                          rw [hRe]; exact ⟨_, _, rfl, rfl⟩
                        · -- c84.f
                          refine w_seq ?_
                          have h4 : ¬ (0 < i ∧ y.take g.toNat ++ r1.take b1.toNat ≤ y) := fun h => hc84 h.2
                          refine w_region ?_
                          refine wl_det rfl rfl rfl (op_move rfl) ?_
                          refine wl_det rfl rfl rfl (op_move rfl) ?_
                          refine wl_gsplit (t := 94) rfl (fun hg94 => ?_) (fun hg94 => ?_)
                          · -- 94 is True
                            refine wl_wanted_det rfl rfl rfl rfl rfl rfl rfl (op_move rfl) ?_
                            refine wl_wanted_det rfl rfl rfl rfl rfl rfl rfl (op_move rfl) ?_
                            refine wl_wanted_det rfl rfl rfl rfl rfl rfl rfl (op_fn Try.func51 rfl rfl rfl (common_any _ _ (by omega))) ?_
                            refine wl_wanted_det rfl rfl rfl rfl rfl rfl rfl (op_move rfl) ?_
                            refine wl_wanted_det rfl rfl rfl rfl rfl rfl rfl (op_neq rfl rfl) ?_
                            refine wl_det rfl rfl rfl (op_pick_t rfl rfl) ?_
                            refine wl_det rfl rfl rfl (op_assign rfl) ?_
                            refine wl_nil ?_
                            refine st_tn ?_
                            refine w_cond_d rfl (fun hc92 => ?_) (fun hc92 => ?_)
                            · -- c92.t
                              have hRe : R = ([], 3) := by rw [← hd]; exact decR_err hlt (hS.trans (dbody_5 h1 (by omega) (by omega) (by first | exact h4 | exact h4 _ _) ⟨by omega, by omega⟩))
                              refine w_seq ?_
                              refine w_emp 78 (slO_nil 9 1) ?_
                              refine w_region ?_
                              refine wl_det rfl rfl rfl (op_assign rfl) ?_
                              refine wl_det rfl rfl rfl (op_assign rfl) ?_
                              refine wl_nil ?_
                              refine st_tn ?_
                              refine w_ret ?_
                              refine st_br ?_
                              refine st_tr ?_
                              refine st_br ?_
                              refine st_tr ?_
                              refine st_tr ?_
                              refine st_br ?_
                              refine st_tr ?_
                              refine st_ret (vs := [_, _]) [78] Try.results41 ⟨rfl, ⟨rfl, trivial⟩⟩ rfl ?_
                              refine ⟨[(lab, _)], rfl, ?_⟩
                              rw [hRe]; exact ⟨_, _, rfl, rfl⟩
                            · -- c92.f
                              refine w_skip ?_
                              refine st_bn ?_
                              refine st_tn ?_
                              have h5 : ¬ (i % 16 ≠ 0 ∧ common y (y.take g.toNat ++ r1.take b1.toNat) ≠ g.toNat) := fun h => by omega
                              refine w_region ?_
                              refine wl_det rfl rfl rfl (op_move rfl) ?_
                              refine wl_det rfl rfl rfl (op_move rfl) ?_
                              refine wl_op [] rfl rfl rfl rfl (op_buildSlice (enc := encT) (l := [_]) (lab := 103) tL22_1i rfl rfl (fun _ => rfl) rfl) ?_
                              rintro _ _ ⟨a103, c103, rfl, rfl⟩
                              refine wl_op [5] rfl rfl rfl rfl (op_append (lab := 5) (lab' := 104) rfl rfl tP22i enc1T (Sl.lab 103 rfl (by simp [maxLen])) (by simp; omega) (by simp; omega)) ?_
                              rintro _ _ ⟨a104, c104, rfl, rfl⟩
                              refine wl_det rfl rfl rfl (op_assign rfl) ?_
                              refine wl_nil ?_
                              refine st_bn ?_
                              refine st_tn ?_
                              refine w_region ?_
                              refine wl_det rfl rfl rfl (op_add' rfl rfl (by omega)) ?_
                              refine wl_det rfl rfl rfl (op_move rfl) ?_
                              refine wl_nil ?_
                              refine st_roundQ (x := ([], out, a_out, c_out, i)) ((r1.drop b1.toNat, _, _, _, i + 1)) [104] rfl (rfl) (.cons rfl (.cons rfl (.cons rfl (.nil _)))) (.cons rfl (.nil _)) (by
                                  try dsimp only
                                  refine ⟨by omega, by simp; omega, by simp; omega, ?_⟩
                                  refine ⟨?_, fun z hz => ?_⟩
                                  · rw [lastOf_snoc ho, ← hd]
                                    exact (decR_ok hlt (hS.trans (dbody_6 (by omega) (by omega) (by omega) (by first | exact h4 | exact h4 _ _) (by first | exact h5 | exact h5 _ _ _)))).symm
                                  · rcases List.mem_append.1 hz with hz | hz
                                    · exact hsh z hz
                                    · simp only [List.mem_singleton] at hz; subst hz; omega) (by
                                  try dsimp only
                                  omega) 
                          · -- 94 is False
                            omega
                      · -- 87 is False
                        omega
          · -- c41.f
            obtain ⟨s1, rfl⟩ : ∃ s1, s1 = q := ⟨_, rfl⟩
            have hS : dStep i (lastOf out i) s1 = dBody i 0 y s1 := by rw [hl]; exact dstep_0 (by omega)
            refine w_skip ?_
            refine st_tn ?_
            refine w_seq ?_
            refine w_seq ?_
            refine w_region ?_
            refine wl_det rfl rfl rfl (op_move rfl) ?_
            refine wl_det rfl rfl rfl (op_eqBs rfl rfl) ?_
            refine wl_det rfl rfl rfl (op_move rfl) ?_
            refine wl_gsplit (t := 51) rfl (fun hg51 => ?_) (fun hg51 => ?_)
            · -- 51 is True
              have hg51' : s1 = [] := hg51
              subst hg51'
              have hRe : R = ([], 4) := by rw [← hd]; exact decR_err hlt hS
              refine wl_unwanted rfl rfl rfl rfl rfl rfl rfl rfl ?_
              refine wl_unwanted rfl rfl rfl rfl rfl rfl rfl rfl ?_
              refine wl_unwanted rfl rfl rfl rfl rfl rfl rfl rfl ?_
              refine wl_unwanted rfl rfl rfl rfl rfl rfl rfl rfl ?_
              refine wl_unwanted rfl rfl rfl rfl rfl rfl rfl rfl ?_
              refine wl_unwanted rfl rfl rfl rfl rfl rfl rfl rfl ?_
              refine wl_unwanted rfl rfl rfl rfl rfl rfl rfl rfl ?_
              refine wl_det rfl rfl rfl (op_pick_t rfl rfl) ?_
              refine wl_nil ?_
              refine st_tn ?_
              refine w_cond_t (rfl) ?_
              refine w_seq ?_
              refine w_emp 74 (slO_nil 9 1) ?_
              refine w_region ?_
              refine wl_det rfl rfl rfl (op_assign rfl) ?_
              refine wl_det rfl rfl rfl (op_assign rfl) ?_
              refine wl_nil ?_
              refine st_tn ?_
              refine w_ret ?_
              refine st_tr ?_
              refine st_br ?_
              refine st_tr ?_
              refine st_tr ?_
              refine st_br ?_
              refine st_tr ?_
              refine st_ret (vs := [_, _]) [74] Try.results41 ⟨rfl, ⟨rfl, trivial⟩⟩ rfl ?_
              refine ⟨[(lab, _)], rfl, ?_⟩
              rw [hRe]; exact ⟨_, _, rfl, rfl⟩
            · -- 51 is False
              obtain ⟨b1, r1, rfl⟩ := List.exists_cons_of_ne_nil (show s1 ≠ [] from hg51)
              have hb1 : (b1 :: r1)[0]? = some b1 := rfl
              have hb1l := UInt8.toNat_lt b1
              simp only [List.length_cons] at hq
              refine wl_wanted_det rfl rfl rfl rfl rfl rfl rfl (op_move rfl) ?_
              refine wl_wanted_det rfl rfl rfl rfl rfl rfl rfl (op_lenBs rfl Try.underlying9) ?_
              refine wl_wanted_det rfl rfl rfl rfl rfl rfl rfl (op_move rfl) ?_
              refine wl_wanted_det rfl rfl rfl rfl rfl rfl rfl (op_idxBs rfl rfl Try.underlying9 (by assumption)) ?_
              refine wl_wanted_det rfl rfl rfl rfl rfl rfl rfl (op_convI64 rfl (by rw [Try.underlying5]; rfl) Try.underlying3 (by omega)) ?_
              refine wl_wanted_det rfl rfl rfl rfl rfl rfl rfl (op_add' rfl rfl (by omega)) ?_
              refine wl_wanted_det rfl rfl rfl rfl rfl rfl rfl (op_lss rfl rfl) ?_
              refine wl_det rfl rfl rfl (op_pick_f rfl rfl) ?_
              refine wl_nil ?_
              refine st_tn ?_
              refine w_cond_d rfl (fun hc59 => ?_) (fun hc59 => ?_)
              · -- c59.t
                have hRe : R = ([], 4) := by rw [← hd]; exact decR_err hlt (hS.trans (dbody_1 (by simp only [List.length_cons] at hc59; omega)))
                refine w_seq ?_
                refine w_emp 74 (slO_nil 9 1) ?_
                refine w_region ?_
                refine wl_det rfl rfl rfl (op_assign rfl) ?_
                refine wl_det rfl rfl rfl (op_assign rfl) ?_
                refine wl_nil ?_
                refine st_tn ?_
                refine w_ret ?_
                refine st_tr ?_
                refine st_br ?_
                refine st_tr ?_
                refine st_tr ?_
                refine st_br ?_
                refine st_tr ?_
                refine st_ret (vs := [_, _]) [74] Try.results41 ⟨rfl, ⟨rfl, trivial⟩⟩ rfl ?_
                refine ⟨[(lab, _)], rfl, ?_⟩
                rw [hRe]; exact ⟨_, _, rfl, rfl⟩
              · -- c59.f
                have h1 : ¬ r1.length < b1.toNat := by simp only [List.length_cons] at hc59; omega
                refine w_skip ?_
                refine st_tn ?_
                refine w_seq ?_
                refine w_region ?_
                refine wl_det rfl rfl rfl (op_move rfl) ?_
                refine wl_det rfl rfl rfl (op_move rfl) ?_
                refine wl_det rfl rfl rfl (op_idxBs rfl rfl Try.underlying9 (by assumption)) ?_
                refine wl_det rfl rfl rfl (op_convI64 rfl (by rw [Try.underlying5]; rfl) Try.underlying3 (by omega)) ?_
                refine wl_det rfl rfl rfl (op_val (v' := .int .i64 ((1 + b1.toNat : Nat) : Int)) (by rfl) (op_add' rfl rfl (by omega))) ?_
                refine wl_det rfl rfl rfl (op_val (v' := .string (str (r1.take b1.toNat))) (by rw [show ((b1 :: r1).take (1 + b1.toNat)).drop 1 = r1.take b1.toNat by rw [Nat.add_comm]; rfl]) (op_sliceBs rfl rfl rfl Try.underlying9 (by simp only [List.length_cons]; omega) (by simp only [List.length_cons]; omega))) ?_
                refine wl_det rfl rfl rfl (op_assign rfl) ?_
                refine wl_nil ?_
                refine st_tn ?_
                refine w_seq ?_
                refine w_region ?_
                refine wl_det rfl rfl rfl (op_move rfl) ?_
                refine wl_det rfl rfl rfl (op_move rfl) ?_
                refine wl_det rfl rfl rfl (op_lenBs rfl Try.underlying9) ?_
                refine wl_det rfl rfl rfl (op_val (v' := .int .i64 ((1 + b1.toNat : Nat) : Int)) (by congr 1; simp; omega) (op_add' rfl rfl (by simp; omega))) ?_
                refine wl_det rfl rfl rfl (op_val (v' := .string (str (r1.drop b1.toNat))) (by rw [show (b1 :: r1).drop (1 + b1.toNat) = r1.drop b1.toNat by rw [Nat.add_comm]; rfl]) (op_sliceLBs rfl rfl Try.underlying9 (by simp only [List.length_cons]; omega))) ?_
                refine wl_det rfl rfl rfl (op_assign rfl) ?_
                refine wl_nil ?_
                refine st_tn ?_
                refine w_seq ?_
                refine w_seq ?_
                refine w_region ?_
                refine wl_det rfl rfl rfl (op_move rfl) ?_
                refine wl_det rfl rfl rfl (op_move rfl) ?_
                refine wl_det rfl rfl rfl (op_lenBs rfl Try.underlying9) ?_
                refine wl_det rfl rfl rfl (op_gtr rfl rfl) ?_
                refine wl_nil ?_
                refine st_tn ?_
                refine w_cond_d rfl (fun hc74 => ?_) (fun hc74 => ?_)
                · -- c74.t
                  have hRe : R = ([], 3) := by rw [← hd]; exact decR_err hlt (hS.trans (dbody_2 h1 (by omega)))
                  refine w_seq ?_
                  refine w_emp 75 (slO_nil 9 1) ?_
                  refine w_region ?_
                  refine wl_det rfl rfl rfl (op_assign rfl) ?_
                  refine wl_det rfl rfl rfl (op_assign rfl) ?_
                  refine wl_nil ?_
                  refine st_tn ?_
                  refine w_ret ?_
                  refine st_tr ?_
                  refine st_br ?_
                  refine st_tr ?_
                  refine st_tr ?_
                  refine st_br ?_
                  refine st_tr ?_
                  refine st_ret (vs := [_, _]) [75] Try.results41 ⟨rfl, ⟨rfl, trivial⟩⟩ rfl ?_
                  refine ⟨[(lab, _)], rfl, ?_⟩
                  rw [hRe]; exact ⟨_, _, rfl, rfl⟩
                · -- c74.f
                  refine w_skip ?_
                  refine st_tn ?_
                  refine w_seq ?_
                  refine w_region ?_
                  refine wl_det rfl rfl rfl (op_move rfl) ?_
                  refine wl_det rfl rfl rfl (op_move rfl) ?_
                  refine wl_det rfl rfl rfl (op_sliceRBs rfl rfl Try.underlying9 (by omega)) ?_
                  refine wl_det rfl rfl rfl (op_move rfl) ?_
                  refine wl_det rfl rfl rfl (op_catBs rfl rfl (by simp; omega)) ?_
                  refine wl_det rfl rfl rfl (op_assign rfl) ?_
                  refine wl_nil ?_
                  refine st_tn ?_
                  refine w_seq ?_
                  refine w_block ?_
                  refine w_seq ?_
                  refine w_region ?_
                  refine wl_det rfl rfl rfl (op_move rfl) ?_
                  refine wl_det rfl rfl rfl (op_lenBs rfl Try.underlying9) ?_
                  refine wl_det rfl rfl rfl (op_gtr rfl rfl) ?_
                  refine wl_det rfl rfl rfl (op_assign rfl) ?_
                  refine wl_nil ?_
                  refine st_tn ?_
                  refine w_cond_d rfl (fun hc80 => ?_) (fun hc80 => ?_)
                  · -- c80.t
                    have hRe : R = ([], 5) := by rw [← hd]; exact decR_err hlt (hS.trans (dbody_3 h1 (by omega) (by omega)))
                    refine w_seq ?_
                    refine w_emp 76 (slO_nil 9 1) ?_
                    refine w_region ?_
                    refine wl_det rfl rfl rfl (op_assign rfl) ?_
                    refine wl_det rfl rfl rfl (op_assign rfl) ?_
                    refine wl_nil ?_
                    refine st_tn ?_
                    refine w_ret ?_
                    refine st_br ?_
                    refine st_tr ?_
                    refine st_br ?_
                    refine st_tr ?_
                    refine st_tr ?_
                    refine st_br ?_
                    refine st_tr ?_
                    refine st_ret (vs := [_, _]) [76] Try.results41 ⟨rfl, ⟨rfl, trivial⟩⟩ rfl ?_
                    refine ⟨[(lab, _)], rfl, ?_⟩
                    rw [hRe]; exact ⟨_, _, rfl, rfl⟩
                  · -- c80.f
                    refine w_seq ?_
                    refine w_region ?_
                    refine wl_det rfl rfl rfl (op_move rfl) ?_
                    refine wl_det rfl rfl rfl (op_gtr rfl rfl) ?_
                    refine wl_det rfl rfl rfl (op_move rfl) ?_
                    refine wl_gsplit (t := 87) rfl (fun hg87 => ?_) (fun hg87 => ?_)
                    · -- 87 is True
                      refine wl_wanted_det rfl rfl rfl rfl rfl rfl rfl (op_move rfl) ?_
                      refine wl_wanted_det rfl rfl rfl rfl rfl rfl rfl (op_move rfl) ?_
                      refine wl_wanted_det rfl rfl rfl rfl rfl rfl rfl (op_leBs rfl rfl) ?_
                      refine wl_det rfl rfl rfl (op_pick_t rfl rfl) ?_
                      refine wl_det rfl rfl rfl (op_assign rfl) ?_
                      refine wl_nil ?_
                      refine st_tn ?_
                      refine w_cond_d rfl (fun hc84 => ?_) (fun hc84 => ?_)
                      · -- c84.t
                        have hRe : R = ([], 8) := by rw [← hd]; exact decR_err hlt (hS.trans (dbody_4 h1 (by omega) (by omega) ⟨by omega, hc84⟩))
                        refine w_seq ?_
                        refine w_emp 77 (slO_nil 9 1) ?_
                        refine w_region ?_
                        refine wl_det rfl rfl rfl (op_assign rfl) ?_
                        refine wl_det rfl rfl rfl (op_assign rfl) ?_
                        refine wl_nil ?_
                        refine st_tn ?_
                        refine w_ret ?_
                        refine st_br ?_
                        refine st_tr ?_
                        refine st_br ?_
                        refine st_tr ?_
                        refine st_tr ?_
                        refine st_br ?_
                        refine st_tr ?_
                        refine st_ret (vs := [_, _]) [77] Try.results41 ⟨rfl, ⟨rfl, trivial⟩⟩ rfl ?_
                        refine ⟨[(lab, _)], rfl, ?_⟩
                        rw [hRe]; exact ⟨_, _, rfl, rfl⟩
                      · -- c84.f
                        refine w_seq ?_
                        have h4 : ¬ (0 < i ∧ y.take 0 ++ r1.take b1.toNat ≤ y) := fun h => hc84 h.2
                        refine w_region ?_
                        refine wl_det rfl rfl rfl (op_move rfl) ?_
                        refine wl_det rfl rfl rfl (op_move rfl) ?_
                        refine wl_gsplit (t := 94) rfl (fun hg94 => ?_) (fun hg94 => ?_)
                        · -- 94 is True
                          omega
                        · -- 94 is False
                          refine wl_unwanted rfl rfl rfl rfl rfl rfl rfl rfl ?_
                          refine wl_unwanted rfl rfl rfl rfl rfl rfl rfl rfl ?_
                          refine wl_unwanted rfl rfl rfl rfl rfl rfl rfl rfl ?_
                          refine wl_unwanted rfl rfl rfl rfl rfl rfl rfl rfl ?_
                          refine wl_unwanted rfl rfl rfl rfl rfl rfl rfl rfl ?_
                          refine wl_det rfl rfl rfl (op_pick_f rfl rfl) ?_
                          refine wl_det rfl rfl rfl (op_assign rfl) ?_
                          refine wl_nil ?_
                          refine st_tn ?_
                          refine w_cond_f (rfl) ?_
                          refine w_skip ?_
                          refine st_bn ?_
                          refine st_tn ?_
                          have h5 := fun (X Y : Bs) (H : Nat) => (fun h => by omega : ¬ (i % 16 ≠ 0 ∧ common X Y ≠ H))
                          refine w_region ?_
                          refine wl_det rfl rfl rfl (op_move rfl) ?_
                          refine wl_det rfl rfl rfl (op_move rfl) ?_
                          refine wl_op [] rfl rfl rfl rfl (op_buildSlice (enc := encT) (l := [_]) (lab := 103) tL22_1i rfl rfl (fun _ => rfl) rfl) ?_
                          rintro _ _ ⟨a103, c103, rfl, rfl⟩
                          refine wl_op [5] rfl rfl rfl rfl (op_append (lab := 5) (lab' := 104) rfl rfl tP22i enc1T (Sl.lab 103 rfl (by simp [maxLen])) (by simp; omega) (by simp; omega)) ?_
                          rintro _ _ ⟨a104, c104, rfl, rfl⟩
                          refine wl_det rfl rfl rfl (op_assign rfl) ?_
                          refine wl_nil ?_
                          refine st_bn ?_
                          refine st_tn ?_
                          refine w_region ?_
                          refine wl_det rfl rfl rfl (op_add' rfl rfl (by omega)) ?_
                          refine wl_det rfl rfl rfl (op_move rfl) ?_
                          refine wl_nil ?_
                          refine st_roundQ (x := ([], out, a_out, c_out, i)) ((r1.drop b1.toNat, _, _, _, i + 1)) [104] rfl (rfl) (.cons rfl (.cons rfl (.cons rfl (.nil _)))) (.cons rfl (.nil _)) (by
                              try dsimp only
                              refine ⟨by omega, by simp; omega, by simp; omega, ?_⟩
                              refine ⟨?_, fun z hz => ?_⟩
                              · rw [lastOf_snoc ho, ← hd]
                                exact (decR_ok hlt (hS.trans (dbody_6 (by omega) (by omega) (by omega) (by first | exact h4 | exact h4 _ _) (by first | exact h5 | exact h5 _ _ _)))).symm
                              · rcases List.mem_append.1 hz with hz | hz
                                · exact hsh z hz
                                · simp only [List.mem_singleton] at hz; subst hz; omega) (by
                              try dsimp only
                              omega) 
                    · -- 87 is False
                      omega
        · -- c32.f
          have hl : lastOf out i = [] := by unfold lastOf; rw [if_neg (by omega)]
          refine w_skip ?_
          refine st_tn ?_
          refine w_seq ?_
          refine w_region ?_
          refine wl_det rfl rfl rfl (op_move rfl) ?_
          refine wl_det rfl rfl rfl (op_remN rfl rfl (by omega) (by omega)) ?_
          refine wl_det rfl rfl rfl (op_neq rfl rfl) ?_
          refine wl_det rfl rfl rfl (op_assign rfl) ?_
          refine wl_nil ?_
          refine st_tn ?_
          refine w_seq ?_
          refine w_seq ?_
          refine w_region ?_
          refine wl_det rfl rfl rfl (op_move rfl) ?_
          refine wl_nil ?_
          refine st_tn ?_
          refine w_cond_d rfl (fun hc41 => ?_) (fun hc41 => ?_)
          · -- c41.t
            omega
          · -- c41.f
            obtain ⟨s1, rfl⟩ : ∃ s1, s1 = q := ⟨_, rfl⟩
            have hS : dStep i (lastOf out i) s1 = dBody i 0 [] s1 := by rw [hl]; exact dstep_0 (by omega)
            refine w_skip ?_
            refine st_tn ?_
            refine w_seq ?_
            refine w_seq ?_
            refine w_region ?_
            refine wl_det rfl rfl rfl (op_move rfl) ?_
            refine wl_det rfl rfl rfl (op_eqBs rfl rfl) ?_
            refine wl_det rfl rfl rfl (op_move rfl) ?_
            refine wl_gsplit (t := 51) rfl (fun hg51 => ?_) (fun hg51 => ?_)
            · -- 51 is True
              have hg51' : s1 = [] := hg51
              subst hg51'
              have hRe : R = ([], 4) := by rw [← hd]; exact decR_err hlt hS
              refine wl_unwanted rfl rfl rfl rfl rfl rfl rfl rfl ?_
              refine wl_unwanted rfl rfl rfl rfl rfl rfl rfl rfl ?_
              refine wl_unwanted rfl rfl rfl rfl rfl rfl rfl rfl ?_
              refine wl_unwanted rfl rfl rfl rfl rfl rfl rfl rfl ?_
              refine wl_unwanted rfl rfl rfl rfl rfl rfl rfl rfl ?_
              refine wl_unwanted rfl rfl rfl rfl rfl rfl rfl rfl ?_
              refine wl_unwanted rfl rfl rfl rfl rfl rfl rfl rfl ?_
              refine wl_det rfl rfl rfl (op_pick_t rfl rfl) ?_
              refine wl_nil ?_
              refine st_tn ?_
              refine w_cond_t (rfl) ?_
              refine w_seq ?_
              refine w_emp 74 (slO_nil 9 1) ?_
              refine w_region ?_
              refine wl_det rfl rfl rfl (op_assign rfl) ?_
              refine wl_det rfl rfl rfl (op_assign rfl) ?_
              refine wl_nil ?_
              refine st_tn ?_
              refine w_ret ?_
              refine st_tr ?_
              refine st_br ?_
              refine st_tr ?_
              refine st_tr ?_
              refine st_br ?_
              refine st_tr ?_
              refine st_ret (vs := [_, _]) [74] Try.results41 ⟨rfl, ⟨rfl, trivial⟩⟩ rfl ?_
              refine ⟨[(lab, _)], rfl, ?_⟩
              rw [hRe]; exact ⟨_, _, rfl, rfl⟩
            · -- 51 is False
              obtain ⟨b1, r1, rfl⟩ := List.exists_cons_of_ne_nil (show s1 ≠ [] from hg51)
              have hb1 : (b1 :: r1)[0]? = some b1 := rfl
              have hb1l := UInt8.toNat_lt b1
              simp only [List.length_cons] at hq
              refine wl_wanted_det rfl rfl rfl rfl rfl rfl rfl (op_move rfl) ?_
              refine wl_wanted_det rfl rfl rfl rfl rfl rfl rfl (op_lenBs rfl Try.underlying9) ?_
              refine wl_wanted_det rfl rfl rfl rfl rfl rfl rfl (op_move rfl) ?_
              refine wl_wanted_det rfl rfl rfl rfl rfl rfl rfl (op_idxBs rfl rfl Try.underlying9 (by assumption)) ?_
              refine wl_wanted_det rfl rfl rfl rfl rfl rfl rfl (op_convI64 rfl (by rw [Try.underlying5]; rfl) Try.underlying3 (by omega)) ?_
              refine wl_wanted_det rfl rfl rfl rfl rfl rfl rfl (op_add' rfl rfl (by omega)) ?_
              refine wl_wanted_det rfl rfl rfl rfl rfl rfl rfl (op_lss rfl rfl) ?_
              refine wl_det rfl rfl rfl (op_pick_f rfl rfl) ?_
              refine wl_nil ?_
              refine st_tn ?_
              refine w_cond_d rfl (fun hc59 => ?_) (fun hc59 => ?_)
              · -- c59.t
                have hRe : R = ([], 4) := by rw [← hd]; exact decR_err hlt (hS.trans (dbody_1 (by simp only [List.length_cons] at hc59; omega)))
                refine w_seq ?_
                refine w_emp 74 (slO_nil 9 1) ?_
                refine w_region ?_
                refine wl_det rfl rfl rfl (op_assign rfl) ?_
                refine wl_det rfl rfl rfl (op_assign rfl) ?_
                refine wl_nil ?_
                refine st_tn ?_
                refine w_ret ?_
                refine st_tr ?_
                refine st_br ?_
                refine st_tr ?_
                refine st_tr ?_
                refine st_br ?_
                refine st_tr ?_
                refine st_ret (vs := [_, _]) [74] Try.results41 ⟨rfl, ⟨rfl, trivial⟩⟩ rfl ?_
                refine ⟨[(lab, _)], rfl, ?_⟩
                rw [hRe]; exact ⟨_, _, rfl, rfl⟩
              · -- c59.f
                have h1 : ¬ r1.length < b1.toNat := by simp only [List.length_cons] at hc59; omega
                refine w_skip ?_
                refine st_tn ?_
                refine w_seq ?_
                refine w_region ?_
                refine wl_det rfl rfl rfl (op_move rfl) ?_
                refine wl_det rfl rfl rfl (op_move rfl) ?_
                refine wl_det rfl rfl rfl (op_idxBs rfl rfl Try.underlying9 (by assumption)) ?_
                refine wl_det rfl rfl rfl (op_convI64 rfl (by rw [Try.underlying5]; rfl) Try.underlying3 (by omega)) ?_
                refine wl_det rfl rfl rfl (op_val (v' := .int .i64 ((1 + b1.toNat : Nat) : Int)) (by rfl) (op_add' rfl rfl (by omega))) ?_
                refine wl_det rfl rfl rfl (op_val (v' := .string (str (r1.take b1.toNat))) (by rw [show ((b1 :: r1).take (1 + b1.toNat)).drop 1 = r1.take b1.toNat by rw [Nat.add_comm]; rfl]) (op_sliceBs rfl rfl rfl Try.underlying9 (by simp only [List.length_cons]; omega) (by simp only [List.length_cons]; omega))) ?_
                refine wl_det rfl rfl rfl (op_assign rfl) ?_
                refine wl_nil ?_
                refine st_tn ?_
                refine w_seq ?_
                refine w_region ?_
                refine wl_det rfl rfl rfl (op_move rfl) ?_
                refine wl_det rfl rfl rfl (op_move rfl) ?_
                refine wl_det rfl rfl rfl (op_lenBs rfl Try.underlying9) ?_
                refine wl_det rfl rfl rfl (op_val (v' := .int .i64 ((1 + b1.toNat : Nat) : Int)) (by congr 1; simp; omega) (op_add' rfl rfl (by simp; omega))) ?_
                refine wl_det rfl rfl rfl (op_val (v' := .string (str (r1.drop b1.toNat))) (by rw [show (b1 :: r1).drop (1 + b1.toNat) = r1.drop b1.toNat by rw [Nat.add_comm]; rfl]) (op_sliceLBs rfl rfl Try.underlying9 (by simp only [List.length_cons]; omega))) ?_
                refine wl_det rfl rfl rfl (op_assign rfl) ?_
                refine wl_nil ?_
                refine st_tn ?_
                refine w_seq ?_
                refine w_seq ?_
                refine w_region ?_
                refine wl_det rfl rfl rfl (op_move rfl) ?_
                refine wl_det rfl rfl rfl (op_move rfl) ?_
                refine wl_det rfl rfl rfl (op_lenBs rfl Try.underlying9) ?_
                refine wl_det rfl rfl rfl (op_gtr rfl rfl) ?_
                refine wl_nil ?_
                refine st_tn ?_
                refine w_cond_d rfl (fun hc74 => ?_) (fun hc74 => ?_)
                · -- c74.t
                  have hRe : R = ([], 3) := by rw [← hd]; exact decR_err hlt (hS.trans (dbody_2 h1 (by omega)))
                  refine w_seq ?_
                  refine w_emp 75 (slO_nil 9 1) ?_
                  refine w_region ?_
                  refine wl_det rfl rfl rfl (op_assign rfl) ?_
                  refine wl_det rfl rfl rfl (op_assign rfl) ?_
                  refine wl_nil ?_
                  refine st_tn ?_
                  refine w_ret ?_
                  refine st_tr ?_
                  refine st_br ?_
                  refine st_tr ?_
                  refine st_tr ?_
                  refine st_br ?_
                  refine st_tr ?_
                  refine st_ret (vs := [_, _]) [75] Try.results41 ⟨rfl, ⟨rfl, trivial⟩⟩ rfl ?_
                  refine ⟨[(lab, _)], rfl, ?_⟩
                  rw [hRe]; exact ⟨_, _, rfl, rfl⟩
                · -- c74.f
                  refine w_skip ?_
                  refine st_tn ?_
                  refine w_seq ?_
                  refine w_region ?_
                  refine wl_det rfl rfl rfl (op_move rfl) ?_
                  refine wl_det rfl rfl rfl (op_move rfl) ?_
                  refine wl_det rfl rfl rfl (op_sliceRBs rfl rfl Try.underlying9 (by omega)) ?_
                  refine wl_det rfl rfl rfl (op_move rfl) ?_
                  refine wl_det rfl rfl rfl (op_catBs rfl rfl (by simp; omega)) ?_
                  refine wl_det rfl rfl rfl (op_assign rfl) ?_
                  refine wl_nil ?_
                  refine st_tn ?_
                  refine w_seq ?_
                  refine w_block ?_
                  refine w_seq ?_
                  refine w_region ?_
                  refine wl_det rfl rfl rfl (op_move rfl) ?_
                  refine wl_det rfl rfl rfl (op_lenBs rfl Try.underlying9) ?_
                  refine wl_det rfl rfl rfl (op_gtr rfl rfl) ?_
                  refine wl_det rfl rfl rfl (op_assign rfl) ?_
                  refine wl_nil ?_
                  refine st_tn ?_
                  refine w_cond_d rfl (fun hc80 => ?_) (fun hc80 => ?_)
                  · -- c80.t
                    have hRe : R = ([], 5) := by rw [← hd]; exact decR_err hlt (hS.trans (dbody_3 h1 (by omega) (by omega)))
                    refine w_seq ?_
                    refine w_emp 76 (slO_nil 9 1) ?_
                    refine w_region ?_
                    refine wl_det rfl rfl rfl (op_assign rfl) ?_
                    refine wl_det rfl rfl rfl (op_assign rfl) ?_
                    refine wl_nil ?_
                    refine st_tn ?_
                    refine w_ret ?_
                    refine st_br ?_
                    refine st_tr ?_
                    refine st_br ?_
                    refine st_tr ?_
                    refine st_tr ?_
                    refine st_br ?_
                    refine st_tr ?_
                    refine st_ret (vs := [_, _]) [76] Try.results41 ⟨rfl, ⟨rfl, trivial⟩⟩ rfl ?_
                    refine ⟨[(lab, _)], rfl, ?_⟩
                    rw [hRe]; exact ⟨_, _, rfl, rfl⟩
                  · -- c80.f
                    refine w_seq ?_
                    refine w_region ?_
                    refine wl_det rfl rfl rfl (op_move rfl) ?_
                    refine wl_det rfl rfl rfl (op_gtr rfl rfl) ?_
                    refine wl_det rfl rfl rfl (op_move rfl) ?_
                    refine wl_gsplit (t := 87) rfl (fun hg87 => ?_) (fun hg87 => ?_)
                    · -- 87 is True
                      omega
                    · -- 87 is False
                      refine wl_unwanted rfl rfl rfl rfl rfl rfl rfl rfl ?_
                      refine wl_unwanted rfl rfl rfl rfl rfl rfl rfl rfl ?_
                      refine wl_unwanted rfl rfl rfl rfl rfl rfl rfl rfl ?_
                      refine wl_det rfl rfl rfl (op_pick_f rfl rfl) ?_
                      refine wl_det rfl rfl rfl (op_assign rfl) ?_
                      refine wl_nil ?_
                      refine st_tn ?_
                      refine w_cond_f (rfl) ?_
                      refine w_seq ?_
                      have h4 := fun (X Y : Bs) => (fun h => by omega : ¬ (0 < i ∧ X ≤ Y))
                      refine w_region ?_
                      refine wl_det rfl rfl rfl (op_move rfl) ?_
                      refine wl_det rfl rfl rfl (op_move rfl) ?_
                      refine wl_gsplit (t := 94) rfl (fun hg94 => ?_) (fun hg94 => ?_)
                      · -- 94 is True
                        omega
                      · -- 94 is False
                        refine wl_unwanted rfl rfl rfl rfl rfl rfl rfl rfl ?_
                        refine wl_unwanted rfl rfl rfl rfl rfl rfl rfl rfl ?_
                        refine wl_unwanted rfl rfl rfl rfl rfl rfl rfl rfl ?_
                        refine wl_unwanted rfl rfl rfl rfl rfl rfl rfl rfl ?_
                        refine wl_unwanted rfl rfl rfl rfl rfl rfl rfl rfl ?_
                        refine wl_det rfl rfl rfl (op_pick_f rfl rfl) ?_
                        refine wl_det rfl rfl rfl (op_assign rfl) ?_
                        refine wl_nil ?_
                        refine st_tn ?_
                        refine w_cond_f (rfl) ?_
                        refine w_skip ?_
                        refine st_bn ?_
                        refine st_tn ?_
                        have h5 := fun (X Y : Bs) (H : Nat) => (fun h => by omega : ¬ (i % 16 ≠ 0 ∧ common X Y ≠ H))
                        refine w_region ?_
                        refine wl_det rfl rfl rfl (op_move rfl) ?_
                        refine wl_det rfl rfl rfl (op_move rfl) ?_
                        refine wl_op [] rfl rfl rfl rfl (op_buildSlice (enc := encT) (l := [_]) (lab := 103) tL22_1i rfl rfl (fun _ => rfl) rfl) ?_
                        rintro _ _ ⟨a103, c103, rfl, rfl⟩
                        refine wl_op [5] rfl rfl rfl rfl (op_append (lab := 5) (lab' := 104) rfl rfl tP22i enc1T (Sl.lab 103 rfl (by simp [maxLen])) (by simp; omega) (by simp; omega)) ?_
                        rintro _ _ ⟨a104, c104, rfl, rfl⟩
                        refine wl_det rfl rfl rfl (op_assign rfl) ?_
                        refine wl_nil ?_
                        refine st_bn ?_
                        refine st_tn ?_
                        refine w_region ?_
                        refine wl_det rfl rfl rfl (op_add' rfl rfl (by omega)) ?_
                        refine wl_det rfl rfl rfl (op_move rfl) ?_
                        refine wl_nil ?_
                        refine st_roundQ (x := ([], out, a_out, c_out, i)) ((r1.drop b1.toNat, _, _, _, i + 1)) [104] rfl (rfl) (.cons rfl (.cons rfl (.cons rfl (.nil _)))) (.cons rfl (.nil _)) (by
                            try dsimp only
                            refine ⟨by omega, by simp; omega, by simp; omega, ?_⟩
                            refine ⟨?_, fun z hz => ?_⟩
                            · rw [lastOf_snoc ho, ← hd]
                              exact (decR_ok hlt (hS.trans (dbody_6 (by omega) (by omega) (by omega) (by first | exact h4 | exact h4 _ _) (by first | exact h5 | exact h5 _ _ _)))).symm
                            · rcases List.mem_append.1 hz with hz | hz
                              · exact hsh z hz
                              · simp only [List.mem_singleton] at hz; subst hz; omega) (by
                            try dsimp only
                            omega) 
      · -- c29.f
        refine w_exit ?_
        refine st_te ?_
        refine st_te ?_
        refine st_be ?_
        refine st_tn ?_
        refine w_seq ?_
        refine w_seq ?_
        refine w_region ?_
        refine wl_det rfl rfl rfl (op_move rfl) ?_
        refine wl_det rfl rfl rfl (op_neBs rfl rfl) ?_
        refine wl_nil ?_
        refine st_tn ?_
        refine w_cond_d rfl (fun hc107 => ?_) (fun hc107 => ?_)
        · -- c107.t
          have hRe : R = ([], 3) := by rw [← hd, show n - i = 0 by omega]; unfold decR; rw [if_neg hc107]
          refine w_seq ?_
          refine w_emp 79 (slO_nil 9 1) ?_
          refine w_region ?_
          refine wl_det rfl rfl rfl (op_assign rfl) ?_
          refine wl_det rfl rfl rfl (op_assign rfl) ?_
          refine wl_nil ?_
          refine st_tn ?_
          refine w_ret ?_
          refine st_tr ?_
          refine st_ret (vs := [_, _]) [79] Try.results41 ⟨rfl, ⟨rfl, trivial⟩⟩ rfl ?_
          refine ⟨[(lab, _)], rfl, ?_⟩
          rw [hRe]; exact ⟨_, _, rfl, rfl⟩
        · -- c107.f
          have hq0 : q = [] := Classical.not_not.1 hc107
          have hRe : R = (out, 0) := by rw [← hd, show n - i = 0 by omega, hq0]; rfl
          refine w_skip ?_
          refine st_tn ?_
          refine w_seq ?_
          refine w_region ?_
          refine wl_det rfl rfl rfl (op_move rfl) ?_
          refine wl_det rfl rfl rfl (op_assign rfl) ?_
          refine wl_det rfl rfl rfl (op_assign rfl) ?_
          refine wl_nil ?_
          refine st_tn ?_
          refine w_ret ?_
          refine st_ret (vs := [_, _]) [5] Try.results41 ⟨rfl, ⟨rfl, trivial⟩⟩ rfl ?_
          refine ⟨[(lab, _)], rfl, ?_⟩
          rw [hRe]; exact ⟨_, _, rfl, rfl⟩

set_option maxHeartbeats 800000 in
set_option maxRecDepth 100000 in
theorem rdec_any {σ : World} {F : List Res} (lab : Nat) (s : Bs) (hs : s.length ≤ 1099511627776) :
    FnT Try.prog σ F 43 [.string (str s)] [] (NewE (dec s).1 (dec s).2 lab) := by
  refine fn_of 106 Try.func43 rfl Try.ntmps43 rfl ?_
  refine w_seq ?_
  refine w_region ?_
  refine wl_det rfl rfl rfl (op_assign rfl) ?_
  refine wl_det rfl rfl rfl (op_assign rfl) ?_
  refine wl_nil ?_
  refine st_tn ?_
  refine w_seq ?_
  by_cases hA : 2 ≤ s.length
  · -- hA+
    obtain ⟨a, b, r, rfl⟩ : ∃ a b r, s = a :: b :: r := by
      match s, hA with
      | [], h => simp at h
      | [a], h => simp at h
      | a :: b :: r, _ => exact ⟨a, b, r, rfl⟩
    have ha0 : [a, b][0]? = some a := rfl
    have hb0 : [a, b][1]? = some b := rfl
    have hal := UInt8.toNat_lt a
    have hbl := UInt8.toNat_lt b
    simp only [List.length_cons] at hs
    refine w_region ?_
    refine wl_det rfl rfl rfl (op_move rfl) ?_
    refine wl_det rfl rfl rfl (op_val (v' := .tuple #[.string (str [a, b]), .string (str r), .bool true]) (by rw [if_pos hA, if_pos hA, decide_eq_true hA]; rfl) (op_fn Try.func53 rfl rfl rfl (take_any _ 2 (by omega)))) ?_
    refine wl_det rfl rfl rfl (op_move rfl) ?_
    refine wl_det rfl rfl rfl (op_extract rfl rfl) ?_
    refine wl_det rfl rfl rfl (op_extract rfl rfl) ?_
    refine wl_det rfl rfl rfl (op_val (v' := .bool true) (by rfl) (op_extract rfl rfl)) ?_
    refine wl_det rfl rfl rfl (op_assign rfl) ?_
    refine wl_det rfl rfl rfl (op_assign rfl) ?_
    refine wl_det rfl rfl rfl (op_assign rfl) ?_
    refine wl_nil ?_
    refine st_tn ?_
    refine w_seq ?_
    refine w_seq ?_
    refine w_region ?_
    refine wl_det rfl rfl rfl (op_move rfl) ?_
    refine wl_det rfl rfl rfl (op_not_t rfl) ?_
    refine wl_nil ?_
    refine st_tn ?_
    refine w_cond_f (rfl) ?_
    refine w_skip ?_
    refine st_tn ?_
    refine w_seq ?_
    refine w_drawW (fun β => [⟨21, [], [], [], noW (_), false, [], []⟩, ⟨22, [0], [], [], noW (_), false, [], []⟩, ⟨23, [1], [], [], noW (_), false, [], []⟩, ⟨24, [2], [], [], noW (_), false, [], []⟩, ⟨25, [], [], [], noW (_), false, [], []⟩, ⟨26, [4], [], [], noW (_), false, [], []⟩, ⟨27, [5], [], [], noW (_), false, [], []⟩]) [] [4] [⟨21, [], [], false, [], []⟩, ⟨22, [0], [], false, [], []⟩, ⟨23, [1], [], false, [], []⟩, ⟨24, [2], [], false, [], []⟩, ⟨25, [], [], false, [], []⟩, ⟨26, [4], [], false, [], []⟩, ⟨27, [5], [], false, [], []⟩] [[], [], [], [], [], [], []] [[], [], [], [], [], [], []] tMixi (fun _ => by rfl) (fun _ => by rfl) (by kernel_rfl) (by kernel_rfl) (by rfl) (by rfl)
        (fun β => ⟨.p rfl (by intro X; exact op_move rfl),
        ⟨.p rfl (by intro X; rintro _ _ ⟨rfl, rfl⟩; exact op_idxBs rfl rfl Try.underlying9 (by assumption)),
        ⟨.p rfl (by intro X; rintro _ _ ⟨rfl, rfl⟩; exact op_convI64 rfl (by rw [Try.underlying5]; rfl) Try.underlying3 (by omega)),
        ⟨.p rfl (by intro X; rintro _ _ ⟨rfl, rfl⟩; exact op_mul' rfl rfl (by omega)),
        ⟨.p rfl (by intro X; exact op_move rfl),
        ⟨.p rfl (by intro X; rintro _ _ ⟨rfl, rfl⟩; exact op_idxBs rfl rfl Try.underlying9 (by assumption)),
        ⟨.p rfl (by intro X; rintro _ _ ⟨rfl, rfl⟩; exact op_convI64 rfl (by rw [Try.underlying5]; rfl) Try.underlying3 (by omega)),
        trivial⟩⟩⟩⟩⟩⟩⟩)
        (fun β β' => ⟨fun _ => by rfl, ⟨fun _ => by rfl, ⟨fun _ => by rfl, ⟨fun _ => by rfl, ⟨fun _ => by rfl, ⟨fun _ => by rfl, ⟨fun _ => by rfl, trivial⟩⟩⟩⟩⟩⟩⟩) ?_
    intro β
    rintro _ _ ⟨rfl, rfl⟩ _ _ ⟨rfl, rfl⟩ _ _ ⟨rfl, rfl⟩ _ _ ⟨rfl, rfl⟩ _ _ ⟨rfl, rfl⟩ _ _ ⟨rfl, rfl⟩ _ _ ⟨rfl, rfl⟩
    refine wl_norm (e' := [(5, _), (24, _), (27, _)]) (.cons rfl (.cons rfl (.cons rfl (.nil _)))) (by dsimp only [cond_false, cond_true, List.nil_append, List.cons_append]) ?_
    refine wl_det rfl rfl rfl (op_add' rfl rfl (by omega)) ?_
    refine wl_det rfl rfl rfl (op_val (v' := .int .i64 ((a.toNat * 256 + b.toNat : Nat) : Int)) (by congr 1; omega) (op_assign rfl)) ?_
    refine wl_nil ?_
    refine st_tn ?_
    refine w_seq ?_
    refine w_seq ?_
    refine w_region ?_
    refine wl_det rfl rfl rfl (op_move rfl) ?_
    refine wl_det rfl rfl rfl (op_gtr rfl rfl) ?_
    refine wl_nil ?_
    refine st_tn ?_
    refine w_cond_d rfl (fun hc30 => ?_) (fun hc30 => ?_)
    · -- c30.t
      refine w_seq ?_
      refine w_emp 72 (slO_nil 9 1) ?_
      have hdec : dec (a :: b :: r) = ([], 6) := by unfold dec; simp only; rw [if_pos (by omega)]
      refine w_region ?_
      refine wl_det rfl rfl rfl (op_assign rfl) ?_
      refine wl_det rfl rfl rfl (op_assign rfl) ?_
      refine wl_nil ?_
      refine st_tn ?_
      refine w_ret ?_
      refine st_tr ?_
      refine st_ret (vs := [_, _]) [72] Try.results43 ⟨rfl, ⟨rfl, trivial⟩⟩ rfl ?_
      refine ⟨[(lab, _)], rfl, ?_⟩
      rw [hdec]; exact ⟨none, 0, rfl, rfl⟩
    · -- c30.f
      have hdec0 : dec (a :: b :: r) = decR (a.toNat * 256 + b.toNat) 0 [] r [] := by
        conv => lhs; unfold dec
        simp only; rw [if_neg (by omega)]
      obtain ⟨n, hn⟩ : ∃ n, n = a.toNat * 256 + b.toNat := ⟨_, rfl⟩
      rw [← hn] at hdec0 ⊢
      obtain ⟨R, hR⟩ : ∃ R, R = dec (a :: b :: r) := ⟨_, rfl⟩
      rw [← hR] at hdec0 ⊢
      refine w_skip ?_
      refine st_tn ?_
      refine w_seq ?_
      refine w_region ?_
      refine wl_det rfl rfl rfl (op_assign rfl) ?_
      refine wl_nil ?_
      refine st_tn ?_
      refine w_seq ?_
      refine w_region ?_
      refine wl_det rfl rfl rfl (op_assign rfl) ?_
      refine wl_nil ?_
      refine st_tn ?_
      refine w_seq ?_
      refine w_seq ?_
      refine w_region ?_
      refine wl_det rfl rfl rfl (op_assign rfl) ?_
      refine wl_nil ?_
      refine st_tn ?_
      refine w_block ?_
      refine w_emp 8 (slO_nil 9 1) ?_
      refine w_loopQ (X := List UInt8 × List (List UInt8) × Option Addr × Nat × List UInt8 × Nat) (fun z => z.2.2.2.2.2 ≤ n ∧ z.2.1.length = z.2.2.2.2.2 ∧ z.1.length ≤ 1099511627776 ∧ decR (n - z.2.2.2.2.2) z.2.2.2.2.2 z.2.2.2.2.1 z.1 z.2.1 = R ∧ z.2.2.2.2.1.length ≤ 255) (fun z => [(5, .string (str (z.1))), (8, .slice (z.2.2.1) (z.2.1).length (z.2.2.2.1)), (9, .string (str (z.2.2.2.2.1))), (10, .int .i64 (z.2.2.2.2.2))]) (fun z => [(8, slW 9 encT 1 (.slice (z.2.2.1) (z.2.1).length (z.2.2.2.1)) (z.2.1))]) (fun z => n - z.2.2.2.2.2) ((r, [], none, 0, [], 0)) [(7, _)] [] [8] rfl (rfl) (.cons rfl (.cons rfl (.cons rfl (.cons rfl (.nil _))))) (.cons rfl (.nil _)) (by
          try dsimp only
          exact ⟨Nat.zero_le _, rfl, by omega, hdec0.symm, by simp⟩) ?_
      rintro ⟨q, out, a_out, c_out, y, i⟩ ⟨hi, ho, hq, hd, hyl⟩
      refine w_norm2 (by dsimp only [List.cons_append, List.nil_append]) (by dsimp only [List.cons_append, List.nil_append]) ?_
      try dsimp only at hi ho hq hd hyl ⊢
      refine w_seq ?_
      refine w_seq ?_
      refine w_region ?_
      refine wl_det rfl rfl rfl (op_move rfl) ?_
      refine wl_det rfl rfl rfl (op_move rfl) ?_
      refine wl_det rfl rfl rfl (op_lss rfl rfl) ?_
      refine wl_nil ?_
      refine st_tn ?_
      refine w_cond_d rfl (fun hc33 => ?_) (fun hc33 => ?_)
      · -- c33.t
        have hlt : i < n := by omega
        refine w_skip ?_
        refine st_tn ?_
        refine w_seq ?_
        refine w_block ?_
        refine w_seq ?_
        refine w_region ?_
        refine wl_det rfl rfl rfl (op_val (v' := .int .i64 ((0 : Nat) : Int)) (by rfl) (op_assign rfl)) ?_
        refine wl_nil ?_
        refine st_tn ?_
        refine w_seq ?_
        refine w_seq ?_
        refine w_region ?_
        refine wl_det rfl rfl rfl (op_move rfl) ?_
        refine wl_det rfl rfl rfl (op_remN rfl rfl (by omega) (by omega)) ?_
        refine wl_det rfl rfl rfl (op_neq rfl rfl) ?_
        refine wl_nil ?_
        refine st_tn ?_
        refine w_cond_d rfl (fun hc38 => ?_) (fun hc38 => ?_)
        · -- c38.t
          refine w_seq ?_
          refine w_seq ?_
          by_cases hB : 1 ≤ q.length
          · -- hB+
            obtain ⟨g, s1, rfl⟩ := List.exists_cons_of_ne_nil (show q ≠ [] from fun h => by subst h; simp at hB)
            have hg0 : [g][0]? = some g := rfl
            have hgl := UInt8.toNat_lt g
            simp only [List.length_cons] at hq
            have hS : dStep i y (g :: s1) = dBody i g.toNat y s1 := dstep_g (by omega)
            refine w_region ?_
            refine wl_det rfl rfl rfl (op_move rfl) ?_
            refine wl_det rfl rfl rfl (op_val (v' := .tuple #[.string (str [g]), .string (str s1), .bool true]) (by rw [if_pos hB, if_pos hB, decide_eq_true hB]; rfl) (op_fn Try.func53 rfl rfl rfl (take_any _ 1 (by omega)))) ?_
            refine wl_det rfl rfl rfl (op_move rfl) ?_
            refine wl_det rfl rfl rfl (op_extract rfl rfl) ?_
            refine wl_det rfl rfl rfl (op_extract rfl rfl) ?_
            refine wl_det rfl rfl rfl (op_val (v' := .bool true) (by rfl) (op_extract rfl rfl)) ?_
            refine wl_det rfl rfl rfl (op_assign rfl) ?_
            refine wl_det rfl rfl rfl (op_assign rfl) ?_
            refine wl_det rfl rfl rfl (op_assign rfl) ?_
            refine wl_nil ?_
            refine st_tn ?_
            refine w_seq ?_
            refine w_region ?_
            refine wl_det rfl rfl rfl (op_move rfl) ?_
            refine wl_det rfl rfl rfl (op_not_t rfl) ?_
            refine wl_nil ?_
            refine st_tn ?_
            refine w_cond_f (rfl) ?_
            refine w_skip ?_
            refine st_tn ?_
            refine w_region ?_
            refine wl_det rfl rfl rfl (op_move rfl) ?_
            refine wl_det rfl rfl rfl (op_idxBs rfl rfl Try.underlying9 (by assumption)) ?_
            refine wl_det rfl rfl rfl (op_convI64 rfl (by rw [Try.underlying5]; rfl) Try.underlying3 (by omega)) ?_
            refine wl_det rfl rfl rfl (op_assign rfl) ?_
            refine wl_nil ?_
            refine st_tn ?_
            refine w_seq ?_
            refine w_seq ?_
            by_cases hC : 1 ≤ s1.length
            · -- hC+
              obtain ⟨b1, r1, rfl⟩ := List.exists_cons_of_ne_nil (show s1 ≠ [] from fun h => by subst h; simp at hC)
              have hb1 : [b1][0]? = some b1 := rfl
              have hb1l := UInt8.toNat_lt b1
              simp only [List.length_cons] at hq
              refine w_region ?_
              refine wl_det rfl rfl rfl (op_move rfl) ?_
              refine wl_det rfl rfl rfl (op_val (v' := .tuple #[.string (str [b1]), .string (str r1), .bool true]) (by rw [if_pos hC, if_pos hC, decide_eq_true hC]; rfl) (op_fn Try.func53 rfl rfl rfl (take_any _ 1 (by omega)))) ?_
              refine wl_det rfl rfl rfl (op_move rfl) ?_
              refine wl_det rfl rfl rfl (op_extract rfl rfl) ?_
              refine wl_det rfl rfl rfl (op_extract rfl rfl) ?_
              refine wl_det rfl rfl rfl (op_val (v' := .bool true) (by rfl) (op_extract rfl rfl)) ?_
              refine wl_det rfl rfl rfl (op_assign rfl) ?_
              refine wl_det rfl rfl rfl (op_assign rfl) ?_
              refine wl_det rfl rfl rfl (op_assign rfl) ?_
              refine wl_nil ?_
              refine st_tn ?_
              refine w_seq ?_
              refine w_region ?_
              refine wl_det rfl rfl rfl (op_move rfl) ?_
              refine wl_det rfl rfl rfl (op_not_t rfl) ?_
              refine wl_nil ?_
              refine st_tn ?_
              refine w_cond_f (rfl) ?_
              refine w_skip ?_
              refine st_tn ?_
              refine w_seq ?_
              refine w_seq ?_
              by_cases hD : b1.toNat ≤ r1.length
              · -- hD+
                have h1 : ¬ r1.length < b1.toNat := by omega
                refine w_region ?_
                refine wl_det rfl rfl rfl (op_move rfl) ?_
                refine wl_det rfl rfl rfl (op_move rfl) ?_
                refine wl_det rfl rfl rfl (op_idxBs rfl rfl Try.underlying9 (by assumption)) ?_
                refine wl_det rfl rfl rfl (op_convI64 rfl (by rw [Try.underlying5]; rfl) Try.underlying3 (by omega)) ?_
                refine wl_det rfl rfl rfl (op_val (v' := .tuple #[.string (str (r1.take b1.toNat)), .string (str (r1.drop b1.toNat)), .bool true]) (by rw [if_pos hD, if_pos hD, decide_eq_true hD]) (op_fn Try.func53 rfl rfl rfl (take_any _ b1.toNat (by omega)))) ?_
                refine wl_det rfl rfl rfl (op_move rfl) ?_
                refine wl_det rfl rfl rfl (op_extract rfl rfl) ?_
                refine wl_det rfl rfl rfl (op_extract rfl rfl) ?_
                refine wl_det rfl rfl rfl (op_val (v' := .bool true) (by rfl) (op_extract rfl rfl)) ?_
                refine wl_det rfl rfl rfl (op_assign rfl) ?_
                refine wl_det rfl rfl rfl (op_assign rfl) ?_
                refine wl_det rfl rfl rfl (op_assign rfl) ?_
                refine wl_nil ?_
                refine st_tn ?_
                refine w_seq ?_
                refine w_region ?_
                refine wl_det rfl rfl rfl (op_move rfl) ?_
                refine wl_det rfl rfl rfl (op_not_t rfl) ?_
                refine wl_nil ?_
                refine st_tn ?_
                refine w_cond_f (rfl) ?_
                refine w_skip ?_
                refine st_tn ?_
                refine w_seq ?_
                refine w_seq ?_
                refine w_region ?_
                refine wl_det rfl rfl rfl (op_move rfl) ?_
                refine wl_det rfl rfl rfl (op_move rfl) ?_
                refine wl_det rfl rfl rfl (op_lenBs rfl Try.underlying9) ?_
                refine wl_det rfl rfl rfl (op_gtr rfl rfl) ?_
                refine wl_nil ?_
                refine st_tn ?_
                refine w_cond_d rfl (fun hc72 => ?_) (fun hc72 => ?_)
                · -- c72.t
                  have hRe : R = ([], 3) := by rw [← hd]; exact decR_err hlt (hS.trans (dbody_2 h1 (by omega)))
                  refine w_seq ?_
                  refine w_emp 76 (slO_nil 9 1) ?_
                  refine w_region ?_
                  refine wl_det rfl rfl rfl (op_assign rfl) ?_
                  refine wl_det rfl rfl rfl (op_assign rfl) ?_
                  refine wl_nil ?_
                  refine st_tn ?_
                  refine w_ret ?_
                  refine st_tr ?_
                  refine st_br ?_
                  refine st_tr ?_
                  refine st_tr ?_
                  refine st_br ?_
                  refine st_tr ?_
                  refine st_ret (vs := [_, _]) [76] Try.results43 ⟨rfl, ⟨rfl, trivial⟩⟩ rfl ?_
                  refine ⟨[(lab, _)], rfl, ?_⟩
                  rw [hRe]; exact ⟨_, _, rfl, rfl⟩
                · -- c72.f
                  refine w_skip ?_
                  refine st_tn ?_
                  refine w_seq ?_
                  refine w_region ?_
                  refine wl_det rfl rfl rfl (op_move rfl) ?_
                  refine wl_det rfl rfl rfl (op_move rfl) ?_
                  refine wl_det rfl rfl rfl (op_sliceRBs rfl rfl Try.underlying9 (by omega)) ?_
                  refine wl_det rfl rfl rfl (op_move rfl) ?_
                  refine wl_det rfl rfl rfl (op_catBs rfl rfl (by simp; omega)) ?_
                  refine wl_det rfl rfl rfl (op_assign rfl) ?_
                  refine wl_nil ?_
                  refine st_tn ?_
                  refine w_seq ?_
                  refine w_seq ?_
                  refine w_region ?_
                  refine wl_det rfl rfl rfl (op_move rfl) ?_
                  refine wl_det rfl rfl rfl (op_lenBs rfl Try.underlying9) ?_
                  refine wl_det rfl rfl rfl (op_gtr rfl rfl) ?_
                  refine wl_nil ?_
                  refine st_tn ?_
                  refine w_cond_d rfl (fun hc80 => ?_) (fun hc80 => ?_)
                  · -- c80.t
                    have hRe : R = ([], 5) := by rw [← hd]; exact decR_err hlt (hS.trans (dbody_3 h1 (by omega) (by omega)))
                    refine w_seq ?_
                    refine w_emp 77 (slO_nil 9 1) ?_
                    refine w_region ?_
                    refine wl_det rfl rfl rfl (op_assign rfl) ?_
                    refine wl_det rfl rfl rfl (op_assign rfl) ?_
                    refine wl_nil ?_
                    refine st_tn ?_
                    refine w_ret ?_
                    refine st_tr ?_
                    refine st_br ?_
                    refine st_tr ?_
                    refine st_tr ?_
                    refine st_br ?_
                    refine st_tr ?_
                    refine st_ret (vs := [_, _]) [77] Try.results43 ⟨rfl, ⟨rfl, trivial⟩⟩ rfl ?_
                    refine ⟨[(lab, _)], rfl, ?_⟩
                    rw [hRe]; exact ⟨_, _, rfl, rfl⟩
                  · -- c80.f
                    refine w_skip ?_
                    refine st_tn ?_
                    refine w_seq ?_
                    refine w_seq ?_
                    refine w_region ?_
                    refine wl_det rfl rfl rfl (op_move rfl) ?_
                    refine wl_det rfl rfl rfl (op_gtr rfl rfl) ?_
                    refine wl_det rfl rfl rfl (op_move rfl) ?_
                    refine wl_gsplit (t := 83) rfl (fun hg83 => ?_) (fun hg83 => ?_)
                    · -- 83 is True
                      refine wl_wanted_det rfl rfl rfl rfl rfl rfl rfl (op_move rfl) ?_
                      refine wl_wanted_det rfl rfl rfl rfl rfl rfl rfl (op_move rfl) ?_
                      refine wl_wanted_det rfl rfl rfl rfl rfl rfl rfl (op_leBs rfl rfl) ?_
                      refine wl_det rfl rfl rfl (op_pick_t rfl rfl) ?_
                      refine wl_nil ?_
                      refine st_tn ?_
                      refine w_cond_d rfl (fun hc87 => ?_) (fun hc87 => ?_)
                      · -- c87.t
                        have hRe : R = ([], 8) := by rw [← hd]; exact decR_err hlt (hS.trans (dbody_4 h1 (by omega) (by omega) ⟨by omega, hc87⟩))
                        refine w_seq ?_
                        refine w_emp 78 (slO_nil 9 1) ?_
                        refine w_region ?_
                        refine wl_det rfl rfl rfl (op_assign rfl) ?_
                        refine wl_det rfl rfl rfl (op_assign rfl) ?_
                        refine wl_nil ?_
                        refine st_tn ?_
                        refine w_ret ?_
                        refine st_tr ?_
                        refine st_br ?_
                        refine st_tr ?_
                        refine st_tr ?_
                        refine st_br ?_
                        refine st_tr ?_
                        refine st_ret (vs := [_, _]) [78] Try.results43 ⟨rfl, ⟨rfl, trivial⟩⟩ rfl ?_
                        refine ⟨[(lab, _)], rfl, ?_⟩
                        rw [hRe]; exact ⟨_, _, rfl, rfl⟩
                      · -- c87.f
                        have h4 : ¬ (0 < i ∧ y.take g.toNat ++ r1.take b1.toNat ≤ y) := fun h => hc87 h.2
                        refine w_skip ?_
                        refine st_tn ?_
                        refine w_seq ?_
                        refine w_seq ?_
                        refine w_region ?_
                        refine wl_det rfl rfl rfl (op_move rfl) ?_
                        refine wl_det rfl rfl rfl (op_remN rfl rfl (by omega) (by omega)) ?_
                        refine wl_det rfl rfl rfl (op_neq rfl rfl) ?_
                        refine wl_det rfl rfl rfl (op_move rfl) ?_
                        refine wl_gsplit (t := 91) rfl (fun hg91 => ?_) (fun hg91 => ?_)
                        · -- 91 is True
                          refine wl_wanted_det rfl rfl rfl rfl rfl rfl rfl (op_move rfl) ?_
                          refine wl_wanted_det rfl rfl rfl rfl rfl rfl rfl (op_move rfl) ?_
                          refine wl_wanted_det rfl rfl rfl rfl rfl rfl rfl (op_fn Try.func52 rfl rfl rfl (rcommon_any _ _ (by omega))) ?_
                          refine wl_wanted_det rfl rfl rfl rfl rfl rfl rfl (op_move rfl) ?_
                          refine wl_wanted_det rfl rfl rfl rfl rfl rfl rfl (op_neq rfl rfl) ?_
                          refine wl_det rfl rfl rfl (op_pick_t rfl rfl) ?_
                          refine wl_nil ?_
                          refine st_tn ?_
                          refine w_cond_d rfl (fun hc97 => ?_) (fun hc97 => ?_)
                          · -- c97.t
                            have hRe : R = ([], 3) := by rw [← hd]; exact decR_err hlt (hS.trans (dbody_5 h1 (by omega) (by omega) (by first | exact h4 | exact h4 _ _) ⟨by omega, by omega⟩))
                            refine w_seq ?_
                            refine w_emp 79 (slO_nil 9 1) ?_
                            refine w_region ?_
                            refine wl_det rfl rfl rfl (op_assign rfl) ?_
                            refine wl_det rfl rfl rfl (op_assign rfl) ?_
                            refine wl_nil ?_
                            refine st_tn ?_
                            refine w_ret ?_
                            refine st_tr ?_
                            refine st_br ?_
                            refine st_tr ?_
                            refine st_tr ?_
                            refine st_br ?_
                            refine st_tr ?_
                            refine st_ret (vs := [_, _]) [79] Try.results43 ⟨rfl, ⟨rfl, trivial⟩⟩ rfl ?_
                            refine ⟨[(lab, _)], rfl, ?_⟩
                            rw [hRe]; exact ⟨_, _, rfl, rfl⟩
                          · -- c97.f
                            refine w_skip ?_
                            refine st_tn ?_
                            have h5 : ¬ (i % 16 ≠ 0 ∧ common y (y.take g.toNat ++ r1.take b1.toNat) ≠ g.toNat) := fun h => by omega
                            refine w_region ?_
                            refine wl_det rfl rfl rfl (op_move rfl) ?_
                            refine wl_det rfl rfl rfl (op_move rfl) ?_
                            refine wl_op [] rfl rfl rfl rfl (op_buildSlice (enc := encT) (l := [_]) (lab := 100) tL22_1i rfl rfl (fun _ => rfl) rfl) ?_
                            rintro _ _ ⟨a100, c100, rfl, rfl⟩
                            refine wl_op [8] rfl rfl rfl rfl (op_append (lab := 8) (lab' := 101) rfl rfl tP22i enc1T (Sl.lab 100 rfl (by simp [maxLen])) (by simp; omega) (by simp; omega)) ?_
                            rintro _ _ ⟨a101, c101, rfl, rfl⟩
                            refine wl_det rfl rfl rfl (op_move rfl) ?_
                            refine wl_det rfl rfl rfl (op_assign rfl) ?_
                            refine wl_det rfl rfl rfl (op_assign rfl) ?_
                            refine wl_nil ?_
                            refine st_bn ?_
                            refine st_tn ?_
                            refine w_region ?_
                            refine wl_det rfl rfl rfl (op_move rfl) ?_
                            refine wl_det rfl rfl rfl (op_add' rfl rfl (by omega)) ?_
                            refine wl_det rfl rfl rfl (op_assign rfl) ?_
                            refine wl_nil ?_
                            refine st_roundQ (x := ([], out, a_out, c_out, [], i)) ((r1.drop b1.toNat, _, _, _, _, i + 1)) [101] rfl (rfl) (.cons rfl (.cons rfl (.cons rfl (.cons rfl (.nil _))))) (.cons rfl (.nil _)) (by
                                try dsimp only
                                refine ⟨by omega, by simp; omega, by simp; omega, ?_, by omega⟩
                                rw [← hd]
                                exact (decR_ok hlt (hS.trans (dbody_6 (by omega) (by omega) (by omega) (by first | exact h4 | exact h4 _ _) (by first | exact h5 | exact h5 _ _ _)))).symm) (by
                                try dsimp only
                                omega) 
                        · -- 91 is False
                          omega
                    · -- 83 is False
                      have h4 := fun (X Y : Bs) => (fun h => by omega : ¬ (0 < i ∧ X ≤ Y))
                      refine wl_unwanted rfl rfl rfl rfl rfl rfl rfl rfl ?_
                      refine wl_unwanted rfl rfl rfl rfl rfl rfl rfl rfl ?_
                      refine wl_unwanted rfl rfl rfl rfl rfl rfl rfl rfl ?_
                      refine wl_det rfl rfl rfl (op_pick_f rfl rfl) ?_
                      refine wl_nil ?_
                      refine st_tn ?_
                      refine w_cond_f (rfl) ?_
                      refine w_skip ?_
                      refine st_tn ?_
                      refine w_seq ?_
                      refine w_seq ?_
                      refine w_region ?_
                      refine wl_det rfl rfl rfl (op_move rfl) ?_
                      refine wl_det rfl rfl rfl (op_remN rfl rfl (by omega) (by omega)) ?_
                      refine wl_det rfl rfl rfl (op_neq rfl rfl) ?_
                      refine wl_det rfl rfl rfl (op_move rfl) ?_
                      refine wl_gsplit (t := 91) rfl (fun hg91 => ?_) (fun hg91 => ?_)
                      · -- 91 is True
                        refine wl_wanted_det rfl rfl rfl rfl rfl rfl rfl (op_move rfl) ?_
                        refine wl_wanted_det rfl rfl rfl rfl rfl rfl rfl (op_move rfl) ?_
                        refine wl_wanted_det rfl rfl rfl rfl rfl rfl rfl (op_fn Try.func52 rfl rfl rfl (rcommon_any _ _ (by omega))) ?_
                        refine wl_wanted_det rfl rfl rfl rfl rfl rfl rfl (op_move rfl) ?_
                        refine wl_wanted_det rfl rfl rfl rfl rfl rfl rfl (op_neq rfl rfl) ?_
                        refine wl_det rfl rfl rfl (op_pick_t rfl rfl) ?_
                        refine wl_nil ?_
                        refine st_tn ?_
                        refine w_cond_d rfl (fun hc97 => ?_) (fun hc97 => ?_)
                        · -- c97.t
                          have hRe : R = ([], 3) := by rw [← hd]; exact decR_err hlt (hS.trans (dbody_5 h1 (by omega) (by omega) (by first | exact h4 | exact h4 _ _) ⟨by omega, by omega⟩))
                          refine w_seq ?_
                          refine w_emp 79 (slO_nil 9 1) ?_
                          refine w_region ?_
                          refine wl_det rfl rfl rfl (op_assign rfl) ?_
                          refine wl_det rfl rfl rfl (op_assign rfl) ?_
                          refine wl_nil ?_
                          refine st_tn ?_
                          refine w_ret ?_
                          refine st_tr ?_
                          refine st_br ?_
                          refine st_tr ?_
                          refine st_tr ?_
                          refine st_br ?_
                          refine st_tr ?_
                          refine st_ret (vs := [_, _]) [79] Try.results43 ⟨rfl, ⟨rfl, trivial⟩⟩ rfl ?_
                          refine ⟨[(lab, _)], rfl, ?_⟩
                          rw [hRe]; exact ⟨_, _, rfl, rfl⟩
                        · -- c97.f
                          refine w_skip ?_
                          refine st_tn ?_
                          have h5 : ¬ (i % 16 ≠ 0 ∧ common y (y.take g.toNat ++ r1.take b1.toNat) ≠ g.toNat) := fun h => by omega
                          refine w_region ?_
                          refine wl_det rfl rfl rfl (op_move rfl) ?_
                          refine wl_det rfl rfl rfl (op_move rfl) ?_
                          refine wl_op [] rfl rfl rfl rfl (op_buildSlice (enc := encT) (l := [_]) (lab := 100) tL22_1i rfl rfl (fun _ => rfl) rfl) ?_
                          rintro _ _ ⟨a100, c100, rfl, rfl⟩
                          refine wl_op [8] rfl rfl rfl rfl (op_append (lab := 8) (lab' := 101) rfl rfl tP22i enc1T (Sl.lab 100 rfl (by simp [maxLen])) (by simp; omega) (by simp; omega)) ?_
                          rintro _ _ ⟨a101, c101, rfl, rfl⟩
                          refine wl_det rfl rfl rfl (op_move rfl) ?_
                          refine wl_det rfl rfl rfl (op_assign rfl) ?_
                          refine wl_det rfl rfl rfl (op_assign rfl) ?_
                          refine wl_nil ?_
                          refine st_bn ?_
                          refine st_tn ?_
                          refine w_region ?_
                          refine wl_det rfl rfl rfl (op_move rfl) ?_
                          refine wl_det rfl rfl rfl (op_add' rfl rfl (by omega)) ?_
                          refine wl_det rfl rfl rfl (op_assign rfl) ?_
                          refine wl_nil ?_
                          refine st_roundQ (x := ([], out, a_out, c_out, [], i)) ((r1.drop b1.toNat, _, _, _, _, i + 1)) [101] rfl (rfl) (.cons rfl (.cons rfl (.cons rfl (.cons rfl (.nil _))))) (.cons rfl (.nil _)) (by
                              try dsimp only
                              refine ⟨by omega, by simp; omega, by simp; omega, ?_, by omega⟩
                              rw [← hd]
                              exact (decR_ok hlt (hS.trans (dbody_6 (by omega) (by omega) (by omega) (by first | exact h4 | exact h4 _ _) (by first | exact h5 | exact h5 _ _ _)))).symm) (by
                              try dsimp only
                              omega) 
                      · -- 91 is False
                        omega
              · -- hD-
                have hRe : R = ([], 4) := by rw [← hd]; exact decR_err hlt (hS.trans (dbody_1 (by omega)))
                refine w_region ?_
                refine wl_det rfl rfl rfl (op_move rfl) ?_
                refine wl_det rfl rfl rfl (op_move rfl) ?_
                refine wl_det rfl rfl rfl (op_idxBs rfl rfl Try.underlying9 (by assumption)) ?_
                refine wl_det rfl rfl rfl (op_convI64 rfl (by rw [Try.underlying5]; rfl) Try.underlying3 (by omega)) ?_
                refine wl_det rfl rfl rfl (op_val (v' := .tuple #[.string (str []), .string (str []), .bool false]) (by rw [if_neg hD, if_neg hD, decide_eq_false hD]) (op_fn Try.func53 rfl rfl rfl (take_any _ b1.toNat (by omega)))) ?_
                refine wl_det rfl rfl rfl (op_move rfl) ?_
                refine wl_det rfl rfl rfl (op_extract rfl rfl) ?_
                refine wl_det rfl rfl rfl (op_extract rfl rfl) ?_
                refine wl_det rfl rfl rfl (op_val (v' := .bool false) (by rfl) (op_extract rfl rfl)) ?_
                refine wl_det rfl rfl rfl (op_assign rfl) ?_
                refine wl_det rfl rfl rfl (op_assign rfl) ?_
                refine wl_det rfl rfl rfl (op_assign rfl) ?_
                refine wl_nil ?_
                refine st_tn ?_
                refine w_seq ?_
                refine w_region ?_
                refine wl_det rfl rfl rfl (op_move rfl) ?_
                refine wl_det rfl rfl rfl (op_not_f rfl) ?_
                refine wl_nil ?_
                refine st_tn ?_
                refine w_cond_t (rfl) ?_
                refine w_seq ?_
                refine w_emp 75 (slO_nil 9 1) ?_
                refine w_region ?_
                refine wl_det rfl rfl rfl (op_assign rfl) ?_
                refine wl_det rfl rfl rfl (op_assign rfl) ?_
                refine wl_nil ?_
                refine st_tn ?_
                refine w_ret ?_
                refine st_tr ?_
                refine st_br ?_
                refine st_tr ?_
                refine st_tr ?_
                refine st_br ?_
                refine st_tr ?_
                refine st_ret (vs := [_, _]) [75] Try.results43 ⟨rfl, ⟨rfl, trivial⟩⟩ rfl ?_
                refine ⟨[(lab, _)], rfl, ?_⟩
                rw [hRe]; exact ⟨_, _, rfl, rfl⟩
            · -- hC-
              obtain rfl : s1 = [] := List.eq_nil_of_length_eq_zero (by omega)
              have hRe : R = ([], 4) := by rw [← hd]; exact decR_err hlt hS
              refine w_region ?_
              refine wl_det rfl rfl rfl (op_move rfl) ?_
              refine wl_det rfl rfl rfl (op_val (v' := .tuple #[.string (str []), .string (str []), .bool false]) (by rfl) (op_fn Try.func53 rfl rfl rfl (take_any _ 1 (by omega)))) ?_
              refine wl_det rfl rfl rfl (op_move rfl) ?_
              refine wl_det rfl rfl rfl (op_extract rfl rfl) ?_
              refine wl_det rfl rfl rfl (op_extract rfl rfl) ?_
              refine wl_det rfl rfl rfl (op_val (v' := .bool false) (by rfl) (op_extract rfl rfl)) ?_
              refine wl_det rfl rfl rfl (op_assign rfl) ?_
              refine wl_det rfl rfl rfl (op_assign rfl) ?_
              refine wl_det rfl rfl rfl (op_assign rfl) ?_
              refine wl_nil ?_
              refine st_tn ?_
              refine w_seq ?_
              refine w_region ?_
              refine wl_det rfl rfl rfl (op_move rfl) ?_
              refine wl_det rfl rfl rfl (op_not_f rfl) ?_
              refine wl_nil ?_
              refine st_tn ?_
              refine w_cond_t (rfl) ?_
              refine w_seq ?_
              refine w_emp 74 (slO_nil 9 1) ?_
              refine w_region ?_
              refine wl_det rfl rfl rfl (op_assign rfl) ?_
              refine wl_det rfl rfl rfl (op_assign rfl) ?_
              refine wl_nil ?_
              refine st_tn ?_
              refine w_ret ?_
              refine st_tr ?_
              refine st_br ?_
              refine st_tr ?_
              refine st_tr ?_
              refine st_br ?_
              refine st_tr ?_
              refine st_ret (vs := [_, _]) [74] Try.results43 ⟨rfl, ⟨rfl, trivial⟩⟩ rfl ?_
              refine ⟨[(lab, _)], rfl, ?_⟩
              rw [hRe]; exact ⟨_, _, rfl, rfl⟩
          · -- hB-
            obtain rfl : q = [] := List.eq_nil_of_length_eq_zero (by omega)
            have hRe : R = ([], 4) := by rw [← hd]; exact decR_err hlt (dstep_n (by omega))
            refine w_region ?_
            refine wl_det rfl rfl rfl (op_move rfl) ?_
            refine wl_det rfl rfl rfl (op_val (v' := .tuple #[.string (str []), .string (str []), .bool false]) (by rfl) (op_fn Try.func53 rfl rfl rfl (take_any _ 1 (by omega)))) ?_
            refine wl_det rfl rfl rfl (op_move rfl) ?_
            refine wl_det rfl rfl rfl (op_extract rfl rfl) ?_
            refine wl_det rfl rfl rfl (op_extract rfl rfl) ?_
            refine wl_det rfl rfl rfl (op_val (v' := .bool false) (by rfl) (op_extract rfl rfl)) ?_
            refine wl_det rfl rfl rfl (op_assign rfl) ?_
            refine wl_det rfl rfl rfl (op_assign rfl) ?_
            refine wl_det rfl rfl rfl (op_assign rfl) ?_
            refine wl_nil ?_
            refine st_tn ?_
            refine w_seq ?_
            refine w_region ?_
            refine wl_det rfl rfl rfl (op_move rfl) ?_
            refine wl_det rfl rfl rfl (op_not_f rfl) ?_
            refine wl_nil ?_
            refine st_tn ?_
            refine w_cond_t (rfl) ?_
            refine w_seq ?_
            refine w_emp 73 (slO_nil 9 1) ?_
            refine w_region ?_
            refine wl_det rfl rfl rfl (op_assign rfl) ?_
            refine wl_det rfl rfl rfl (op_assign rfl) ?_
            refine wl_nil ?_
            refine st_tn ?_
            refine w_ret ?_
            refine st_tr ?_
            refine st_tr ?_
            refine st_br ?_
            refine st_tr ?_
            refine st_tr ?_
            refine st_br ?_
            refine st_tr ?_
            refine st_ret (vs := [_, _]) [73] Try.results43 ⟨rfl, ⟨rfl, trivial⟩⟩ rfl ?_
            refine ⟨[(lab, _)], rfl, ?_⟩
            rw [hRe]; exact ⟨_, _, rfl, rfl⟩
        · -- c38.f
          obtain ⟨s1, rfl⟩ : ∃ s1, s1 = q := ⟨_, rfl⟩
          have hS : dStep i y s1 = dBody i 0 y s1 := dstep_0 (by omega)
          refine w_skip ?_
          refine st_tn ?_
          refine w_seq ?_
          refine w_seq ?_
          by_cases hC : 1 ≤ s1.length
          · -- hC+
            obtain ⟨b1, r1, rfl⟩ := List.exists_cons_of_ne_nil (show s1 ≠ [] from fun h => by subst h; simp at hC)
            have hb1 : [b1][0]? = some b1 := rfl
            have hb1l := UInt8.toNat_lt b1
            simp only [List.length_cons] at hq
            refine w_region ?_
            refine wl_det rfl rfl rfl (op_move rfl) ?_
            refine wl_det rfl rfl rfl (op_val (v' := .tuple #[.string (str [b1]), .string (str r1), .bool true]) (by rw [if_pos hC, if_pos hC, decide_eq_true hC]; rfl) (op_fn Try.func53 rfl rfl rfl (take_any _ 1 (by omega)))) ?_
            refine wl_det rfl rfl rfl (op_move rfl) ?_
            refine wl_det rfl rfl rfl (op_extract rfl rfl) ?_
            refine wl_det rfl rfl rfl (op_extract rfl rfl) ?_
            refine wl_det rfl rfl rfl (op_val (v' := .bool true) (by rfl) (op_extract rfl rfl)) ?_
            refine wl_det rfl rfl rfl (op_assign rfl) ?_
            refine wl_det rfl rfl rfl (op_assign rfl) ?_
            refine wl_det rfl rfl rfl (op_assign rfl) ?_
            refine wl_nil ?_
            refine st_tn ?_
            refine w_seq ?_
            refine w_region ?_
            refine wl_det rfl rfl rfl (op_move rfl) ?_
            refine wl_det rfl rfl rfl (op_not_t rfl) ?_
            refine wl_nil ?_
            refine st_tn ?_
            refine w_cond_f (rfl) ?_
            refine w_skip ?_
            refine st_tn ?_
            refine w_seq ?_
            refine w_seq ?_
            by_cases hD : b1.toNat ≤ r1.length
            · -- hD+
              have h1 : ¬ r1.length < b1.toNat := by omega
              refine w_region ?_
              refine wl_det rfl rfl rfl (op_move rfl) ?_
              refine wl_det rfl rfl rfl (op_move rfl) ?_
              refine wl_det rfl rfl rfl (op_idxBs rfl rfl Try.underlying9 (by assumption)) ?_
              refine wl_det rfl rfl rfl (op_convI64 rfl (by rw [Try.underlying5]; rfl) Try.underlying3 (by omega)) ?_
              refine wl_det rfl rfl rfl (op_val (v' := .tuple #[.string (str (r1.take b1.toNat)), .string (str (r1.drop b1.toNat)), .bool true]) (by rw [if_pos hD, if_pos hD, decide_eq_true hD]) (op_fn Try.func53 rfl rfl rfl (take_any _ b1.toNat (by omega)))) ?_
              refine wl_det rfl rfl rfl (op_move rfl) ?_
              refine wl_det rfl rfl rfl (op_extract rfl rfl) ?_
              refine wl_det rfl rfl rfl (op_extract rfl rfl) ?_
              refine wl_det rfl rfl rfl (op_val (v' := .bool true) (by rfl) (op_extract rfl rfl)) ?_
              refine wl_det rfl rfl rfl (op_assign rfl) ?_
              refine wl_det rfl rfl rfl (op_assign rfl) ?_
              refine wl_det rfl rfl rfl (op_assign rfl) ?_
              refine wl_nil ?_
              refine st_tn ?_
              refine w_seq ?_
              refine w_region ?_
              refine wl_det rfl rfl rfl (op_move rfl) ?_
              refine wl_det rfl rfl rfl (op_not_t rfl) ?_
              refine wl_nil ?_
              refine st_tn ?_
              refine w_cond_f (rfl) ?_
              refine w_skip ?_
              refine st_tn ?_
              refine w_seq ?_
              refine w_seq ?_
              refine w_region ?_
              refine wl_det rfl rfl rfl (op_move rfl) ?_
              refine wl_det rfl rfl rfl (op_move rfl) ?_
              refine wl_det rfl rfl rfl (op_lenBs rfl Try.underlying9) ?_
              refine wl_det rfl rfl rfl (op_gtr rfl rfl) ?_
              refine wl_nil ?_
              refine st_tn ?_
              refine w_cond_d rfl (fun hc72 => ?_) (fun hc72 => ?_)
              · -- c72.t
                have hRe : R = ([], 3) := by rw [← hd]; exact decR_err hlt (hS.trans (dbody_2 h1 (by omega)))
                refine w_seq ?_
                refine w_emp 76 (slO_nil 9 1) ?_
                refine w_region ?_
                refine wl_det rfl rfl rfl (op_assign rfl) ?_
                refine wl_det rfl rfl rfl (op_assign rfl) ?_
                refine wl_nil ?_
                refine st_tn ?_
                refine w_ret ?_
                refine st_tr ?_
                refine st_br ?_
                refine st_tr ?_
                refine st_tr ?_
                refine st_br ?_
                refine st_tr ?_
                refine st_ret (vs := [_, _]) [76] Try.results43 ⟨rfl, ⟨rfl, trivial⟩⟩ rfl ?_
                refine ⟨[(lab, _)], rfl, ?_⟩
                rw [hRe]; exact ⟨_, _, rfl, rfl⟩
              · -- c72.f
                refine w_skip ?_
                refine st_tn ?_
                refine w_seq ?_
                refine w_region ?_
                refine wl_det rfl rfl rfl (op_move rfl) ?_
                refine wl_det rfl rfl rfl (op_move rfl) ?_
                refine wl_det rfl rfl rfl (op_sliceRBs rfl rfl Try.underlying9 (by omega)) ?_
                refine wl_det rfl rfl rfl (op_move rfl) ?_
                refine wl_det rfl rfl rfl (op_catBs rfl rfl (by simp; omega)) ?_
                refine wl_det rfl rfl rfl (op_assign rfl) ?_
                refine wl_nil ?_
                refine st_tn ?_
                refine w_seq ?_
                refine w_seq ?_
                refine w_region ?_
                refine wl_det rfl rfl rfl (op_move rfl) ?_
                refine wl_det rfl rfl rfl (op_lenBs rfl Try.underlying9) ?_
                refine wl_det rfl rfl rfl (op_gtr rfl rfl) ?_
                refine wl_nil ?_
                refine st_tn ?_
                refine w_cond_d rfl (fun hc80 => ?_) (fun hc80 => ?_)
                · -- c80.t
                  have hRe : R = ([], 5) := by rw [← hd]; exact decR_err hlt (hS.trans (dbody_3 h1 (by omega) (by omega)))
                  refine w_seq ?_
                  refine w_emp 77 (slO_nil 9 1) ?_
                  refine w_region ?_
                  refine wl_det rfl rfl rfl (op_assign rfl) ?_
                  refine wl_det rfl rfl rfl (op_assign rfl) ?_
                  refine wl_nil ?_
                  refine st_tn ?_
                  refine w_ret ?_
                  refine st_tr ?_
                  refine st_br ?_
                  refine st_tr ?_
                  refine st_tr ?_
                  refine st_br ?_
                  refine st_tr ?_
                  refine st_ret (vs := [_, _]) [77] Try.results43 ⟨rfl, ⟨rfl, trivial⟩⟩ rfl ?_
                  refine ⟨[(lab, _)], rfl, ?_⟩
                  rw [hRe]; exact ⟨_, _, rfl, rfl⟩
                · -- c80.f
                  refine w_skip ?_
                  refine st_tn ?_
                  refine w_seq ?_
                  refine w_seq ?_
                  refine w_region ?_
                  refine wl_det rfl rfl rfl (op_move rfl) ?_
                  refine wl_det rfl rfl rfl (op_gtr rfl rfl) ?_
                  refine wl_det rfl rfl rfl (op_move rfl) ?_
                  refine wl_gsplit (t := 83) rfl (fun hg83 => ?_) (fun hg83 => ?_)
                  · -- 83 is True
                    refine wl_wanted_det rfl rfl rfl rfl rfl rfl rfl (op_move rfl) ?_
                    refine wl_wanted_det rfl rfl rfl rfl rfl rfl rfl (op_move rfl) ?_
                    refine wl_wanted_det rfl rfl rfl rfl rfl rfl rfl (op_leBs rfl rfl) ?_
                    refine wl_det rfl rfl rfl (op_pick_t rfl rfl) ?_
                    refine wl_nil ?_
                    refine st_tn ?_
                    refine w_cond_d rfl (fun hc87 => ?_) (fun hc87 => ?_)
                    · -- c87.t
                      have hRe : R = ([], 8) := by rw [← hd]; exact decR_err hlt (hS.trans (dbody_4 h1 (by omega) (by omega) ⟨by omega, hc87⟩))
                      refine w_seq ?_
                      refine w_emp 78 (slO_nil 9 1) ?_
                      refine w_region ?_
                      refine wl_det rfl rfl rfl (op_assign rfl) ?_
                      refine wl_det rfl rfl rfl (op_assign rfl) ?_
                      refine wl_nil ?_
                      refine st_tn ?_
                      refine w_ret ?_
                      refine st_tr ?_
                      refine st_br ?_
                      refine st_tr ?_
                      refine st_tr ?_
                      refine st_br ?_
                      refine st_tr ?_
                      refine st_ret (vs := [_, _]) [78] Try.results43 ⟨rfl, ⟨rfl, trivial⟩⟩ rfl ?_
                      refine ⟨[(lab, _)], rfl, ?_⟩
                      rw [hRe]; exact ⟨_, _, rfl, rfl⟩
                    · -- c87.f
                      have h4 : ¬ (0 < i ∧ y.take 0 ++ r1.take b1.toNat ≤ y) := fun h => hc87 h.2
                      refine w_skip ?_
                      refine st_tn ?_
                      refine w_seq ?_
                      refine w_seq ?_
                      refine w_region ?_
                      refine wl_det rfl rfl rfl (op_move rfl) ?_
                      refine wl_det rfl rfl rfl (op_remN rfl rfl (by omega) (by omega)) ?_
                      refine wl_det rfl rfl rfl (op_neq rfl rfl) ?_
                      refine wl_det rfl rfl rfl (op_move rfl) ?_
                      refine wl_gsplit (t := 91) rfl (fun hg91 => ?_) (fun hg91 => ?_)
                      · -- 91 is True
                        omega
                      · -- 91 is False
                        refine wl_unwanted rfl rfl rfl rfl rfl rfl rfl rfl ?_
                        refine wl_unwanted rfl rfl rfl rfl rfl rfl rfl rfl ?_
                        refine wl_unwanted rfl rfl rfl rfl rfl rfl rfl rfl ?_
                        refine wl_unwanted rfl rfl rfl rfl rfl rfl rfl rfl ?_
                        refine wl_unwanted rfl rfl rfl rfl rfl rfl rfl rfl ?_
                        refine wl_det rfl rfl rfl (op_pick_f rfl rfl) ?_
                        refine wl_nil ?_
                        refine st_tn ?_
                        refine w_cond_f (rfl) ?_
                        refine w_skip ?_
                        refine st_tn ?_
                        have h5 := fun (X Y : Bs) (H : Nat) => (fun h => by omega : ¬ (i % 16 ≠ 0 ∧ common X Y ≠ H))
                        refine w_region ?_
                        refine wl_det rfl rfl rfl (op_move rfl) ?_
                        refine wl_det rfl rfl rfl (op_move rfl) ?_
                        refine wl_op [] rfl rfl rfl rfl (op_buildSlice (enc := encT) (l := [_]) (lab := 100) tL22_1i rfl rfl (fun _ => rfl) rfl) ?_
                        rintro _ _ ⟨a100, c100, rfl, rfl⟩
                        refine wl_op [8] rfl rfl rfl rfl (op_append (lab := 8) (lab' := 101) rfl rfl tP22i enc1T (Sl.lab 100 rfl (by simp [maxLen])) (by simp; omega) (by simp; omega)) ?_
                        rintro _ _ ⟨a101, c101, rfl, rfl⟩
                        refine wl_det rfl rfl rfl (op_move rfl) ?_
                        refine wl_det rfl rfl rfl (op_assign rfl) ?_
                        refine wl_det rfl rfl rfl (op_assign rfl) ?_
                        refine wl_nil ?_
                        refine st_bn ?_
                        refine st_tn ?_
                        refine w_region ?_
                        refine wl_det rfl rfl rfl (op_move rfl) ?_
                        refine wl_det rfl rfl rfl (op_add' rfl rfl (by omega)) ?_
                        refine wl_det rfl rfl rfl (op_assign rfl) ?_
                        refine wl_nil ?_
                        refine st_roundQ (x := ([], out, a_out, c_out, [], i)) ((r1.drop b1.toNat, _, _, _, _, i + 1)) [101] rfl (rfl) (.cons rfl (.cons rfl (.cons rfl (.cons rfl (.nil _))))) (.cons rfl (.nil _)) (by
                            try dsimp only
                            refine ⟨by omega, by simp; omega, by simp; omega, ?_, by omega⟩
                            rw [← hd]
                            exact (decR_ok hlt (hS.trans (dbody_6 (by omega) (by omega) (by omega) (by first | exact h4 | exact h4 _ _) (by first | exact h5 | exact h5 _ _ _)))).symm) (by
                            try dsimp only
                            omega) 
                  · -- 83 is False
                    have h4 := fun (X Y : Bs) => (fun h => by omega : ¬ (0 < i ∧ X ≤ Y))
                    refine wl_unwanted rfl rfl rfl rfl rfl rfl rfl rfl ?_
                    refine wl_unwanted rfl rfl rfl rfl rfl rfl rfl rfl ?_
                    refine wl_unwanted rfl rfl rfl rfl rfl rfl rfl rfl ?_
                    refine wl_det rfl rfl rfl (op_pick_f rfl rfl) ?_
                    refine wl_nil ?_
                    refine st_tn ?_
                    refine w_cond_f (rfl) ?_
                    refine w_skip ?_
                    refine st_tn ?_
                    refine w_seq ?_
                    refine w_seq ?_
                    refine w_region ?_
                    refine wl_det rfl rfl rfl (op_move rfl) ?_
                    refine wl_det rfl rfl rfl (op_remN rfl rfl (by omega) (by omega)) ?_
                    refine wl_det rfl rfl rfl (op_neq rfl rfl) ?_
                    refine wl_det rfl rfl rfl (op_move rfl) ?_
                    refine wl_gsplit (t := 91) rfl (fun hg91 => ?_) (fun hg91 => ?_)
                    · -- 91 is True
                      omega
                    · -- 91 is False
                      refine wl_unwanted rfl rfl rfl rfl rfl rfl rfl rfl ?_
                      refine wl_unwanted rfl rfl rfl rfl rfl rfl rfl rfl ?_
                      refine wl_unwanted rfl rfl rfl rfl rfl rfl rfl rfl ?_
                      refine wl_unwanted rfl rfl rfl rfl rfl rfl rfl rfl ?_
                      refine wl_unwanted rfl rfl rfl rfl rfl rfl rfl rfl ?_
                      refine wl_det rfl rfl rfl (op_pick_f rfl rfl) ?_
                      refine wl_nil ?_
                      refine st_tn ?_
                      refine w_cond_f (rfl) ?_
                      refine w_skip ?_
                      refine st_tn ?_
                      have h5 := fun (X Y : Bs) (H : Nat) => (fun h => by omega : ¬ (i % 16 ≠ 0 ∧ common X Y ≠ H))
                      refine w_region ?_
                      refine wl_det rfl rfl rfl (op_move rfl) ?_
                      refine wl_det rfl rfl rfl (op_move rfl) ?_
                      refine wl_op [] rfl rfl rfl rfl (op_buildSlice (enc := encT) (l := [_]) (lab := 100) tL22_1i rfl rfl (fun _ => rfl) rfl) ?_
                      rintro _ _ ⟨a100, c100, rfl, rfl⟩
                      refine wl_op [8] rfl rfl rfl rfl (op_append (lab := 8) (lab' := 101) rfl rfl tP22i enc1T (Sl.lab 100 rfl (by simp [maxLen])) (by simp; omega) (by simp; omega)) ?_
                      rintro _ _ ⟨a101, c101, rfl, rfl⟩
                      refine wl_det rfl rfl rfl (op_move rfl) ?_
                      refine wl_det rfl rfl rfl (op_assign rfl) ?_
                      refine wl_det rfl rfl rfl (op_assign rfl) ?_
                      refine wl_nil ?_
                      refine st_bn ?_
                      refine st_tn ?_
                      refine w_region ?_
                      refine wl_det rfl rfl rfl (op_move rfl) ?_
                      refine wl_det rfl rfl rfl (op_add' rfl rfl (by omega)) ?_
                      refine wl_det rfl rfl rfl (op_assign rfl) ?_
                      refine wl_nil ?_
                      refine st_roundQ (x := ([], out, a_out, c_out, [], i)) ((r1.drop b1.toNat, _, _, _, _, i + 1)) [101] rfl (rfl) (.cons rfl (.cons rfl (.cons rfl (.cons rfl (.nil _))))) (.cons rfl (.nil _)) (by
                          try dsimp only
                          refine ⟨by omega, by simp; omega, by simp; omega, ?_, by omega⟩
                          rw [← hd]
                          exact (decR_ok hlt (hS.trans (dbody_6 (by omega) (by omega) (by omega) (by first | exact h4 | exact h4 _ _) (by first | exact h5 | exact h5 _ _ _)))).symm) (by
                          try dsimp only
                          omega) 
            · -- hD-
              have hRe : R = ([], 4) := by rw [← hd]; exact decR_err hlt (hS.trans (dbody_1 (by omega)))
              refine w_region ?_
              refine wl_det rfl rfl rfl (op_move rfl) ?_
              refine wl_det rfl rfl rfl (op_move rfl) ?_
              refine wl_det rfl rfl rfl (op_idxBs rfl rfl Try.underlying9 (by assumption)) ?_
              refine wl_det rfl rfl rfl (op_convI64 rfl (by rw [Try.underlying5]; rfl) Try.underlying3 (by omega)) ?_
              refine wl_det rfl rfl rfl (op_val (v' := .tuple #[.string (str []), .string (str []), .bool false]) (by rw [if_neg hD, if_neg hD, decide_eq_false hD]) (op_fn Try.func53 rfl rfl rfl (take_any _ b1.toNat (by omega)))) ?_
              refine wl_det rfl rfl rfl (op_move rfl) ?_
              refine wl_det rfl rfl rfl (op_extract rfl rfl) ?_
              refine wl_det rfl rfl rfl (op_extract rfl rfl) ?_
              refine wl_det rfl rfl rfl (op_val (v' := .bool false) (by rfl) (op_extract rfl rfl)) ?_
              refine wl_det rfl rfl rfl (op_assign rfl) ?_
              refine wl_det rfl rfl rfl (op_assign rfl) ?_
              refine wl_det rfl rfl rfl (op_assign rfl) ?_
              refine wl_nil ?_
              refine st_tn ?_
              refine w_seq ?_
              refine w_region ?_
              refine wl_det rfl rfl rfl (op_move rfl) ?_
              refine wl_det rfl rfl rfl (op_not_f rfl) ?_
              refine wl_nil ?_
              refine st_tn ?_
              refine w_cond_t (rfl) ?_
              refine w_seq ?_
              refine w_emp 75 (slO_nil 9 1) ?_
              refine w_region ?_
              refine wl_det rfl rfl rfl (op_assign rfl) ?_
              refine wl_det rfl rfl rfl (op_assign rfl) ?_
              refine wl_nil ?_
              refine st_tn ?_
              refine w_ret ?_
              refine st_tr ?_
              refine st_br ?_
              refine st_tr ?_
              refine st_tr ?_
              refine st_br ?_
              refine st_tr ?_
              refine st_ret (vs := [_, _]) [75] Try.results43 ⟨rfl, ⟨rfl, trivial⟩⟩ rfl ?_
              refine ⟨[(lab, _)], rfl, ?_⟩
              rw [hRe]; exact ⟨_, _, rfl, rfl⟩
          · -- hC-
            obtain rfl : s1 = [] := List.eq_nil_of_length_eq_zero (by omega)
            have hRe : R = ([], 4) := by rw [← hd]; exact decR_err hlt hS
            refine w_region ?_
            refine wl_det rfl rfl rfl (op_move rfl) ?_
            refine wl_det rfl rfl rfl (op_val (v' := .tuple #[.string (str []), .string (str []), .bool false]) (by rfl) (op_fn Try.func53 rfl rfl rfl (take_any _ 1 (by omega)))) ?_
            refine wl_det rfl rfl rfl (op_move rfl) ?_
            refine wl_det rfl rfl rfl (op_extract rfl rfl) ?_
            refine wl_det rfl rfl rfl (op_extract rfl rfl) ?_
            refine wl_det rfl rfl rfl (op_val (v' := .bool false) (by rfl) (op_extract rfl rfl)) ?_
            refine wl_det rfl rfl rfl (op_assign rfl) ?_
            refine wl_det rfl rfl rfl (op_assign rfl) ?_
            refine wl_det rfl rfl rfl (op_assign rfl) ?_
            refine wl_nil ?_
            refine st_tn ?_
            refine w_seq ?_
            refine w_region ?_
            refine wl_det rfl rfl rfl (op_move rfl) ?_
            refine wl_det rfl rfl rfl (op_not_f rfl) ?_
            refine wl_nil ?_
            refine st_tn ?_
            refine w_cond_t (rfl) ?_
            refine w_seq ?_
            refine w_emp 74 (slO_nil 9 1) ?_
            refine w_region ?_
            refine wl_det rfl rfl rfl (op_assign rfl) ?_
            refine wl_det rfl rfl rfl (op_assign rfl) ?_
            refine wl_nil ?_
            refine st_tn ?_
            refine w_ret ?_
            refine st_tr ?_
            refine st_br ?_
            refine st_tr ?_
            refine st_tr ?_
            refine st_br ?_
            refine st_tr ?_
            refine st_ret (vs := [_, _]) [74] Try.results43 ⟨rfl, ⟨rfl, trivial⟩⟩ rfl ?_
            refine ⟨[(lab, _)], rfl, ?_⟩
            rw [hRe]; exact ⟨_, _, rfl, rfl⟩
      · -- c33.f
        refine w_exit ?_
        refine st_te ?_
        refine st_te ?_
        refine st_be ?_
        refine st_tn ?_
        refine w_seq ?_
        refine w_seq ?_
        refine w_region ?_
        refine wl_det rfl rfl rfl (op_move rfl) ?_
        refine wl_det rfl rfl rfl (op_neBs rfl rfl) ?_
        refine wl_nil ?_
        refine st_tn ?_
        refine w_cond_d rfl (fun hc104 => ?_) (fun hc104 => ?_)
        · -- c104.t
          have hRe : R = ([], 3) := by rw [← hd, show n - i = 0 by omega]; unfold decR; rw [if_neg hc104]
          refine w_seq ?_
          refine w_emp 80 (slO_nil 9 1) ?_
          refine w_region ?_
          refine wl_det rfl rfl rfl (op_assign rfl) ?_
          refine wl_det rfl rfl rfl (op_assign rfl) ?_
          refine wl_nil ?_
          refine st_tn ?_
          refine w_ret ?_
          refine st_tr ?_
          refine st_ret (vs := [_, _]) [80] Try.results43 ⟨rfl, ⟨rfl, trivial⟩⟩ rfl ?_
          refine ⟨[(lab, _)], rfl, ?_⟩
          rw [hRe]; exact ⟨_, _, rfl, rfl⟩
        · -- c104.f
          have hq0 : q = [] := Classical.not_not.1 hc104
          have hRe : R = (out, 0) := by rw [← hd, show n - i = 0 by omega, hq0]; rfl
          refine w_skip ?_
          refine st_tn ?_
          refine w_seq ?_
          refine w_region ?_
          refine wl_det rfl rfl rfl (op_move rfl) ?_
          refine wl_det rfl rfl rfl (op_assign rfl) ?_
          refine wl_det rfl rfl rfl (op_assign rfl) ?_
          refine wl_nil ?_
          refine st_tn ?_
          refine w_ret ?_
          refine st_ret (vs := [_, _]) [8] Try.results43 ⟨rfl, ⟨rfl, trivial⟩⟩ rfl ?_
          refine ⟨[(lab, _)], rfl, ?_⟩
          rw [hRe]; exact ⟨_, _, rfl, rfl⟩
  · -- hA-
    have hdec : dec s = ([], 4) := by
      match s, hA with
      | [], _ => rfl
      | [a], _ => rfl
      | a :: b :: r, h => simp at h
    refine w_region ?_
    refine wl_det rfl rfl rfl (op_move rfl) ?_
    refine wl_det rfl rfl rfl (op_val (v' := .tuple #[.string (str []), .string (str []), .bool false]) (by rw [if_neg hA, if_neg hA, decide_eq_false hA]) (op_fn Try.func53 rfl rfl rfl (take_any _ 2 (by omega)))) ?_
    refine wl_det rfl rfl rfl (op_move rfl) ?_
    refine wl_det rfl rfl rfl (op_extract rfl rfl) ?_
    refine wl_det rfl rfl rfl (op_extract rfl rfl) ?_
    refine wl_det rfl rfl rfl (op_val (v' := .bool false) (by rfl) (op_extract rfl rfl)) ?_
    refine wl_det rfl rfl rfl (op_assign rfl) ?_
    refine wl_det rfl rfl rfl (op_assign rfl) ?_
    refine wl_det rfl rfl rfl (op_assign rfl) ?_
    refine wl_nil ?_
    refine st_tn ?_
    refine w_seq ?_
    refine w_seq ?_
    refine w_region ?_
    refine wl_det rfl rfl rfl (op_move rfl) ?_
    refine wl_det rfl rfl rfl (op_not_f rfl) ?_
    refine wl_nil ?_
    refine st_tn ?_
    refine w_cond_t (rfl) ?_
    refine w_seq ?_
    refine w_emp 71 (slO_nil 9 1) ?_
    refine w_region ?_
    refine wl_det rfl rfl rfl (op_assign rfl) ?_
    refine wl_det rfl rfl rfl (op_assign rfl) ?_
    refine wl_nil ?_
    refine st_tn ?_
    refine w_ret ?_
    refine st_tr ?_
    refine st_ret (vs := [_, _]) [71] Try.results43 ⟨rfl, ⟨rfl, trivial⟩⟩ rfl ?_
    refine ⟨[(lab, _)], rfl, ?_⟩
    rw [hdec]; exact ⟨none, 0, rfl, rfl⟩

end Go.Proofs.Ytbpihhaiechnbaa
