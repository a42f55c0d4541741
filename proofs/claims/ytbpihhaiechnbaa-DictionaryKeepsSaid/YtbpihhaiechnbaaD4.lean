/- Contracts: strings of codes, remaps, checks (layer 6). Conditions: none. -/
import Derived.Test.YtbpihhaiechnbaaD3
namespace Go.Proofs.Ytbpihhaiechnbaa
open Go Go.SL Go.RowKit Go.DicM
set_option linter.unusedVariables false
set_option linter.unusedSimpArgs false
theorem tL22_1d : zerosB Try.prog 22 9 1 1 = some [Value.string .empty] := by kernel_rfl
theorem tL31_1d : zerosB Try.prog 31 3 1 1 = some [Value.int .i64 0] := by kernel_rfl
theorem tMixd : Try.prog.follows .mixedOrders = true := by kernel_rfl
theorem tO3d : oneB Try.prog 3 = true := by kernel_rfl
theorem tO9d : oneB Try.prog 9 = true := by kernel_rfl
theorem tP22d : appB Try.prog 22 9 1 16 = true := by kernel_rfl
theorem tP31d : appB Try.prog 31 3 1 8 = true := by kernel_rfl
theorem tS22d : sliceB Try.prog 22 9 1 = true := by kernel_rfl
theorem tS31d : sliceB Try.prog 31 3 1 = true := by kernel_rfl

def inR (n : Nat) (x : Int) : Bool := decide (0 ≤ x ∧ x < n)
/-- Strings of codes. -/
def strE (d : List Bs) (cs : List Int) : Int := if cs.all (inR d.length) = true then 0 else 2
def strL (d : List Bs) (cs : List Int) : List Bs := if strE d cs = 0 then cs.map (fun x => d.getD x.toNat []) else []
theorem str_no {d : List Bs} {cs : List Int} {x : Int} {i : Nat} (hs : cs[i]? = some x) (h : x < 0 ∨ x ≥ d.length) : strE d cs = 2 ∧ strL d cs = [] := by
  have : strE d cs = 2 := by
    unfold strE; rw [if_neg]; intro h2; rw [List.all_eq_true] at h2
    have := h2 x (List.mem_of_getElem? hs); simp [inR] at this; omega
  exact ⟨this, by unfold strL; rw [this]; rfl⟩
theorem str_ok {d : List Bs} {cs : List Int} (h : ∀ x ∈ cs, 0 ≤ x ∧ x < d.length) : strE d cs = 0 ∧ strL d cs = cs.map (fun x => d.getD x.toNat []) := by
  have : strE d cs = 0 := by
    unfold strE; rw [if_pos]; rw [List.all_eq_true]; intro s hs; simpa [inR] using h s hs
  exact ⟨this, by unfold strL; rw [this]; rfl⟩
theorem all_snoc {p : Int → Prop} {l : List Int} {i : Nat} {x : Int} (hn : ∀ y ∈ l.take i, p y) (hx : l[i]? = some x) (h : p x) : ∀ y ∈ l.take (i + 1), p y := by
  rw [take_snoc hx]; intro z hz
  rcases List.mem_append.1 hz with hz | hz
  · exact hn z hz
  · simp at hz; subst hz; exact h
set_option maxHeartbeats 1000000 in
set_option maxRecDepth 100000 in
theorem strings_any {σ : World} {F : List Res} {a b : Option Addr} {c e : Nat} {d : List Bs} {l : List Int} (lab : Nat) (h : Sl σ F encT 1 (.slice a d.length c) d) (g : Sl σ F encZ 1 (.slice b l.length e) l) (hm : l.length ≤ 1048576) :
    FnT Try.prog σ F 33 [.slice a d.length c, .slice b l.length e] [] (NewE (strL d l) (strE d l) lab) := by
  refine fn_of 32 Try.func33 rfl Try.ntmps33 rfl ?_
  have hle := h.i64
  have gle := g.i64
  refine w_seq ?_
  refine w_region ?_
  refine wl_det rfl rfl rfl (op_assign rfl) ?_
  refine wl_det rfl rfl rfl (op_assign rfl) ?_
  refine wl_nil ?_
  refine st_tn ?_
  refine w_seq ?_
  refine w_region ?_
  refine wl_det rfl rfl rfl (op_assign rfl) ?_
  refine wl_nil ?_
  refine st_tn ?_
  refine w_seq ?_
  refine w_seq ?_
  refine w_region ?_
  refine wl_det rfl rfl rfl (op_move rfl) ?_
  refine wl_det rfl rfl rfl (op_lenT rfl tS31d (Sl.ent (by first | exact Sl.app (by assumption) _ | exact Sl.app (Sl.app (by assumption) _) _))) ?_
  refine wl_det rfl rfl rfl (op_move rfl) ?_
  refine wl_nil ?_
  refine st_tn ?_
  refine w_block ?_
  refine w_emp 6 (slO_nil 9 1) ?_
  refine w_loopQ (X := Nat × List (List UInt8) × Option Addr × Nat) (fun z => z.1 ≤ l.length ∧ (∀ x ∈ l.take z.1, 0 ≤ x ∧ x < d.length) ∧ z.2.1 = (l.take z.1).map (fun x => d.getD x.toNat [])) (fun z => [(11, .int .i64 (z.1)), (6, .slice (z.2.2.1) (z.2.1).length (z.2.2.2))]) (fun z => [(6, slW 9 encT 1 (.slice (z.2.2.1) (z.2.1).length (z.2.2.2)) (z.2.1))]) (fun z => l.length - z.1) ((0, [], none, 0)) [(0, _), (9, _), (10, _)] [] [6] rfl (rfl) (.cons rfl (.cons rfl (.nil _))) (.cons rfl (.cons rfl (.cons rfl (.nil _)))) (by
      try dsimp only
      exact ⟨Nat.zero_le _, by simp, by simp⟩) ?_
  rintro ⟨i, out, a_out, c_out⟩ ⟨hi, hn, ho⟩
  refine w_norm2 (by dsimp only [List.cons_append, List.nil_append]) (by dsimp only [List.cons_append, List.nil_append]) ?_
  try dsimp only at hi hn ho ⊢
  refine w_seq ?_
  refine w_region ?_
  refine wl_det rfl rfl rfl (op_lss rfl rfl) ?_
  refine wl_nil ?_
  refine st_tn ?_
  refine w_seq ?_
  refine w_cond_d rfl (fun hc12 => ?_) (fun hc12 => ?_)
  · -- c12.t
    obtain ⟨x, hx⟩ := getE (l := l) (i := i) (by omega)
    have hlt := ltE hx
    have hlo : out.length ≤ l.length := by rw [ho]; simp; omega
    refine w_skip ?_
    refine st_tn ?_
    refine w_seq ?_
    refine w_block ?_
    refine w_seq ?_
    refine w_region ?_
    refine wl_det rfl rfl rfl (op_idx rfl rfl tS31d (Sl.ent (by first | exact Sl.app (by assumption) _ | exact Sl.app (Sl.app (by assumption) _) _)) (by omega)) ?_
    refine wl_det rfl rfl rfl (op_ldx rfl tO3d (by first | exact Sl.app (by assumption) _ | exact Sl.app (Sl.app (by assumption) _) _) (by assumption) (by rfl)) ?_
    refine wl_det rfl rfl rfl (op_assign rfl) ?_
    refine wl_nil ?_
    refine st_tn ?_
    refine w_seq ?_
    refine w_seq ?_
    refine w_region ?_
    refine wl_det rfl rfl rfl (op_move rfl) ?_
    refine wl_det rfl rfl rfl (op_lss rfl rfl) ?_
    refine wl_det rfl rfl rfl (op_move rfl) ?_
    refine wl_gsplit (t := 17) rfl (fun hg17 => ?_) (fun hg17 => ?_)
    · -- 17 is True
      refine wl_unwanted rfl rfl rfl rfl rfl rfl rfl rfl ?_
      refine wl_unwanted rfl rfl rfl rfl rfl rfl rfl rfl ?_
      refine wl_unwanted rfl rfl rfl rfl rfl rfl rfl rfl ?_
      refine wl_unwanted rfl rfl rfl rfl rfl rfl rfl rfl ?_
      refine wl_det rfl rfl rfl (op_pick_t rfl rfl) ?_
      refine wl_nil ?_
      refine st_tn ?_
      refine w_cond_t (rfl) ?_
      refine w_seq ?_
      refine w_emp 77 (slO_nil 9 1) ?_
      refine w_region ?_
      refine wl_det rfl rfl rfl (op_assign rfl) ?_
      refine wl_det rfl rfl rfl (op_assign rfl) ?_
      refine wl_nil ?_
      refine st_tn ?_
      refine w_ret ?_
      refine st_tr ?_
      refine st_br ?_
      refine st_tr ?_
      refine st_tr ?_
      refine st_br ?_
      refine st_tr ?_
      refine st_ret (vs := [_, _]) [77] Try.results33 ⟨rfl, ⟨rfl, trivial⟩⟩ rfl ?_
      refine ⟨[(lab, _)], rfl, ?_⟩
      obtain ⟨h1, h2⟩ := str_no (d := d) hx (by omega); exact ⟨none, 0, by rw [h1, h2]; rfl, by rw [h2]; rfl⟩
    · -- 17 is False
      refine wl_wanted_det rfl rfl rfl rfl rfl rfl rfl (op_move rfl) ?_
      refine wl_wanted_det rfl rfl rfl rfl rfl rfl rfl (op_move rfl) ?_
      refine wl_wanted_det rfl rfl rfl rfl rfl rfl rfl (op_lenT rfl tS22d (Sl.ent (by first | exact Sl.app (by assumption) _ | exact Sl.app (Sl.app (by assumption) _) _))) ?_
      refine wl_wanted_det rfl rfl rfl rfl rfl rfl rfl (op_geq rfl rfl) ?_
      refine wl_det rfl rfl rfl (op_pick_f rfl rfl) ?_
      refine wl_nil ?_
      refine st_tn ?_
      refine w_cond_d rfl (fun hc22 => ?_) (fun hc22 => ?_)
      · -- c22.t
        refine w_seq ?_
        refine w_emp 77 (slO_nil 9 1) ?_
        refine w_region ?_
        refine wl_det rfl rfl rfl (op_assign rfl) ?_
        refine wl_det rfl rfl rfl (op_assign rfl) ?_
        refine wl_nil ?_
        refine st_tn ?_
        refine w_ret ?_
        refine st_tr ?_
        refine st_br ?_
        refine st_tr ?_
        refine st_tr ?_
        refine st_br ?_
        refine st_tr ?_
        refine st_ret (vs := [_, _]) [77] Try.results33 ⟨rfl, ⟨rfl, trivial⟩⟩ rfl ?_
        refine ⟨[(lab, _)], rfl, ?_⟩
        obtain ⟨h1, h2⟩ := str_no (d := d) hx (by omega); exact ⟨none, 0, by rw [h1, h2]; rfl, by rw [h2]; rfl⟩
      · -- c22.f
        refine w_skip ?_
        refine st_tn ?_
        obtain ⟨y, hy⟩ := getE (l := d) (i := x.toNat) (by omega)
        refine w_region ?_
        refine wl_det rfl rfl rfl (op_move rfl) ?_
        refine wl_det rfl rfl rfl (op_move rfl) ?_
        refine wl_det rfl rfl rfl (op_move rfl) ?_
        refine wl_det rfl rfl rfl (op_idxZ rfl rfl tS22d (Sl.ent (by first | exact Sl.app (by assumption) _ | exact Sl.app (Sl.app (by assumption) _) _)) (by omega) (by omega)) ?_
        refine wl_det rfl rfl rfl (op_ldx rfl tO9d (by first | exact Sl.app (by assumption) _ | exact Sl.app (Sl.app (by assumption) _) _) (by assumption) (by rfl)) ?_
        refine wl_op [] rfl rfl rfl rfl (op_buildSlice (enc := encT) (l := [_]) (lab := 28) tL22_1d rfl rfl (fun _ => rfl) rfl) ?_
        rintro _ _ ⟨a28, c28, rfl, rfl⟩
        refine wl_op [6] rfl rfl rfl rfl (op_append (lab := 6) (lab' := 29) rfl rfl tP22d enc1T (Sl.lab 28 rfl (by simp [maxLen])) (by simp; omega) (by simp; omega)) ?_
        rintro _ _ ⟨a29, c29, rfl, rfl⟩
        refine wl_det rfl rfl rfl (op_assign rfl) ?_
        refine wl_nil ?_
        refine st_bn ?_
        refine st_tn ?_
        refine w_region ?_
        refine wl_det rfl rfl rfl (op_add' rfl rfl (by omega)) ?_
        refine wl_det rfl rfl rfl (op_move rfl) ?_
        refine wl_nil ?_
        refine st_roundQ (x := (i, out, a_out, c_out)) ((i + 1, _, _, _)) [29] rfl (rfl) (.cons rfl (.cons rfl (.nil _))) (.cons rfl (.cons rfl (.cons rfl (.nil _)))) (by
            try dsimp only
            exact ⟨by omega, all_snoc hn hx (by omega), by rw [take_snoc hx, List.map_append, ho, List.map_cons, List.getD_eq_getElem?_getD, hy]; rfl⟩) (by
            try dsimp only
            omega) 
  · -- c12.f
    refine w_exit ?_
    refine st_te ?_
    refine st_te ?_
    refine st_be ?_
    refine st_tn ?_
    refine w_seq ?_
    rw [take_all (by omega)] at hn ho
    refine w_region ?_
    refine wl_det rfl rfl rfl (op_move rfl) ?_
    refine wl_det rfl rfl rfl (op_assign rfl) ?_
    refine wl_det rfl rfl rfl (op_assign rfl) ?_
    refine wl_nil ?_
    refine st_tn ?_
    refine w_ret ?_
    refine st_ret (vs := [_, _]) [6] Try.results33 ⟨rfl, ⟨rfl, trivial⟩⟩ rfl ?_
    refine ⟨[(lab, _)], rfl, ?_⟩
    obtain ⟨h1, h2⟩ := str_ok hn; rw [h1, h2, ← ho]; exact ⟨_, _, rfl, rfl⟩

set_option maxHeartbeats 1000000 in
set_option maxRecDepth 100000 in
theorem rstrings_any {σ : World} {F : List Res} {a b : Option Addr} {c e : Nat} {d : List Bs} {l : List Int} (lab : Nat) (h : Sl σ F encT 1 (.slice a d.length c) d) (g : Sl σ F encZ 1 (.slice b l.length e) l) (hm : l.length ≤ 1048576) :
    FnT Try.prog σ F 34 [.slice a d.length c, .slice b l.length e] [] (NewE (strL d l) (strE d l) lab) := by
  refine fn_of 39 Try.func34 rfl Try.ntmps34 rfl ?_
  have hle := h.i64
  have gle := g.i64
  refine w_seq ?_
  refine w_region ?_
  refine wl_det rfl rfl rfl (op_assign rfl) ?_
  refine wl_det rfl rfl rfl (op_assign rfl) ?_
  refine wl_nil ?_
  refine st_tn ?_
  refine w_seq ?_
  refine w_region ?_
  refine wl_det rfl rfl rfl (op_assign rfl) ?_
  refine wl_nil ?_
  refine st_tn ?_
  refine w_seq ?_
  refine w_seq ?_
  refine w_region ?_
  refine wl_det rfl rfl rfl (op_assign rfl) ?_
  refine wl_nil ?_
  refine st_tn ?_
  refine w_block ?_
  refine w_emp 6 (slO_nil 9 1) ?_
  refine w_loopQ (X := Nat × List (List UInt8) × Option Addr × Nat) (fun z => z.1 ≤ l.length ∧ (∀ x ∈ l.take z.1, 0 ≤ x ∧ x < d.length) ∧ z.2.1 = (l.take z.1).map (fun x => d.getD x.toNat [])) (fun z => [(7, .int .i64 (z.1)), (6, .slice (z.2.2.1) (z.2.1).length (z.2.2.2))]) (fun z => [(6, slW 9 encT 1 (.slice (z.2.2.1) (z.2.1).length (z.2.2.2)) (z.2.1))]) (fun z => l.length - z.1) ((0, [], none, 0)) [(0, _), (1, _)] [] [6] rfl (rfl) (.cons rfl (.cons rfl (.nil _))) (.cons rfl (.cons rfl (.nil _))) (by
      try dsimp only
      exact ⟨Nat.zero_le _, by simp, by simp⟩) ?_
  rintro ⟨i, out, a_out, c_out⟩ ⟨hi, hn, ho⟩
  refine w_norm2 (by dsimp only [List.cons_append, List.nil_append]) (by dsimp only [List.cons_append, List.nil_append]) ?_
  try dsimp only at hi hn ho ⊢
  refine w_seq ?_
  refine w_seq ?_
  refine w_region ?_
  refine wl_det rfl rfl rfl (op_move rfl) ?_
  refine wl_det rfl rfl rfl (op_move rfl) ?_
  refine wl_det rfl rfl rfl (op_lenT rfl tS31d (Sl.ent (by first | exact Sl.app (by assumption) _ | exact Sl.app (Sl.app (by assumption) _) _))) ?_
  refine wl_det rfl rfl rfl (op_lss rfl rfl) ?_
  refine wl_nil ?_
  refine st_tn ?_
  refine w_cond_d rfl (fun hc11 => ?_) (fun hc11 => ?_)
  · -- c11.t
    obtain ⟨x, hx⟩ := getE (l := l) (i := i) (by omega)
    have hlt := ltE hx
    have hlo : out.length ≤ l.length := by rw [ho]; simp; omega
    refine w_skip ?_
    refine st_tn ?_
    refine w_seq ?_
    refine w_block ?_
    refine w_seq ?_
    refine w_seq ?_
    refine w_region ?_
    refine wl_det rfl rfl rfl (op_move rfl) ?_
    refine wl_det rfl rfl rfl (op_move rfl) ?_
    refine wl_det rfl rfl rfl (op_idx rfl rfl tS31d (Sl.ent (by first | exact Sl.app (by assumption) _ | exact Sl.app (Sl.app (by assumption) _) _)) (by omega)) ?_
    refine wl_det rfl rfl rfl (op_ldx rfl tO3d (by first | exact Sl.app (by assumption) _ | exact Sl.app (Sl.app (by assumption) _) _) (by assumption) (by rfl)) ?_
    refine wl_det rfl rfl rfl (op_lss rfl rfl) ?_
    refine wl_det rfl rfl rfl (op_move rfl) ?_
    refine wl_gsplit (t := 19) rfl (fun hg19 => ?_) (fun hg19 => ?_)
    · -- 19 is True
      refine wl_unwanted rfl rfl rfl rfl rfl rfl rfl rfl ?_
      refine wl_unwanted rfl rfl rfl rfl rfl rfl rfl rfl ?_
      refine wl_unwanted rfl rfl rfl rfl rfl rfl rfl rfl ?_
      refine wl_unwanted rfl rfl rfl rfl rfl rfl rfl rfl ?_
      refine wl_unwanted rfl rfl rfl rfl rfl rfl rfl rfl ?_
      refine wl_unwanted rfl rfl rfl rfl rfl rfl rfl rfl ?_
      refine wl_unwanted rfl rfl rfl rfl rfl rfl rfl rfl ?_
      refine wl_det rfl rfl rfl (op_pick_t rfl rfl) ?_
      refine wl_nil ?_
      refine st_tn ?_
      refine w_cond_t (rfl) ?_
      refine w_seq ?_
      refine w_emp 77 (slO_nil 9 1) ?_
      refine w_region ?_
      refine wl_det rfl rfl rfl (op_assign rfl) ?_
      refine wl_det rfl rfl rfl (op_assign rfl) ?_
      refine wl_nil ?_
      refine st_tn ?_
      refine w_ret ?_
      refine st_tr ?_
      refine st_br ?_
      refine st_tr ?_
      refine st_tr ?_
      refine st_br ?_
      refine st_tr ?_
      refine st_ret (vs := [_, _]) [77] Try.results34 ⟨rfl, ⟨rfl, trivial⟩⟩ rfl ?_
      refine ⟨[(lab, _)], rfl, ?_⟩
      obtain ⟨h1, h2⟩ := str_no (d := d) hx (by omega); exact ⟨none, 0, by rw [h1, h2]; rfl, by rw [h2]; rfl⟩
    · -- 19 is False
      refine wl_wanted_det rfl rfl rfl rfl rfl rfl rfl (op_move rfl) ?_
      refine wl_wanted_det rfl rfl rfl rfl rfl rfl rfl (op_move rfl) ?_
      refine wl_wanted_det rfl rfl rfl rfl rfl rfl rfl (op_idx rfl rfl tS31d (Sl.ent (by first | exact Sl.app (by assumption) _ | exact Sl.app (Sl.app (by assumption) _) _)) (by omega)) ?_
      refine wl_wanted_det rfl rfl rfl rfl rfl rfl rfl (op_ldx rfl tO3d (by first | exact Sl.app (by assumption) _ | exact Sl.app (Sl.app (by assumption) _) _) (by assumption) (by rfl)) ?_
      refine wl_wanted_det rfl rfl rfl rfl rfl rfl rfl (op_move rfl) ?_
      refine wl_wanted_det rfl rfl rfl rfl rfl rfl rfl (op_lenT rfl tS22d (Sl.ent (by first | exact Sl.app (by assumption) _ | exact Sl.app (Sl.app (by assumption) _) _))) ?_
      refine wl_wanted_det rfl rfl rfl rfl rfl rfl rfl (op_geq rfl rfl) ?_
      refine wl_det rfl rfl rfl (op_pick_f rfl rfl) ?_
      refine wl_nil ?_
      refine st_tn ?_
      refine w_cond_d rfl (fun hc27 => ?_) (fun hc27 => ?_)
      · -- c27.t
        refine w_seq ?_
        refine w_emp 77 (slO_nil 9 1) ?_
        refine w_region ?_
        refine wl_det rfl rfl rfl (op_assign rfl) ?_
        refine wl_det rfl rfl rfl (op_assign rfl) ?_
        refine wl_nil ?_
        refine st_tn ?_
        refine w_ret ?_
        refine st_tr ?_
        refine st_br ?_
        refine st_tr ?_
        refine st_tr ?_
        refine st_br ?_
        refine st_tr ?_
        refine st_ret (vs := [_, _]) [77] Try.results34 ⟨rfl, ⟨rfl, trivial⟩⟩ rfl ?_
        refine ⟨[(lab, _)], rfl, ?_⟩
        obtain ⟨h1, h2⟩ := str_no (d := d) hx (by omega); exact ⟨none, 0, by rw [h1, h2]; rfl, by rw [h2]; rfl⟩
      · -- c27.f
        refine w_skip ?_
        refine st_tn ?_
        obtain ⟨y, hy⟩ := getE (l := d) (i := x.toNat) (by omega)
        refine w_region ?_
        refine wl_det rfl rfl rfl (op_move rfl) ?_
        refine wl_det rfl rfl rfl (op_move rfl) ?_
        refine wl_det rfl rfl rfl (op_move rfl) ?_
        refine wl_det rfl rfl rfl (op_move rfl) ?_
        refine wl_det rfl rfl rfl (op_idx rfl rfl tS31d (Sl.ent (by first | exact Sl.app (by assumption) _ | exact Sl.app (Sl.app (by assumption) _) _)) (by omega)) ?_
        refine wl_det rfl rfl rfl (op_ldx rfl tO3d (by first | exact Sl.app (by assumption) _ | exact Sl.app (Sl.app (by assumption) _) _) (by assumption) (by rfl)) ?_
        refine wl_det rfl rfl rfl (op_idxZ rfl rfl tS22d (Sl.ent (by first | exact Sl.app (by assumption) _ | exact Sl.app (Sl.app (by assumption) _) _)) (by omega) (by omega)) ?_
        refine wl_det rfl rfl rfl (op_ldx rfl tO9d (by first | exact Sl.app (by assumption) _ | exact Sl.app (Sl.app (by assumption) _) _) (by assumption) (by rfl)) ?_
        refine wl_op [] rfl rfl rfl rfl (op_buildSlice (enc := encT) (l := [_]) (lab := 36) tL22_1d rfl rfl (fun _ => rfl) rfl) ?_
        rintro _ _ ⟨a36, c36, rfl, rfl⟩
        refine wl_op [6] rfl rfl rfl rfl (op_append (lab := 6) (lab' := 37) rfl rfl tP22d enc1T (Sl.lab 36 rfl (by simp [maxLen])) (by simp; omega) (by simp; omega)) ?_
        rintro _ _ ⟨a37, c37, rfl, rfl⟩
        refine wl_det rfl rfl rfl (op_assign rfl) ?_
        refine wl_nil ?_
        refine st_bn ?_
        refine st_tn ?_
        refine w_region ?_
        refine wl_det rfl rfl rfl (op_move rfl) ?_
        refine wl_det rfl rfl rfl (op_add' rfl rfl (by omega)) ?_
        refine wl_det rfl rfl rfl (op_assign rfl) ?_
        refine wl_nil ?_
        refine st_roundQ (x := (i, out, a_out, c_out)) ((i + 1, _, _, _)) [37] rfl (rfl) (.cons rfl (.cons rfl (.nil _))) (.cons rfl (.cons rfl (.nil _))) (by
            try dsimp only
            exact ⟨by omega, all_snoc hn hx (by omega), by rw [take_snoc hx, List.map_append, ho, List.map_cons, List.getD_eq_getElem?_getD, hy]; rfl⟩) (by
            try dsimp only
            omega) 
  · -- c11.f
    refine w_exit ?_
    refine st_te ?_
    refine st_te ?_
    refine st_be ?_
    refine st_tn ?_
    refine w_seq ?_
    rw [take_all (by omega)] at hn ho
    refine w_region ?_
    refine wl_det rfl rfl rfl (op_move rfl) ?_
    refine wl_det rfl rfl rfl (op_assign rfl) ?_
    refine wl_det rfl rfl rfl (op_assign rfl) ?_
    refine wl_nil ?_
    refine st_tn ?_
    refine w_ret ?_
    refine st_ret (vs := [_, _]) [6] Try.results34 ⟨rfl, ⟨rfl, trivial⟩⟩ rfl ?_
    refine ⟨[(lab, _)], rfl, ?_⟩
    obtain ⟨h1, h2⟩ := str_ok hn; rw [h1, h2, ← ho]; exact ⟨_, _, rfl, rfl⟩

/-- Remaps. -/
def remAt (m : List Int) (x : Int) : Int := if x < 0 ∨ x ≥ m.length then 2 else if m.getD x.toNat 0 < 0 then 10 else 0
def remE (cs m : List Int) : Int := first (fun i => remAt m (cs.getD i 0)) cs.length
def remL (cs m : List Int) : List Int := if remE cs m = 0 then cs.map (fun x => m.getD x.toNat 0) else []
theorem rem_hit {cs m : List Int} {i : Nat} {x r : Int} (hn : ∀ j, j < i → remAt m (cs.getD j 0) = 0) (hx : cs[i]? = some x) (h : remAt m x = r) (hr : r ≠ 0) : remE cs m = r ∧ remL cs m = [] := by
  have : remE cs m = r := first_hit hn (by rw [List.getD_eq_getElem?_getD, hx]; exact h) hr (List.getElem?_eq_some_iff.1 hx).1
  exact ⟨this, by unfold remL; rw [this, if_neg hr]⟩
theorem rem_ok {cs m : List Int} (hn : ∀ j, j < cs.length → remAt m (cs.getD j 0) = 0) : remE cs m = 0 ∧ remL cs m = cs.map (fun x => m.getD x.toNat 0) := by
  have : remE cs m = 0 := first_none hn
  exact ⟨this, by unfold remL; rw [this, if_pos rfl]⟩
theorem rem_snoc {cs m : List Int} {i : Nat} {x : Int} (hn : ∀ j, j < i → remAt m (cs.getD j 0) = 0) (hx : cs[i]? = some x) (h : remAt m x = 0) : ∀ j, j < i + 1 → remAt m (cs.getD j 0) = 0 := fun j hj => by
  rcases Nat.lt_or_eq_of_le (Nat.le_of_lt_succ hj) with hj | hj
  · exact hn j hj
  · subst hj; rw [List.getD_eq_getElem?_getD, hx]; exact h
theorem remAt_r {m : List Int} {x : Int} (h : x < 0 ∨ x ≥ m.length) : remAt m x = 2 := by unfold remAt; rw [if_pos h]
theorem remAt_n {m : List Int} {x y : Int} (h : 0 ≤ x) (hy : m[x.toNat]? = some y) (h2 : y < 0) : remAt m x = 10 := by
  have := (List.getElem?_eq_some_iff.1 hy).1
  unfold remAt; rw [if_neg (by omega), List.getD_eq_getElem?_getD, hy, if_pos (by exact h2)]
theorem remAt_k {m : List Int} {x y : Int} (h : 0 ≤ x) (hy : m[x.toNat]? = some y) (h2 : ¬ y < 0) : remAt m x = 0 := by
  have := (List.getElem?_eq_some_iff.1 hy).1
  unfold remAt; rw [if_neg (by omega), List.getD_eq_getElem?_getD, hy, if_neg (by exact h2)]
set_option maxHeartbeats 1000000 in
set_option maxRecDepth 100000 in
theorem remap_any {σ : World} {F : List Res} {a b : Option Addr} {c e : Nat} {l m : List Int} (lab : Nat) (h : Sl σ F encZ 1 (.slice a l.length c) l) (g : Sl σ F encZ 1 (.slice b m.length e) m) (hm : l.length ≤ 1048576) :
    FnT Try.prog σ F 35 [.slice a l.length c, .slice b m.length e] [] (NewZE (remL l m) (remE l m) lab) := by
  refine fn_of 39 Try.func35 rfl Try.ntmps35 rfl ?_
  have hle := h.i64
  have gle := g.i64
  refine w_seq ?_
  refine w_region ?_
  refine wl_det rfl rfl rfl (op_assign rfl) ?_
  refine wl_det rfl rfl rfl (op_assign rfl) ?_
  refine wl_nil ?_
  refine st_tn ?_
  refine w_seq ?_
  refine w_region ?_
  refine wl_det rfl rfl rfl (op_assign rfl) ?_
  refine wl_nil ?_
  refine st_tn ?_
  refine w_seq ?_
  refine w_seq ?_
  refine w_region ?_
  refine wl_det rfl rfl rfl (op_move rfl) ?_
  refine wl_det rfl rfl rfl (op_lenT rfl tS31d (Sl.ent (by first | exact Sl.app (by assumption) _ | exact Sl.app (Sl.app (by assumption) _) _))) ?_
  refine wl_det rfl rfl rfl (op_move rfl) ?_
  refine wl_nil ?_
  refine st_tn ?_
  refine w_block ?_
  refine w_emp 6 (slO_nil 3 1) ?_
  refine w_loopQ (X := Nat × List Int × Option Addr × Nat) (fun z => z.1 ≤ l.length ∧ (∀ j, j < z.1 → remAt m (l.getD j 0) = 0) ∧ z.2.1 = (l.take z.1).map (fun x => m.getD x.toNat 0)) (fun z => [(11, .int .i64 (z.1)), (6, .slice (z.2.2.1) (z.2.1).length (z.2.2.2))]) (fun z => [(6, slW 3 encZ 1 (.slice (z.2.2.1) (z.2.1).length (z.2.2.2)) (z.2.1))]) (fun z => l.length - z.1) ((0, [], none, 0)) [(1, _), (9, _), (10, _)] [] [6] rfl (rfl) (.cons rfl (.cons rfl (.nil _))) (.cons rfl (.cons rfl (.cons rfl (.nil _)))) (by
      try dsimp only
      exact ⟨Nat.zero_le _, by omega, by simp⟩) ?_
  rintro ⟨i, out, a_out, c_out⟩ ⟨hi, hn, ho⟩
  refine w_norm2 (by dsimp only [List.cons_append, List.nil_append]) (by dsimp only [List.cons_append, List.nil_append]) ?_
  try dsimp only at hi hn ho ⊢
  refine w_seq ?_
  refine w_region ?_
  refine wl_det rfl rfl rfl (op_lss rfl rfl) ?_
  refine wl_nil ?_
  refine st_tn ?_
  refine w_seq ?_
  refine w_cond_d rfl (fun hc12 => ?_) (fun hc12 => ?_)
  · -- c12.t
    obtain ⟨x, hx⟩ := getE (l := l) (i := i) (by omega)
    have hlt := ltE hx
    have hlo : out.length ≤ l.length := by rw [ho]; simp; omega
    refine w_skip ?_
    refine st_tn ?_
    refine w_seq ?_
    refine w_block ?_
    refine w_seq ?_
    refine w_region ?_
    refine wl_det rfl rfl rfl (op_idx rfl rfl tS31d (Sl.ent (by first | exact Sl.app (by assumption) _ | exact Sl.app (Sl.app (by assumption) _) _)) (by omega)) ?_
    refine wl_det rfl rfl rfl (op_ldx rfl tO3d (by first | exact Sl.app (by assumption) _ | exact Sl.app (Sl.app (by assumption) _) _) (by assumption) (by rfl)) ?_
    refine wl_det rfl rfl rfl (op_assign rfl) ?_
    refine wl_nil ?_
    refine st_tn ?_
    refine w_seq ?_
    refine w_block ?_
    refine w_seq ?_
    refine w_region ?_
    refine wl_det rfl rfl rfl (op_move rfl) ?_
    refine wl_det rfl rfl rfl (op_lss rfl rfl) ?_
    refine wl_det rfl rfl rfl (op_move rfl) ?_
    refine wl_gsplit (t := 18) rfl (fun hg18 => ?_) (fun hg18 => ?_)
    · -- 18 is True
      refine wl_unwanted rfl rfl rfl rfl rfl rfl rfl rfl ?_
      refine wl_unwanted rfl rfl rfl rfl rfl rfl rfl rfl ?_
      refine wl_unwanted rfl rfl rfl rfl rfl rfl rfl rfl ?_
      refine wl_unwanted rfl rfl rfl rfl rfl rfl rfl rfl ?_
      refine wl_det rfl rfl rfl (op_pick_t rfl rfl) ?_
      refine wl_det rfl rfl rfl (op_assign rfl) ?_
      refine wl_nil ?_
      refine st_tn ?_
      refine w_cond_t (rfl) ?_
      refine w_seq ?_
      refine w_emp 77 (slO_nil 3 1) ?_
      refine w_region ?_
      refine wl_det rfl rfl rfl (op_assign rfl) ?_
      refine wl_det rfl rfl rfl (op_assign rfl) ?_
      refine wl_nil ?_
      refine st_tn ?_
      refine w_ret ?_
      refine st_br ?_
      refine st_tr ?_
      refine st_br ?_
      refine st_tr ?_
      refine st_tr ?_
      refine st_br ?_
      refine st_tr ?_
      refine st_ret (vs := [_, _]) [77] Try.results35 ⟨rfl, ⟨rfl, trivial⟩⟩ rfl ?_
      refine ⟨[(lab, _)], rfl, ?_⟩
      obtain ⟨h1, h2⟩ := rem_hit hn hx (remAt_r (by omega)) (by omega); exact ⟨none, 0, by rw [h1, h2]; rfl, by rw [h2]; rfl⟩
    · -- 18 is False
      refine wl_wanted_det rfl rfl rfl rfl rfl rfl rfl (op_move rfl) ?_
      refine wl_wanted_det rfl rfl rfl rfl rfl rfl rfl (op_move rfl) ?_
      refine wl_wanted_det rfl rfl rfl rfl rfl rfl rfl (op_lenT rfl tS31d (Sl.ent (by first | exact Sl.app (by assumption) _ | exact Sl.app (Sl.app (by assumption) _) _))) ?_
      refine wl_wanted_det rfl rfl rfl rfl rfl rfl rfl (op_geq rfl rfl) ?_
      refine wl_det rfl rfl rfl (op_pick_f rfl rfl) ?_
      refine wl_det rfl rfl rfl (op_assign rfl) ?_
      refine wl_nil ?_
      refine st_tn ?_
      refine w_cond_d rfl (fun hc15 => ?_) (fun hc15 => ?_)
      · -- c15.t
        refine w_seq ?_
        refine w_emp 77 (slO_nil 3 1) ?_
        refine w_region ?_
        refine wl_det rfl rfl rfl (op_assign rfl) ?_
        refine wl_det rfl rfl rfl (op_assign rfl) ?_
        refine wl_nil ?_
        refine st_tn ?_
        refine w_ret ?_
        refine st_br ?_
        refine st_tr ?_
        refine st_br ?_
        refine st_tr ?_
        refine st_tr ?_
        refine st_br ?_
        refine st_tr ?_
        refine st_ret (vs := [_, _]) [77] Try.results35 ⟨rfl, ⟨rfl, trivial⟩⟩ rfl ?_
        refine ⟨[(lab, _)], rfl, ?_⟩
        obtain ⟨h1, h2⟩ := rem_hit hn hx (remAt_r (by omega)) (by omega); exact ⟨none, 0, by rw [h1, h2]; rfl, by rw [h2]; rfl⟩
      · -- c15.f
        refine w_seq ?_
        obtain ⟨y, hy⟩ := getE (l := m) (i := x.toNat) (by omega)
        refine w_region ?_
        refine wl_det rfl rfl rfl (op_move rfl) ?_
        refine wl_det rfl rfl rfl (op_move rfl) ?_
        refine wl_det rfl rfl rfl (op_idxZ rfl rfl tS31d (Sl.ent (by first | exact Sl.app (by assumption) _ | exact Sl.app (Sl.app (by assumption) _) _)) (by omega) (by omega)) ?_
        refine wl_det rfl rfl rfl (op_ldx rfl tO3d (by first | exact Sl.app (by assumption) _ | exact Sl.app (Sl.app (by assumption) _) _) (by assumption) (by rfl)) ?_
        refine wl_det rfl rfl rfl (op_lss rfl rfl) ?_
        refine wl_det rfl rfl rfl (op_assign rfl) ?_
        refine wl_nil ?_
        refine st_tn ?_
        refine w_cond_d rfl (fun hc24 => ?_) (fun hc24 => ?_)
        · -- c24.t
          refine w_seq ?_
          refine w_emp 78 (slO_nil 3 1) ?_
          refine w_region ?_
          refine wl_det rfl rfl rfl (op_assign rfl) ?_
          refine wl_det rfl rfl rfl (op_assign rfl) ?_
          refine wl_nil ?_
          refine st_tn ?_
          refine w_ret ?_
          refine st_br ?_
          refine st_tr ?_
          refine st_br ?_
          refine st_tr ?_
          refine st_tr ?_
          refine st_br ?_
          refine st_tr ?_
          refine st_ret (vs := [_, _]) [78] Try.results35 ⟨rfl, ⟨rfl, trivial⟩⟩ rfl ?_
          refine ⟨[(lab, _)], rfl, ?_⟩
          obtain ⟨h1, h2⟩ := rem_hit hn hx (remAt_n (by omega) hy hc24) (by omega); exact ⟨none, 0, by rw [h1, h2]; rfl, by rw [h2]; rfl⟩
        · -- c24.f
          refine w_skip ?_
          refine st_bn ?_
          refine st_tn ?_
          refine w_region ?_
          refine wl_det rfl rfl rfl (op_move rfl) ?_
          refine wl_det rfl rfl rfl (op_move rfl) ?_
          refine wl_det rfl rfl rfl (op_move rfl) ?_
          refine wl_det rfl rfl rfl (op_idxZ rfl rfl tS31d (Sl.ent (by first | exact Sl.app (by assumption) _ | exact Sl.app (Sl.app (by assumption) _) _)) (by omega) (by omega)) ?_
          refine wl_det rfl rfl rfl (op_ldx rfl tO3d (by first | exact Sl.app (by assumption) _ | exact Sl.app (Sl.app (by assumption) _) _) (by assumption) (by rfl)) ?_
          refine wl_op [] rfl rfl rfl rfl (op_buildSlice (enc := encZ) (l := [_]) (lab := 35) tL31_1d rfl rfl (fun _ => rfl) rfl) ?_
          rintro _ _ ⟨a35, c35, rfl, rfl⟩
          refine wl_op [6] rfl rfl rfl rfl (op_append (lab := 6) (lab' := 36) rfl rfl tP31d enc1Z (Sl.lab 35 rfl (by simp [maxLen])) (by simp; omega) (by simp; omega)) ?_
          rintro _ _ ⟨a36, c36, rfl, rfl⟩
          refine wl_det rfl rfl rfl (op_assign rfl) ?_
          refine wl_nil ?_
          refine st_bn ?_
          refine st_tn ?_
          refine w_region ?_
          refine wl_det rfl rfl rfl (op_add' rfl rfl (by omega)) ?_
          refine wl_det rfl rfl rfl (op_move rfl) ?_
          refine wl_nil ?_
          refine st_roundQ (x := (i, out, a_out, c_out)) ((i + 1, _, _, _)) [36] rfl (rfl) (.cons rfl (.cons rfl (.nil _))) (.cons rfl (.cons rfl (.cons rfl (.nil _)))) (by
              try dsimp only
              exact ⟨by omega, rem_snoc hn hx (remAt_k (by omega) hy hc24), by rw [take_snoc hx, List.map_append, ho, List.map_cons, List.getD_eq_getElem?_getD, hy]; rfl⟩) (by
              try dsimp only
              omega) 
  · -- c12.f
    refine w_exit ?_
    refine st_te ?_
    refine st_te ?_
    refine st_be ?_
    refine st_tn ?_
    refine w_seq ?_
    rw [take_all (by omega)] at ho
    refine w_region ?_
    refine wl_det rfl rfl rfl (op_move rfl) ?_
    refine wl_det rfl rfl rfl (op_assign rfl) ?_
    refine wl_det rfl rfl rfl (op_assign rfl) ?_
    refine wl_nil ?_
    refine st_tn ?_
    refine w_ret ?_
    refine st_ret (vs := [_, _]) [6] Try.results35 ⟨rfl, ⟨rfl, trivial⟩⟩ rfl ?_
    refine ⟨[(lab, _)], rfl, ?_⟩
    obtain ⟨h1, h2⟩ := rem_ok (cs := l) (m := m) (fun j hj => hn j (by omega)); rw [h1, h2, ← ho]; exact ⟨_, _, rfl, rfl⟩

set_option maxHeartbeats 1000000 in
set_option maxRecDepth 100000 in
theorem rremap_any {σ : World} {F : List Res} {a b : Option Addr} {c e : Nat} {l m : List Int} (lab : Nat) (h : Sl σ F encZ 1 (.slice a l.length c) l) (g : Sl σ F encZ 1 (.slice b m.length e) m) (hm : l.length ≤ 1048576) :
    FnT Try.prog σ F 36 [.slice a l.length c, .slice b m.length e] [] (NewZE (remL l m) (remE l m) lab) := by
  refine fn_of 47 Try.func36 rfl Try.ntmps36 rfl ?_
  have hle := h.i64
  have gle := g.i64
  refine w_seq ?_
  refine w_region ?_
  refine wl_det rfl rfl rfl (op_assign rfl) ?_
  refine wl_det rfl rfl rfl (op_assign rfl) ?_
  refine wl_nil ?_
  refine st_tn ?_
  refine w_seq ?_
  refine w_region ?_
  refine wl_det rfl rfl rfl (op_assign rfl) ?_
  refine wl_nil ?_
  refine st_tn ?_
  refine w_seq ?_
  refine w_seq ?_
  refine w_region ?_
  refine wl_det rfl rfl rfl (op_assign rfl) ?_
  refine wl_nil ?_
  refine st_tn ?_
  refine w_block ?_
  refine w_emp 6 (slO_nil 3 1) ?_
  refine w_loopQ (X := Nat × List Int × Option Addr × Nat) (fun z => z.1 ≤ l.length ∧ (∀ j, j < z.1 → remAt m (l.getD j 0) = 0) ∧ z.2.1 = (l.take z.1).map (fun x => m.getD x.toNat 0)) (fun z => [(7, .int .i64 (z.1)), (6, .slice (z.2.2.1) (z.2.1).length (z.2.2.2))]) (fun z => [(6, slW 3 encZ 1 (.slice (z.2.2.1) (z.2.1).length (z.2.2.2)) (z.2.1))]) (fun z => l.length - z.1) ((0, [], none, 0)) [(0, _), (1, _)] [] [6] rfl (rfl) (.cons rfl (.cons rfl (.nil _))) (.cons rfl (.cons rfl (.nil _))) (by
      try dsimp only
      exact ⟨Nat.zero_le _, by omega, by simp⟩) ?_
  rintro ⟨i, out, a_out, c_out⟩ ⟨hi, hn, ho⟩
  refine w_norm2 (by dsimp only [List.cons_append, List.nil_append]) (by dsimp only [List.cons_append, List.nil_append]) ?_
  try dsimp only at hi hn ho ⊢
  refine w_seq ?_
  refine w_seq ?_
  refine w_region ?_
  refine wl_det rfl rfl rfl (op_move rfl) ?_
  refine wl_det rfl rfl rfl (op_move rfl) ?_
  refine wl_det rfl rfl rfl (op_lenT rfl tS31d (Sl.ent (by first | exact Sl.app (by assumption) _ | exact Sl.app (Sl.app (by assumption) _) _))) ?_
  refine wl_det rfl rfl rfl (op_lss rfl rfl) ?_
  refine wl_nil ?_
  refine st_tn ?_
  refine w_cond_d rfl (fun hc11 => ?_) (fun hc11 => ?_)
  · -- c11.t
    obtain ⟨x, hx⟩ := getE (l := l) (i := i) (by omega)
    have hlt := ltE hx
    have hlo : out.length ≤ l.length := by rw [ho]; simp; omega
    refine w_skip ?_
    refine st_tn ?_
    refine w_seq ?_
    refine w_block ?_
    refine w_seq ?_
    refine w_seq ?_
    refine w_region ?_
    refine wl_det rfl rfl rfl (op_move rfl) ?_
    refine wl_det rfl rfl rfl (op_move rfl) ?_
    refine wl_det rfl rfl rfl (op_idx rfl rfl tS31d (Sl.ent (Sl.app h _)) (by omega)) ?_
    refine wl_det rfl rfl rfl (op_ldx rfl tO3d (Sl.app h _) (by assumption) (by rfl)) ?_
    refine wl_det rfl rfl rfl (op_lss rfl rfl) ?_
    refine wl_det rfl rfl rfl (op_move rfl) ?_
    refine wl_gsplit (t := 19) rfl (fun hg19 => ?_) (fun hg19 => ?_)
    · -- 19 is True
      refine wl_unwanted rfl rfl rfl rfl rfl rfl rfl rfl ?_
      refine wl_unwanted rfl rfl rfl rfl rfl rfl rfl rfl ?_
      refine wl_unwanted rfl rfl rfl rfl rfl rfl rfl rfl ?_
      refine wl_unwanted rfl rfl rfl rfl rfl rfl rfl rfl ?_
      refine wl_unwanted rfl rfl rfl rfl rfl rfl rfl rfl ?_
      refine wl_unwanted rfl rfl rfl rfl rfl rfl rfl rfl ?_
      refine wl_unwanted rfl rfl rfl rfl rfl rfl rfl rfl ?_
      refine wl_det rfl rfl rfl (op_pick_t rfl rfl) ?_
      refine wl_nil ?_
      refine st_tn ?_
      refine w_cond_t (rfl) ?_
      refine w_seq ?_
      refine w_emp 77 (slO_nil 3 1) ?_
      refine w_region ?_
      refine wl_det rfl rfl rfl (op_assign rfl) ?_
      refine wl_det rfl rfl rfl (op_assign rfl) ?_
      refine wl_nil ?_
      refine st_tn ?_
      refine w_ret ?_
      refine st_tr ?_
      refine st_br ?_
      refine st_tr ?_
      refine st_tr ?_
      refine st_br ?_
      refine st_tr ?_
      refine st_ret (vs := [_, _]) [77] Try.results36 ⟨rfl, ⟨rfl, trivial⟩⟩ rfl ?_
      refine ⟨[(lab, _)], rfl, ?_⟩
      obtain ⟨h1, h2⟩ := rem_hit hn hx (remAt_r (by omega)) (by omega); exact ⟨none, 0, by rw [h1, h2]; rfl, by rw [h2]; rfl⟩
    · -- 19 is False
      refine wl_wanted_det rfl rfl rfl rfl rfl rfl rfl (op_move rfl) ?_
      refine wl_wanted_det rfl rfl rfl rfl rfl rfl rfl (op_move rfl) ?_
      refine wl_wanted_det rfl rfl rfl rfl rfl rfl rfl (op_idx rfl rfl tS31d (Sl.ent (Sl.app h _)) (by omega)) ?_
      refine wl_wanted_det rfl rfl rfl rfl rfl rfl rfl (op_ldx rfl tO3d (Sl.app h _) (by assumption) (by rfl)) ?_
      refine wl_wanted_det rfl rfl rfl rfl rfl rfl rfl (op_move rfl) ?_
      refine wl_wanted_det rfl rfl rfl rfl rfl rfl rfl (op_lenT rfl tS31d (Sl.ent (Sl.app g _))) ?_
      refine wl_wanted_det rfl rfl rfl rfl rfl rfl rfl (op_geq rfl rfl) ?_
      refine wl_det rfl rfl rfl (op_pick_f rfl rfl) ?_
      refine wl_nil ?_
      refine st_tn ?_
      refine w_cond_d rfl (fun hc27 => ?_) (fun hc27 => ?_)
      · -- c27.t
        refine w_seq ?_
        refine w_emp 77 (slO_nil 3 1) ?_
        refine w_region ?_
        refine wl_det rfl rfl rfl (op_assign rfl) ?_
        refine wl_det rfl rfl rfl (op_assign rfl) ?_
        refine wl_nil ?_
        refine st_tn ?_
        refine w_ret ?_
        refine st_tr ?_
        refine st_br ?_
        refine st_tr ?_
        refine st_tr ?_
        refine st_br ?_
        refine st_tr ?_
        refine st_ret (vs := [_, _]) [77] Try.results36 ⟨rfl, ⟨rfl, trivial⟩⟩ rfl ?_
        refine ⟨[(lab, _)], rfl, ?_⟩
        obtain ⟨h1, h2⟩ := rem_hit hn hx (remAt_r (by omega)) (by omega); exact ⟨none, 0, by rw [h1, h2]; rfl, by rw [h2]; rfl⟩
      · -- c27.f
        refine w_skip ?_
        refine st_tn ?_
        refine w_seq ?_
        refine w_seq ?_
        obtain ⟨y, hy⟩ := getE (l := m) (i := x.toNat) (by omega)
        refine w_region ?_
        refine wl_det rfl rfl rfl (op_move rfl) ?_
        refine wl_det rfl rfl rfl (op_move rfl) ?_
        refine wl_det rfl rfl rfl (op_move rfl) ?_
        refine wl_det rfl rfl rfl (op_idx rfl rfl tS31d (Sl.ent (Sl.app h _)) (by omega)) ?_
        refine wl_det rfl rfl rfl (op_ldx rfl tO3d (Sl.app h _) (by assumption) (by rfl)) ?_
        refine wl_det rfl rfl rfl (op_idxZ rfl rfl tS31d (Sl.ent (Sl.app g _)) (by omega) (by omega)) ?_
        refine wl_det rfl rfl rfl (op_ldx rfl tO3d (Sl.app g _) (by assumption) (by rfl)) ?_
        refine wl_det rfl rfl rfl (op_lss rfl rfl) ?_
        refine wl_nil ?_
        refine st_tn ?_
        refine w_cond_d rfl (fun hc35 => ?_) (fun hc35 => ?_)
        · -- c35.t
          refine w_seq ?_
          refine w_emp 78 (slO_nil 3 1) ?_
          refine w_region ?_
          refine wl_det rfl rfl rfl (op_assign rfl) ?_
          refine wl_det rfl rfl rfl (op_assign rfl) ?_
          refine wl_nil ?_
          refine st_tn ?_
          refine w_ret ?_
          refine st_tr ?_
          refine st_br ?_
          refine st_tr ?_
          refine st_tr ?_
          refine st_br ?_
          refine st_tr ?_
          refine st_ret (vs := [_, _]) [78] Try.results36 ⟨rfl, ⟨rfl, trivial⟩⟩ rfl ?_
          refine ⟨[(lab, _)], rfl, ?_⟩
          obtain ⟨h1, h2⟩ := rem_hit hn hx (remAt_n (by omega) hy hc35) (by omega); exact ⟨none, 0, by rw [h1, h2]; rfl, by rw [h2]; rfl⟩
        · -- c35.f
          refine w_skip ?_
          refine st_tn ?_
          refine w_region ?_
          refine wl_det rfl rfl rfl (op_move rfl) ?_
          refine wl_det rfl rfl rfl (op_move rfl) ?_
          refine wl_det rfl rfl rfl (op_move rfl) ?_
          refine wl_det rfl rfl rfl (op_move rfl) ?_
          refine wl_det rfl rfl rfl (op_idx rfl rfl tS31d (Sl.ent (Sl.app h _)) (by omega)) ?_
          refine wl_det rfl rfl rfl (op_ldx rfl tO3d (Sl.app h _) (by assumption) (by rfl)) ?_
          refine wl_det rfl rfl rfl (op_idxZ rfl rfl tS31d (Sl.ent (Sl.app g _)) (by omega) (by omega)) ?_
          refine wl_det rfl rfl rfl (op_ldx rfl tO3d (Sl.app g _) (by assumption) (by rfl)) ?_
          refine wl_op [] rfl rfl rfl rfl (op_buildSlice (enc := encZ) (l := [_]) (lab := 44) tL31_1d rfl rfl (fun _ => rfl) rfl) ?_
          rintro _ _ ⟨a44, c44, rfl, rfl⟩
          refine wl_op [6] rfl rfl rfl rfl (op_append (lab := 6) (lab' := 45) rfl rfl tP31d enc1Z (Sl.lab 44 rfl (by simp [maxLen])) (by simp; omega) (by simp; omega)) ?_
          rintro _ _ ⟨a45, c45, rfl, rfl⟩
          refine wl_det rfl rfl rfl (op_assign rfl) ?_
          refine wl_nil ?_
          refine st_bn ?_
          refine st_tn ?_
          refine w_region ?_
          refine wl_det rfl rfl rfl (op_move rfl) ?_
          refine wl_det rfl rfl rfl (op_add' rfl rfl (by omega)) ?_
          refine wl_det rfl rfl rfl (op_assign rfl) ?_
          refine wl_nil ?_
          refine st_roundQ (x := (i, out, a_out, c_out)) ((i + 1, _, _, _)) [45] rfl (rfl) (.cons rfl (.cons rfl (.nil _))) (.cons rfl (.cons rfl (.nil _))) (by
              try dsimp only
              exact ⟨by omega, rem_snoc hn hx (remAt_k (by omega) hy hc35), by rw [take_snoc hx, List.map_append, ho, List.map_cons, List.getD_eq_getElem?_getD, hy]; rfl⟩) (by
              try dsimp only
              omega) 
  · -- c11.f
    refine w_exit ?_
    refine st_te ?_
    refine st_te ?_
    refine st_be ?_
    refine st_tn ?_
    refine w_seq ?_
    rw [take_all (by omega)] at ho
    refine w_region ?_
    refine wl_det rfl rfl rfl (op_move rfl) ?_
    refine wl_det rfl rfl rfl (op_assign rfl) ?_
    refine wl_det rfl rfl rfl (op_assign rfl) ?_
    refine wl_nil ?_
    refine st_tn ?_
    refine w_ret ?_
    refine st_ret (vs := [_, _]) [6] Try.results36 ⟨rfl, ⟨rfl, trivial⟩⟩ rfl ?_
    refine ⟨[(lab, _)], rfl, ?_⟩
    obtain ⟨h1, h2⟩ := rem_ok (cs := l) (m := m) (fun j hj => hn j (by omega)); rw [h1, h2, ← ho]; exact ⟨_, _, rfl, rfl⟩

/-- Is a list a dictionary. -/
def chkAt (l : List Bs) (i : Nat) : Int := if (l.getD i []).length > 255 then 5 else if 0 < i ∧ l.getD i [] ≤ l.getD (i - 1) [] then 8 else 0
def chkE (l : List Bs) : Int := if l.length > 4096 then 6 else first (chkAt l) l.length
theorem getD_of {α : Type} {l : List α} {i : Nat} {x d : α} (h : l[i]? = some x) : l.getD i d = x := by rw [List.getD_eq_getElem?_getD, h]; rfl
theorem chkAt_long {l : List Bs} {i : Nat} {x : Bs} (hx : l[i]? = some x) (h : (x.length : Int) > 255) : chkAt l i = 5 := by unfold chkAt; rw [getD_of hx, if_pos (by omega)]
theorem chkAt_ord {l : List Bs} {i : Nat} {x y : Bs} (hx : l[i]? = some x) (hy : l[((i : Int) - 1).toNat]? = some y) (h : ¬ (x.length : Int) > 255) (h0 : (i : Int) > 0) (h1 : x ≤ y) : chkAt l i = 8 := by
  rw [show ((i : Int) - 1).toNat = i - 1 by omega] at hy
  unfold chkAt; rw [getD_of hx, getD_of hy, if_neg (by omega), if_pos ⟨by omega, h1⟩]
theorem chkAt_ok {l : List Bs} {i : Nat} {x y : Bs} (hx : l[i]? = some x) (hy : l[((i : Int) - 1).toNat]? = some y) (h : ¬ (x.length : Int) > 255) (h1 : ¬ x ≤ y) : chkAt l i = 0 := by
  unfold chkAt; rw [getD_of hx, if_neg (by omega)]
  rw [if_neg]; rintro ⟨h2, h3⟩
  rw [show ((i : Int) - 1).toNat = i - 1 by omega] at hy
  rw [getD_of hy] at h3; exact h1 h3
theorem chkAt_0 {l : List Bs} {i : Nat} {x : Bs} (hx : l[i]? = some x) (h : ¬ (x.length : Int) > 255) (h1 : ¬ (i : Int) > 0) : chkAt l i = 0 := by
  unfold chkAt; rw [getD_of hx, if_neg (by omega), if_neg (by omega)]
theorem chk_hit {l : List Bs} {i : Nat} {r : Int} (h0 : ¬ (l.length : Int) > 4096) (hn : ∀ j, j < i → chkAt l j = 0) (hi : i < l.length) (h : chkAt l i = r) (hr : r ≠ 0) : chkE l = r := by
  unfold chkE; rw [if_neg (by omega)]; exact first_hit hn h hr hi
theorem chk_snoc {l : List Bs} {i : Nat} (hn : ∀ j, j < i → chkAt l j = 0) (h : chkAt l i = 0) : ∀ j, j < i + 1 → chkAt l j = 0 := fun j hj => by
  rcases Nat.lt_or_eq_of_le (Nat.le_of_lt_succ hj) with hj | hj
  · exact hn j hj
  · subst hj; exact h
set_option maxHeartbeats 1000000 in
set_option maxRecDepth 100000 in
theorem check_any {σ : World} {F : List Res} {a : Option Addr} {c : Nat} {l : List Bs} (h : Sl σ F encT 1 (.slice a l.length c) l) (hl : l.length ≤ 1048576) :
    FnT Try.prog σ F 17 [.slice a l.length c] [] (fun u ρ => u = .int .i64 (chkE l) ∧ ρ = []) := by
  refine fn_of 32 Try.func17 rfl Try.ntmps17 rfl ?_
  have hle := h.i64
  refine w_seq ?_
  refine w_region ?_
  refine wl_det rfl rfl rfl (op_assign rfl) ?_
  refine wl_nil ?_
  refine st_tn ?_
  refine w_seq ?_
  refine w_seq ?_
  refine w_region ?_
  refine wl_det rfl rfl rfl (op_move rfl) ?_
  refine wl_det rfl rfl rfl (op_lenT rfl tS22d (Sl.ent (by first | exact Sl.app (by assumption) _ | exact Sl.app (Sl.app (by assumption) _) _))) ?_
  refine wl_det rfl rfl rfl (op_gtr rfl rfl) ?_
  refine wl_nil ?_
  refine st_tn ?_
  refine w_cond_d rfl (fun hc7 => ?_) (fun hc7 => ?_)
  · -- c7.t
    refine w_seq ?_
    refine w_region ?_
    refine wl_det rfl rfl rfl (op_assign rfl) ?_
    refine wl_nil ?_
    refine st_tn ?_
    refine w_ret ?_
    refine st_tr ?_
    refine st_ret (vs := [_]) [] Try.results17 ⟨rfl, trivial⟩ rfl ?_
    refine ⟨_, rfl, ?_⟩
    refine ⟨?_, rfl⟩; unfold chkE; rw [if_pos (by omega)]; rfl
  · -- c7.f
    refine w_skip ?_
    refine st_tn ?_
    refine w_seq ?_
    refine w_seq ?_
    refine w_region ?_
    refine wl_det rfl rfl rfl (op_move rfl) ?_
    refine wl_det rfl rfl rfl (op_lenT rfl tS22d (Sl.ent (by first | exact Sl.app (by assumption) _ | exact Sl.app (Sl.app (by assumption) _) _))) ?_
    refine wl_det rfl rfl rfl (op_move rfl) ?_
    refine wl_nil ?_
    refine st_tn ?_
    refine w_block ?_
    refine w_loopQ (X := Nat) (fun z => z ≤ l.length ∧ ∀ j, j < z → chkAt l j = 0) (fun z => [(10, .int .i64 (z))]) (fun _ => []) (fun z => l.length - z) (0) [(0, _), (8, _), (9, _)] [] [] rfl (rfl) (.cons rfl (.nil _)) (.cons rfl (.cons rfl (.cons rfl (.nil _)))) (by
        try dsimp only
        exact ⟨Nat.zero_le _, by omega⟩) ?_
    rintro i ⟨hi, hn⟩
    refine w_norm2 (by dsimp only [List.cons_append, List.nil_append]) (by dsimp only [List.cons_append, List.nil_append]) ?_
    try dsimp only at hi hn ⊢
    refine w_seq ?_
    refine w_region ?_
    refine wl_det rfl rfl rfl (op_lss rfl rfl) ?_
    refine wl_nil ?_
    refine st_tn ?_
    refine w_seq ?_
    refine w_cond_d rfl (fun hc11 => ?_) (fun hc11 => ?_)
    · -- c11.t
      obtain ⟨x, hx⟩ := getE (l := l) (i := i) (by omega)
      have hlt := ltE hx
      refine w_skip ?_
      refine st_tn ?_
      refine w_seq ?_
      refine w_block ?_
      refine w_seq ?_
      refine w_region ?_
      refine wl_det rfl rfl rfl (op_move rfl) ?_
      refine wl_det rfl rfl rfl (op_idx rfl rfl tS22d (Sl.ent (by first | exact Sl.app (by assumption) _ | exact Sl.app (Sl.app (by assumption) _) _)) (by omega)) ?_
      refine wl_det rfl rfl rfl (op_ldx rfl tO9d (by first | exact Sl.app (by assumption) _ | exact Sl.app (Sl.app (by assumption) _) _) (by assumption) (by rfl)) ?_
      refine wl_det rfl rfl rfl (op_assign rfl) ?_
      refine wl_det rfl rfl rfl (op_assign rfl) ?_
      refine wl_nil ?_
      refine st_tn ?_
      refine w_block ?_
      refine w_seq ?_
      refine w_region ?_
      refine wl_det rfl rfl rfl (op_move rfl) ?_
      refine wl_det rfl rfl rfl (op_lenBs rfl Try.underlying9) ?_
      refine wl_det rfl rfl rfl (op_gtr rfl rfl) ?_
      refine wl_det rfl rfl rfl (op_assign rfl) ?_
      refine wl_nil ?_
      refine st_tn ?_
      refine w_cond_d rfl (fun hc15 => ?_) (fun hc15 => ?_)
      · -- c15.t
        refine w_seq ?_
        refine w_region ?_
        refine wl_det rfl rfl rfl (op_assign rfl) ?_
        refine wl_nil ?_
        refine st_tn ?_
        refine w_ret ?_
        refine st_br ?_
        refine st_br ?_
        refine st_tr ?_
        refine st_tr ?_
        refine st_br ?_
        refine st_tr ?_
        refine st_ret (vs := [_]) [] Try.results17 ⟨rfl, trivial⟩ rfl ?_
        refine ⟨_, rfl, ?_⟩
        exact ⟨by rw [chk_hit hc7 hn hlt (chkAt_long hx hc15) (by omega)]; rfl, rfl⟩
      · -- c15.f
        refine w_seq ?_
        refine w_region ?_
        refine wl_det rfl rfl rfl (op_move rfl) ?_
        refine wl_det rfl rfl rfl (op_gtr rfl rfl) ?_
        refine wl_det rfl rfl rfl (op_move rfl) ?_
        refine wl_gsplit (t := 22) rfl (fun hg22 => ?_) (fun hg22 => ?_)
        · -- 22 is True
          obtain ⟨y, hy⟩ := getE (l := l) (i := ((i : Int) - 1).toNat) (by omega)
          refine wl_wanted_det rfl rfl rfl rfl rfl rfl rfl (op_move rfl) ?_
          refine wl_wanted_det rfl rfl rfl rfl rfl rfl rfl (op_move rfl) ?_
          refine wl_wanted_det rfl rfl rfl rfl rfl rfl rfl (op_move rfl) ?_
          refine wl_wanted_det rfl rfl rfl rfl rfl rfl rfl (op_sub' rfl rfl (by omega)) ?_
          refine wl_wanted_det rfl rfl rfl rfl rfl rfl rfl (op_idxZ rfl rfl tS22d (Sl.ent (by first | exact Sl.app (by assumption) _ | exact Sl.app (Sl.app (by assumption) _) _)) (by omega) (by omega)) ?_
          refine wl_wanted_det rfl rfl rfl rfl rfl rfl rfl (op_ldx rfl tO9d (by first | exact Sl.app (by assumption) _ | exact Sl.app (Sl.app (by assumption) _) _) (by assumption) (by rfl)) ?_
          refine wl_wanted_det rfl rfl rfl rfl rfl rfl rfl (op_leBs rfl rfl) ?_
          refine wl_det rfl rfl rfl (op_pick_t rfl rfl) ?_
          refine wl_det rfl rfl rfl (op_assign rfl) ?_
          refine wl_nil ?_
          refine st_tn ?_
          refine w_cond_d rfl (fun hc19 => ?_) (fun hc19 => ?_)
          · -- c19.t
            refine w_seq ?_
            refine w_region ?_
            refine wl_det rfl rfl rfl (op_assign rfl) ?_
            refine wl_nil ?_
            refine st_tn ?_
            refine w_ret ?_
            refine st_br ?_
            refine st_br ?_
            refine st_tr ?_
            refine st_tr ?_
            refine st_br ?_
            refine st_tr ?_
            refine st_ret (vs := [_]) [] Try.results17 ⟨rfl, trivial⟩ rfl ?_
            refine ⟨_, rfl, ?_⟩
            exact ⟨by rw [chk_hit hc7 hn hlt (chkAt_ord hx hy hc15 hg22 hc19) (by omega)]; rfl, rfl⟩
          · -- c19.f
            refine w_skip ?_
            refine st_bn ?_
            refine st_bn ?_
            refine st_tn ?_
            refine w_region ?_
            refine wl_det rfl rfl rfl (op_add' rfl rfl (by omega)) ?_
            refine wl_det rfl rfl rfl (op_move rfl) ?_
            refine wl_nil ?_
            refine st_roundQ (x := i) (i + 1) [] rfl (rfl) (.cons rfl (.nil _)) (.cons rfl (.cons rfl (.cons rfl (.nil _)))) (by
                try dsimp only
                refine ⟨by omega, chk_snoc hn ?_⟩
                first | exact chkAt_ok hx hy hc15 hc19 | exact chkAt_0 hx hc15 hg22) (by
                try dsimp only
                omega) 
        · -- 22 is False
          refine wl_unwanted rfl rfl rfl rfl rfl rfl rfl rfl ?_
          refine wl_unwanted rfl rfl rfl rfl rfl rfl rfl rfl ?_
          refine wl_unwanted rfl rfl rfl rfl rfl rfl rfl rfl ?_
          refine wl_unwanted rfl rfl rfl rfl rfl rfl rfl rfl ?_
          refine wl_unwanted rfl rfl rfl rfl rfl rfl rfl rfl ?_
          refine wl_unwanted rfl rfl rfl rfl rfl rfl rfl rfl ?_
          refine wl_unwanted rfl rfl rfl rfl rfl rfl rfl rfl ?_
          refine wl_det rfl rfl rfl (op_pick_f rfl rfl) ?_
          refine wl_det rfl rfl rfl (op_assign rfl) ?_
          refine wl_nil ?_
          refine st_tn ?_
          refine w_cond_f (rfl) ?_
          refine w_skip ?_
          refine st_bn ?_
          refine st_bn ?_
          refine st_tn ?_
          refine w_region ?_
          refine wl_det rfl rfl rfl (op_add' rfl rfl (by omega)) ?_
          refine wl_det rfl rfl rfl (op_move rfl) ?_
          refine wl_nil ?_
          refine st_roundQ (x := i) (i + 1) [] rfl (rfl) (.cons rfl (.nil _)) (.cons rfl (.cons rfl (.cons rfl (.nil _)))) (by
              try dsimp only
              refine ⟨by omega, chk_snoc hn ?_⟩
              first | exact chkAt_ok hx hy hc15 hc19 | exact chkAt_0 hx hc15 hg22) (by
              try dsimp only
              omega) 
    · -- c11.f
      refine w_exit ?_
      refine st_te ?_
      refine st_te ?_
      refine st_be ?_
      refine st_tn ?_
      refine w_seq ?_
      refine w_region ?_
      refine wl_det rfl rfl rfl (op_assign rfl) ?_
      refine wl_nil ?_
      refine st_tn ?_
      refine w_ret ?_
      refine st_ret (vs := [_]) [] Try.results17 ⟨rfl, trivial⟩ rfl ?_
      refine ⟨_, rfl, ?_⟩
      refine ⟨?_, rfl⟩; unfold chkE; rw [if_neg (by omega), first_none (fun j hj => hn j (by omega))]; rfl

set_option maxHeartbeats 1000000 in
set_option maxRecDepth 100000 in
theorem rcheck_any {σ : World} {F : List Res} {a : Option Addr} {c : Nat} {l : List Bs} (h : Sl σ F encT 1 (.slice a l.length c) l) (hl : l.length ≤ 1048576) :
    FnT Try.prog σ F 18 [.slice a l.length c] [] (fun u ρ => u = .int .i64 (chkE l) ∧ ρ = []) := by
  refine fn_of 33 Try.func18 rfl Try.ntmps18 rfl ?_
  have hle := h.i64
  refine w_seq ?_
  refine w_region ?_
  refine wl_det rfl rfl rfl (op_assign rfl) ?_
  refine wl_nil ?_
  refine st_tn ?_
  refine w_seq ?_
  refine w_seq ?_
  refine w_region ?_
  refine wl_det rfl rfl rfl (op_move rfl) ?_
  refine wl_det rfl rfl rfl (op_lenT rfl tS22d (Sl.ent (by first | exact Sl.app (by assumption) _ | exact Sl.app (Sl.app (by assumption) _) _))) ?_
  refine wl_det rfl rfl rfl (op_gtr rfl rfl) ?_
  refine wl_nil ?_
  refine st_tn ?_
  refine w_cond_d rfl (fun hc6 => ?_) (fun hc6 => ?_)
  · -- c6.t
    refine w_seq ?_
    refine w_region ?_
    refine wl_det rfl rfl rfl (op_assign rfl) ?_
    refine wl_nil ?_
    refine st_tn ?_
    refine w_ret ?_
    refine st_tr ?_
    refine st_ret (vs := [_]) [] Try.results18 ⟨rfl, trivial⟩ rfl ?_
    refine ⟨_, rfl, ?_⟩
    refine ⟨?_, rfl⟩; unfold chkE; rw [if_pos (by omega)]; rfl
  · -- c6.f
    refine w_skip ?_
    refine st_tn ?_
    refine w_seq ?_
    refine w_seq ?_
    refine w_region ?_
    refine wl_det rfl rfl rfl (op_assign rfl) ?_
    refine wl_nil ?_
    refine st_tn ?_
    refine w_block ?_
    refine w_loopQ (X := Nat) (fun z => z ≤ l.length ∧ ∀ j, j < z → chkAt l j = 0) (fun z => [(3, .int .i64 (z))]) (fun _ => []) (fun z => l.length - z) (0) [(0, _)] [] [] rfl (rfl) (.cons rfl (.nil _)) (.cons rfl (.nil _)) (by
        try dsimp only
        exact ⟨Nat.zero_le _, by omega⟩) ?_
    rintro i ⟨hi, hn⟩
    refine w_norm2 (by dsimp only [List.cons_append, List.nil_append]) (by dsimp only [List.cons_append, List.nil_append]) ?_
    try dsimp only at hi hn ⊢
    refine w_seq ?_
    refine w_seq ?_
    refine w_region ?_
    refine wl_det rfl rfl rfl (op_move rfl) ?_
    refine wl_det rfl rfl rfl (op_move rfl) ?_
    refine wl_det rfl rfl rfl (op_lenT rfl tS22d (Sl.ent (by first | exact Sl.app (by assumption) _ | exact Sl.app (Sl.app (by assumption) _) _))) ?_
    refine wl_det rfl rfl rfl (op_lss rfl rfl) ?_
    refine wl_nil ?_
    refine st_tn ?_
    refine w_cond_d rfl (fun hc10 => ?_) (fun hc10 => ?_)
    · -- c10.t
      obtain ⟨x, hx⟩ := getE (l := l) (i := i) (by omega)
      have hlt := ltE hx
      refine w_skip ?_
      refine st_tn ?_
      refine w_seq ?_
      refine w_block ?_
      refine w_seq ?_
      refine w_seq ?_
      refine w_region ?_
      refine wl_det rfl rfl rfl (op_move rfl) ?_
      refine wl_det rfl rfl rfl (op_move rfl) ?_
      refine wl_det rfl rfl rfl (op_idx rfl rfl tS22d (Sl.ent (by first | exact Sl.app (by assumption) _ | exact Sl.app (Sl.app (by assumption) _) _)) (by omega)) ?_
      refine wl_det rfl rfl rfl (op_ldx rfl tO9d (by first | exact Sl.app (by assumption) _ | exact Sl.app (Sl.app (by assumption) _) _) (by assumption) (by rfl)) ?_
      refine wl_det rfl rfl rfl (op_lenBs rfl Try.underlying9) ?_
      refine wl_det rfl rfl rfl (op_gtr rfl rfl) ?_
      refine wl_nil ?_
      refine st_tn ?_
      refine w_cond_d rfl (fun hc18 => ?_) (fun hc18 => ?_)
      · -- c18.t
        refine w_seq ?_
        refine w_region ?_
        refine wl_det rfl rfl rfl (op_assign rfl) ?_
        refine wl_nil ?_
        refine st_tn ?_
        refine w_ret ?_
        refine st_tr ?_
        refine st_br ?_
        refine st_tr ?_
        refine st_tr ?_
        refine st_br ?_
        refine st_tr ?_
        refine st_ret (vs := [_]) [] Try.results18 ⟨rfl, trivial⟩ rfl ?_
        refine ⟨_, rfl, ?_⟩
        exact ⟨by rw [chk_hit hc6 hn hlt (chkAt_long hx hc18) (by omega)]; rfl, rfl⟩
      · -- c18.f
        refine w_skip ?_
        refine st_tn ?_
        refine w_seq ?_
        by_cases hpos : (i : Int) > 0
        · -- hpos True
          obtain ⟨y, hy⟩ := getE (l := l) (i := ((i : Int) - 1).toNat) (by omega)
          refine w_drawW (fun β => [⟨19, [], [], [], noW (_), false, [], []⟩, ⟨20, [0], [], [], noW (_), false, [], []⟩, ⟨21, [1], [], [], noW (_), false, [], []⟩, ⟨22, [], [], [], noW (_), false, [], []⟩, ⟨23, [], [], [], noW (_), false, [], []⟩, ⟨24, [3, 4], [], [], noW (_), false, [], []⟩, ⟨25, [5], [], [], noW (_), false, [], []⟩, ⟨26, [], [], [], noW (_), false, [], []⟩, ⟨27, [], [], [], noW (_), false, [], []⟩, ⟨28, [8], [], [], noW (_), false, [], []⟩, ⟨29, [7, 9], [], [], noW (_), false, [], []⟩, ⟨30, [10], [], [], noW (_), false, [], []⟩, ⟨31, [6, 11], [], [], noW (_), false, [], []⟩, ⟨32, [2, 12], [], [], noW (_), false, [], []⟩]) [] [3, 0] [⟨19, [], [], false, [], []⟩, ⟨20, [0], [], false, [], []⟩, ⟨21, [1], [], false, [], []⟩, ⟨22, [], [], false, [], []⟩, ⟨23, [], [], false, [], []⟩, ⟨24, [3, 4], [], false, [], []⟩, ⟨25, [5], [], false, [], []⟩, ⟨26, [], [], false, [], []⟩, ⟨27, [], [], false, [], []⟩, ⟨28, [8], [], false, [], []⟩, ⟨29, [7, 9], [], false, [], []⟩, ⟨30, [10], [], false, [], []⟩, ⟨31, [6, 11], [], false, [], []⟩, ⟨32, [2, 12], [], false, [], []⟩] [[], [], [], [], [], [], [], [], [], [], [], [], [], []] [[], [], [], [], [], [], [], [], [], [], [], [], [], []] tMixd (fun _ => by rfl) (fun _ => by rfl) (by kernel_rfl) (by kernel_rfl) (by rfl) (by rfl)
              (fun β => ⟨.p rfl (by intro X; exact op_move rfl),
              ⟨.p rfl (by intro X; rintro _ _ ⟨rfl, rfl⟩; exact op_gtr rfl rfl),
              ⟨.p rfl (by intro X; rintro _ _ ⟨rfl, rfl⟩; exact op_move rfl),
              ⟨.w rfl rfl rfl (by rintro _ _ ⟨rfl, rfl⟩; first | rfl | (exact congrArg Value.bool (decide_eq_true (by omega))) | (exact congrArg Value.bool (decide_eq_false (by omega))) | (simp; done) | (simp; omega) | (simp [*]; done)) (by intro X; exact op_move rfl),
              ⟨.w rfl rfl rfl (by rintro _ _ ⟨rfl, rfl⟩; first | rfl | (exact congrArg Value.bool (decide_eq_true (by omega))) | (exact congrArg Value.bool (decide_eq_false (by omega))) | (simp; done) | (simp; omega) | (simp [*]; done)) (by intro X; exact op_move rfl),
              ⟨.w rfl rfl rfl (by rintro _ _ ⟨rfl, rfl⟩; first | rfl | (exact congrArg Value.bool (decide_eq_true (by omega))) | (exact congrArg Value.bool (decide_eq_false (by omega))) | (simp; done) | (simp; omega) | (simp [*]; done)) (by intro X; rintro _ _ ⟨rfl, rfl⟩ _ _ ⟨rfl, rfl⟩; exact op_idx rfl rfl tS22d (Sl.ent (by first | exact Sl.app (by assumption) _ | exact Sl.app (Sl.app (by assumption) _) _)) (by omega)),
              ⟨.w rfl rfl rfl (by rintro _ _ ⟨rfl, rfl⟩; first | rfl | (exact congrArg Value.bool (decide_eq_true (by omega))) | (exact congrArg Value.bool (decide_eq_false (by omega))) | (simp; done) | (simp; omega) | (simp [*]; done)) (by intro X; rintro _ _ ⟨rfl, rfl⟩; exact op_ldx rfl tO9d (by first | exact Sl.app (by assumption) _ | exact Sl.app (Sl.app (by assumption) _) _) (by assumption) (by rfl)),
              ⟨.w rfl rfl rfl (by rintro _ _ ⟨rfl, rfl⟩; first | rfl | (exact congrArg Value.bool (decide_eq_true (by omega))) | (exact congrArg Value.bool (decide_eq_false (by omega))) | (simp; done) | (simp; omega) | (simp [*]; done)) (by intro X; exact op_move rfl),
              ⟨.w rfl rfl rfl (by rintro _ _ ⟨rfl, rfl⟩; first | rfl | (exact congrArg Value.bool (decide_eq_true (by omega))) | (exact congrArg Value.bool (decide_eq_false (by omega))) | (simp; done) | (simp; omega) | (simp [*]; done)) (by intro X; exact op_move rfl),
              ⟨.w rfl rfl rfl (by rintro _ _ ⟨rfl, rfl⟩; first | rfl | (exact congrArg Value.bool (decide_eq_true (by omega))) | (exact congrArg Value.bool (decide_eq_false (by omega))) | (simp; done) | (simp; omega) | (simp [*]; done)) (by intro X; rintro _ _ ⟨rfl, rfl⟩; exact op_sub' rfl rfl (by omega)),
              ⟨.w rfl rfl rfl (by rintro _ _ ⟨rfl, rfl⟩; first | rfl | (exact congrArg Value.bool (decide_eq_true (by omega))) | (exact congrArg Value.bool (decide_eq_false (by omega))) | (simp; done) | (simp; omega) | (simp [*]; done)) (by intro X; rintro _ _ ⟨rfl, rfl⟩ _ _ ⟨rfl, rfl⟩; exact op_idxZ rfl rfl tS22d (Sl.ent (by first | exact Sl.app (by assumption) _ | exact Sl.app (Sl.app (by assumption) _) _)) (by omega) (by omega)),
              ⟨.w rfl rfl rfl (by rintro _ _ ⟨rfl, rfl⟩; first | rfl | (exact congrArg Value.bool (decide_eq_true (by omega))) | (exact congrArg Value.bool (decide_eq_false (by omega))) | (simp; done) | (simp; omega) | (simp [*]; done)) (by intro X; rintro _ _ ⟨rfl, rfl⟩; exact op_ldx rfl tO9d (by first | exact Sl.app (by assumption) _ | exact Sl.app (Sl.app (by assumption) _) _) (by assumption) (by rfl)),
              ⟨.w rfl rfl rfl (by rintro _ _ ⟨rfl, rfl⟩; first | rfl | (exact congrArg Value.bool (decide_eq_true (by omega))) | (exact congrArg Value.bool (decide_eq_false (by omega))) | (simp; done) | (simp; omega) | (simp [*]; done)) (by intro X; rintro _ _ ⟨rfl, rfl⟩ _ _ ⟨rfl, rfl⟩; exact op_leBs rfl rfl),
              ⟨.p rfl (by intro X; rintro _ _ ⟨rfl, rfl⟩ _ _ ⟨rfl, rfl⟩; exact op_pick_t (by first | rfl | (show some (Value.bool (decide _)) = _; rw [decide_eq_true (by omega)]) | (show some (Value.bool (decide _)) = _; rw [decide_eq_false (by omega)]) | (simp [ev, lk]; done) | (simp [ev, lk]; omega) | (simp [ev, lk, *]; done)) rfl),
              trivial⟩⟩⟩⟩⟩⟩⟩⟩⟩⟩⟩⟩⟩⟩)
              (fun β β' => ⟨fun _ => by rfl, ⟨fun _ => by rfl, ⟨fun _ => by rfl, ⟨fun _ => by rfl, ⟨fun _ => by rfl, ⟨fun _ => by rfl, ⟨fun _ => by rfl, ⟨fun _ => by rfl, ⟨fun _ => by rfl, ⟨fun _ => by rfl, ⟨fun _ => by rfl, ⟨fun _ => by rfl, ⟨fun _ => by rfl, ⟨fun _ => by rfl, trivial⟩⟩⟩⟩⟩⟩⟩⟩⟩⟩⟩⟩⟩⟩) ?_
          intro β
          rintro _ _ ⟨rfl, rfl⟩ _ _ ⟨rfl, rfl⟩ _ _ ⟨rfl, rfl⟩ _ _ ⟨rfl, rfl⟩ _ _ ⟨rfl, rfl⟩ _ _ ⟨rfl, rfl⟩ _ _ ⟨rfl, rfl⟩ _ _ ⟨rfl, rfl⟩ _ _ ⟨rfl, rfl⟩ _ _ ⟨rfl, rfl⟩ _ _ ⟨rfl, rfl⟩ _ _ ⟨rfl, rfl⟩ _ _ ⟨rfl, rfl⟩ _ _ ⟨rfl, rfl⟩
          refine wl_norm (e' := [(0, _), (3, _), (32, _)]) (.cons rfl (.cons rfl (.cons rfl (.nil _)))) (by dsimp only [cond_false, cond_true, List.nil_append, List.cons_append]) ?_
          refine wl_nil ?_
          refine st_tn ?_
          refine w_cond_d rfl (fun hc32 => ?_) (fun hc32 => ?_)
          · -- c32.t
            refine w_seq ?_
            refine w_region ?_
            refine wl_det rfl rfl rfl (op_assign rfl) ?_
            refine wl_nil ?_
            refine st_tn ?_
            refine w_ret ?_
            refine st_br ?_
            refine st_tr ?_
            refine st_tr ?_
            refine st_br ?_
            refine st_tr ?_
            refine st_ret (vs := [_]) [] Try.results18 ⟨rfl, trivial⟩ rfl ?_
            refine ⟨_, rfl, ?_⟩
            exact ⟨by rw [chk_hit hc6 hn hlt (chkAt_ord hx hy hc18 hpos hc32) (by omega)]; rfl, rfl⟩
          · -- c32.f
            refine w_skip ?_
            refine st_bn ?_
            refine st_tn ?_
            refine w_region ?_
            refine wl_det rfl rfl rfl (op_move rfl) ?_
            refine wl_det rfl rfl rfl (op_add' rfl rfl (by omega)) ?_
            refine wl_det rfl rfl rfl (op_assign rfl) ?_
            refine wl_nil ?_
            refine st_roundQ (x := i) (i + 1) [] rfl (rfl) (.cons rfl (.nil _)) (.cons rfl (.nil _)) (by
                try dsimp only
                refine ⟨by omega, chk_snoc hn ?_⟩
                first | exact chkAt_ok hx hy hc18 hc32 | exact chkAt_0 hx hc18 hpos) (by
                try dsimp only
                omega) 
        · -- hpos False
          refine w_drawW (fun β => [⟨19, [], [], [], noW (_), false, [], []⟩, ⟨20, [0], [], [], noW (_), false, [], []⟩, ⟨21, [1], [], [], noW (_), false, [], []⟩, ⟨22, [], [], [], noW (Det undef), false, [], []⟩, ⟨23, [], [], [], noW (Det undef), false, [], []⟩, ⟨24, [], [], [], noW (Det undef), false, [], []⟩, ⟨25, [], [], [], noW (Det undef), false, [], []⟩, ⟨26, [], [], [], noW (Det undef), false, [], []⟩, ⟨27, [], [], [], noW (Det undef), false, [], []⟩, ⟨28, [], [], [], noW (Det undef), false, [], []⟩, ⟨29, [], [], [], noW (Det undef), false, [], []⟩, ⟨30, [], [], [], noW (Det undef), false, [], []⟩, ⟨31, [], [], [], noW (Det undef), false, [], []⟩, ⟨32, [2, 12], [], [], noW (_), false, [], []⟩]) [] [3, 0] [⟨19, [], [], false, [], []⟩, ⟨20, [0], [], false, [], []⟩, ⟨21, [1], [], false, [], []⟩, ⟨22, [], [], false, [], []⟩, ⟨23, [], [], false, [], []⟩, ⟨24, [], [], false, [], []⟩, ⟨25, [], [], false, [], []⟩, ⟨26, [], [], false, [], []⟩, ⟨27, [], [], false, [], []⟩, ⟨28, [], [], false, [], []⟩, ⟨29, [], [], false, [], []⟩, ⟨30, [], [], false, [], []⟩, ⟨31, [], [], false, [], []⟩, ⟨32, [2, 12], [], false, [], []⟩] [[], [], [], [], [], [], [], [], [], [], [], [], [], []] [[], [], [], [], [], [], [], [], [], [], [], [], [], []] tMixd (fun _ => by rfl) (fun _ => by rfl) (by kernel_rfl) (by kernel_rfl) (by rfl) (by rfl)
              (fun β => ⟨.p rfl (by intro X; exact op_move rfl),
              ⟨.p rfl (by intro X; rintro _ _ ⟨rfl, rfl⟩; exact op_gtr rfl rfl),
              ⟨.p rfl (by intro X; rintro _ _ ⟨rfl, rfl⟩; exact op_move rfl),
              ⟨.u rfl rfl rfl (by rintro _ _ ⟨rfl, rfl⟩; exact congrArg (offB true) (by first | rfl | (exact congrArg Value.bool (decide_eq_true (by omega))) | (exact congrArg Value.bool (decide_eq_false (by omega))) | (simp; done) | (simp; omega) | (simp [*]; done) : _ = Value.bool false)) ⟨rfl, rfl⟩ rfl rfl,
              ⟨.u rfl rfl rfl (by rintro _ _ ⟨rfl, rfl⟩; exact congrArg (offB true) (by first | rfl | (exact congrArg Value.bool (decide_eq_true (by omega))) | (exact congrArg Value.bool (decide_eq_false (by omega))) | (simp; done) | (simp; omega) | (simp [*]; done) : _ = Value.bool false)) ⟨rfl, rfl⟩ rfl rfl,
              ⟨.u rfl rfl rfl (by rintro _ _ ⟨rfl, rfl⟩; exact congrArg (offB true) (by first | rfl | (exact congrArg Value.bool (decide_eq_true (by omega))) | (exact congrArg Value.bool (decide_eq_false (by omega))) | (simp; done) | (simp; omega) | (simp [*]; done) : _ = Value.bool false)) ⟨rfl, rfl⟩ rfl rfl,
              ⟨.u rfl rfl rfl (by rintro _ _ ⟨rfl, rfl⟩; exact congrArg (offB true) (by first | rfl | (exact congrArg Value.bool (decide_eq_true (by omega))) | (exact congrArg Value.bool (decide_eq_false (by omega))) | (simp; done) | (simp; omega) | (simp [*]; done) : _ = Value.bool false)) ⟨rfl, rfl⟩ rfl rfl,
              ⟨.u rfl rfl rfl (by rintro _ _ ⟨rfl, rfl⟩; exact congrArg (offB true) (by first | rfl | (exact congrArg Value.bool (decide_eq_true (by omega))) | (exact congrArg Value.bool (decide_eq_false (by omega))) | (simp; done) | (simp; omega) | (simp [*]; done) : _ = Value.bool false)) ⟨rfl, rfl⟩ rfl rfl,
              ⟨.u rfl rfl rfl (by rintro _ _ ⟨rfl, rfl⟩; exact congrArg (offB true) (by first | rfl | (exact congrArg Value.bool (decide_eq_true (by omega))) | (exact congrArg Value.bool (decide_eq_false (by omega))) | (simp; done) | (simp; omega) | (simp [*]; done) : _ = Value.bool false)) ⟨rfl, rfl⟩ rfl rfl,
              ⟨.u rfl rfl rfl (by rintro _ _ ⟨rfl, rfl⟩; exact congrArg (offB true) (by first | rfl | (exact congrArg Value.bool (decide_eq_true (by omega))) | (exact congrArg Value.bool (decide_eq_false (by omega))) | (simp; done) | (simp; omega) | (simp [*]; done) : _ = Value.bool false)) ⟨rfl, rfl⟩ rfl rfl,
              ⟨.u rfl rfl rfl (by rintro _ _ ⟨rfl, rfl⟩; exact congrArg (offB true) (by first | rfl | (exact congrArg Value.bool (decide_eq_true (by omega))) | (exact congrArg Value.bool (decide_eq_false (by omega))) | (simp; done) | (simp; omega) | (simp [*]; done) : _ = Value.bool false)) ⟨rfl, rfl⟩ rfl rfl,
              ⟨.u rfl rfl rfl (by rintro _ _ ⟨rfl, rfl⟩; exact congrArg (offB true) (by first | rfl | (exact congrArg Value.bool (decide_eq_true (by omega))) | (exact congrArg Value.bool (decide_eq_false (by omega))) | (simp; done) | (simp; omega) | (simp [*]; done) : _ = Value.bool false)) ⟨rfl, rfl⟩ rfl rfl,
              ⟨.u rfl rfl rfl (by rintro _ _ ⟨rfl, rfl⟩; exact congrArg (offB true) (by first | rfl | (exact congrArg Value.bool (decide_eq_true (by omega))) | (exact congrArg Value.bool (decide_eq_false (by omega))) | (simp; done) | (simp; omega) | (simp [*]; done) : _ = Value.bool false)) ⟨rfl, rfl⟩ rfl rfl,
              ⟨.p rfl (by intro X; rintro _ _ ⟨rfl, rfl⟩ _ _ ⟨rfl, rfl⟩; exact op_pick_f (by first | rfl | (show some (Value.bool (decide _)) = _; rw [decide_eq_true (by omega)]) | (show some (Value.bool (decide _)) = _; rw [decide_eq_false (by omega)]) | (simp [ev, lk]; done) | (simp [ev, lk]; omega) | (simp [ev, lk, *]; done)) rfl),
              trivial⟩⟩⟩⟩⟩⟩⟩⟩⟩⟩⟩⟩⟩⟩)
              (fun β β' => ⟨fun _ => by rfl, ⟨fun _ => by rfl, ⟨fun _ => by rfl, ⟨fun _ => by rfl, ⟨fun _ => by rfl, ⟨fun _ => by rfl, ⟨fun _ => by rfl, ⟨fun _ => by rfl, ⟨fun _ => by rfl, ⟨fun _ => by rfl, ⟨fun _ => by rfl, ⟨fun _ => by rfl, ⟨fun _ => by rfl, ⟨fun _ => by rfl, trivial⟩⟩⟩⟩⟩⟩⟩⟩⟩⟩⟩⟩⟩⟩) ?_
          intro β
          rintro _ _ ⟨rfl, rfl⟩ _ _ ⟨rfl, rfl⟩ _ _ ⟨rfl, rfl⟩ _ _ ⟨rfl, rfl⟩ _ _ ⟨rfl, rfl⟩ _ _ ⟨rfl, rfl⟩ _ _ ⟨rfl, rfl⟩ _ _ ⟨rfl, rfl⟩ _ _ ⟨rfl, rfl⟩ _ _ ⟨rfl, rfl⟩ _ _ ⟨rfl, rfl⟩ _ _ ⟨rfl, rfl⟩ _ _ ⟨rfl, rfl⟩ _ _ ⟨rfl, rfl⟩
          refine wl_norm (e' := [(0, _), (3, _), (32, _)]) (.cons rfl (.cons rfl (.cons rfl (.nil _)))) (by dsimp only [cond_false, cond_true, List.nil_append, List.cons_append]) ?_
          refine wl_nil ?_
          refine st_tn ?_
          refine w_cond_f (rfl) ?_
          refine w_skip ?_
          refine st_bn ?_
          refine st_tn ?_
          refine w_region ?_
          refine wl_det rfl rfl rfl (op_move rfl) ?_
          refine wl_det rfl rfl rfl (op_add' rfl rfl (by omega)) ?_
          refine wl_det rfl rfl rfl (op_assign rfl) ?_
          refine wl_nil ?_
          refine st_roundQ (x := i) (i + 1) [] rfl (rfl) (.cons rfl (.nil _)) (.cons rfl (.nil _)) (by
              try dsimp only
              refine ⟨by omega, chk_snoc hn ?_⟩
              first | exact chkAt_ok hx hy hc18 hc32 | exact chkAt_0 hx hc18 hpos) (by
              try dsimp only
              omega) 
    · -- c10.f
      refine w_exit ?_
      refine st_te ?_
      refine st_te ?_
      refine st_be ?_
      refine st_tn ?_
      refine w_seq ?_
      refine w_region ?_
      refine wl_det rfl rfl rfl (op_assign rfl) ?_
      refine wl_nil ?_
      refine st_tn ?_
      refine w_ret ?_
      refine st_ret (vs := [_]) [] Try.results18 ⟨rfl, trivial⟩ rfl ?_
      refine ⟨_, rfl, ?_⟩
      refine ⟨?_, rfl⟩; unfold chkE; rw [if_neg (by omega), first_none (fun j hj => hn j (by omega))]; rfl

/-- The law's dictionary of some strings. -/
def dictOf (l : List Bs) : List Bs := bldL (l.filter fun x => decide (x.length ≤ 255))
set_option maxHeartbeats 1000000 in
set_option maxRecDepth 100000 in
theorem dictOf_any {σ : World} {F : List Res} {a : Option Addr} {c : Nat} {l : List Bs} (lab : Nat) (h : Sl σ F encT 1 (.slice a l.length c) l) (hl : l.length ≤ 1048575) :
    FnT Try.prog σ F 21 [.slice a l.length c] [] (NewT (dictOf l) lab) := by
  refine fn_of 32 Try.func21 rfl Try.ntmps21 rfl ?_
  have hle := h.i64
  refine w_seq ?_
  refine w_region ?_
  refine wl_det rfl rfl rfl (op_assign rfl) ?_
  refine wl_nil ?_
  refine st_tn ?_
  refine w_seq ?_
  refine w_region ?_
  refine wl_det rfl rfl rfl (op_assign rfl) ?_
  refine wl_nil ?_
  refine st_tn ?_
  refine w_seq ?_
  refine w_seq ?_
  refine w_region ?_
  refine wl_det rfl rfl rfl (op_assign rfl) ?_
  refine wl_nil ?_
  refine st_tn ?_
  refine w_block ?_
  refine w_emp 3 (slO_nil 9 1) ?_
  refine w_loopQ (X := Nat × List (List UInt8) × Option Addr × Nat) (fun z => z.1 ≤ l.length ∧ z.2.1 = (l.take z.1).filter fun x => decide (x.length ≤ 255)) (fun z => [(4, .int .i64 (z.1)), (3, .slice (z.2.2.1) (z.2.1).length (z.2.2.2))]) (fun z => [(3, slW 9 encT 1 (.slice (z.2.2.1) (z.2.1).length (z.2.2.2)) (z.2.1))]) (fun z => l.length - z.1) ((0, [], none, 0)) [(0, _)] [] [3] rfl (rfl) (.cons rfl (.cons rfl (.nil _))) (.cons rfl (.nil _)) (by
      try dsimp only
      exact ⟨Nat.zero_le _, by simp⟩) ?_
  rintro ⟨i, out, a_out, c_out⟩ ⟨hi, ho⟩
  refine w_norm2 (by dsimp only [List.cons_append, List.nil_append]) (by dsimp only [List.cons_append, List.nil_append]) ?_
  try dsimp only at hi ho ⊢
  refine w_seq ?_
  refine w_seq ?_
  refine w_region ?_
  refine wl_det rfl rfl rfl (op_move rfl) ?_
  refine wl_det rfl rfl rfl (op_move rfl) ?_
  refine wl_det rfl rfl rfl (op_lenT rfl tS22d (Sl.ent (by first | exact Sl.app (by assumption) _ | exact Sl.app (Sl.app (by assumption) _) _))) ?_
  refine wl_det rfl rfl rfl (op_lss rfl rfl) ?_
  refine wl_nil ?_
  refine st_tn ?_
  refine w_cond_d rfl (fun hc10 => ?_) (fun hc10 => ?_)
  · -- c10.t
    obtain ⟨x, hx⟩ := getE (l := l) (i := i) (by omega)
    have hlt := ltE hx
    have hlo : out.length ≤ l.length := by rw [ho]; have := List.length_filter_le (fun x : Bs => decide (x.length ≤ 255)) (l.take i); rw [List.length_take] at this; omega
    refine w_skip ?_
    refine st_tn ?_
    refine w_seq ?_
    refine w_block ?_
    refine w_seq ?_
    refine w_region ?_
    refine wl_det rfl rfl rfl (op_move rfl) ?_
    refine wl_det rfl rfl rfl (op_move rfl) ?_
    refine wl_det rfl rfl rfl (op_idx rfl rfl tS22d (Sl.ent (by first | exact Sl.app (by assumption) _ | exact Sl.app (Sl.app (by assumption) _) _)) (by omega)) ?_
    refine wl_det rfl rfl rfl (op_ldx rfl tO9d (by first | exact Sl.app (by assumption) _ | exact Sl.app (Sl.app (by assumption) _) _) (by assumption) (by rfl)) ?_
    refine wl_det rfl rfl rfl (op_lenBs rfl Try.underlying9) ?_
    refine wl_det rfl rfl rfl (op_leq rfl rfl) ?_
    refine wl_nil ?_
    refine st_tn ?_
    refine w_cond_d rfl (fun hc18 => ?_) (fun hc18 => ?_)
    · -- c18.t
      refine w_region ?_
      refine wl_det rfl rfl rfl (op_move rfl) ?_
      refine wl_det rfl rfl rfl (op_move rfl) ?_
      refine wl_det rfl rfl rfl (op_move rfl) ?_
      refine wl_det rfl rfl rfl (op_idx rfl rfl tS22d (Sl.ent (by first | exact Sl.app (by assumption) _ | exact Sl.app (Sl.app (by assumption) _) _)) (by omega)) ?_
      refine wl_det rfl rfl rfl (op_ldx rfl tO9d (by first | exact Sl.app (by assumption) _ | exact Sl.app (Sl.app (by assumption) _) _) (by assumption) (by rfl)) ?_
      refine wl_op [] rfl rfl rfl rfl (op_buildSlice (enc := encT) (l := [_]) (lab := 24) tL22_1d rfl rfl (fun _ => rfl) rfl) ?_
      rintro _ _ ⟨a24, c24, rfl, rfl⟩
      refine wl_op [3] rfl rfl rfl rfl (op_append (lab := 3) (lab' := 25) rfl rfl tP22d enc1T (Sl.lab 24 rfl (by simp [maxLen])) (by simp; omega) (by simp; omega)) ?_
      rintro _ _ ⟨a25, c25, rfl, rfl⟩
      refine wl_det rfl rfl rfl (op_assign rfl) ?_
      refine wl_nil ?_
      refine st_bn ?_
      refine st_tn ?_
      refine w_region ?_
      refine wl_det rfl rfl rfl (op_move rfl) ?_
      refine wl_det rfl rfl rfl (op_add' rfl rfl (by omega)) ?_
      refine wl_det rfl rfl rfl (op_assign rfl) ?_
      refine wl_nil ?_
      refine st_roundQ (x := (i, out, a_out, c_out)) ((i + 1, _, _, _)) [25] rfl (rfl) (.cons rfl (.cons rfl (.nil _))) (.cons rfl (.nil _)) (by
          try dsimp only
          exact ⟨by omega, by rw [take_snoc hx, List.filter_append, ho, List.filter_cons, if_pos (by simp; omega)]; rfl⟩) (by
          try dsimp only
          omega) 
    · -- c18.f
      refine w_skip ?_
      refine st_bn ?_
      refine st_tn ?_
      refine w_region ?_
      refine wl_det rfl rfl rfl (op_move rfl) ?_
      refine wl_det rfl rfl rfl (op_add' rfl rfl (by omega)) ?_
      refine wl_det rfl rfl rfl (op_assign rfl) ?_
      refine wl_nil ?_
      refine st_roundQ (x := (i, out, a_out, c_out)) ((i + 1, _, _, _)) [3] rfl (rfl) (.cons rfl (.cons rfl (.nil _))) (.cons rfl (.nil _)) (by
          try dsimp only
          exact ⟨by omega, by rw [take_snoc hx, List.filter_append, ho, List.filter_cons, if_neg (by simp; omega)]; simp⟩) (by
          try dsimp only
          omega) 
  · -- c10.f
    refine w_exit ?_
    refine st_te ?_
    refine st_te ?_
    refine st_be ?_
    refine st_tn ?_
    refine w_seq ?_
    rw [take_all (by omega)] at ho
    have hlo : out.length ≤ l.length := by rw [ho]; exact List.length_filter_le _ _
    refine w_region ?_
    refine wl_det rfl rfl rfl (op_move rfl) ?_
    refine wl_op [] rfl rfl rfl rfl (op_fn Try.func16 rfl rfl rfl (rbuild_any 28 (Sl.lab 3 rfl (by unfold maxLen; omega)) (by omega))) ?_
    rintro _ _ ⟨a28, c28, rfl, rfl⟩
    refine wl_det rfl rfl rfl (op_move rfl) ?_
    refine wl_det rfl rfl rfl (op_extract rfl rfl) ?_
    refine wl_det rfl rfl rfl (op_extract rfl rfl) ?_
    refine wl_det rfl rfl rfl (op_assign rfl) ?_
    refine wl_det rfl rfl rfl (op_assign rfl) ?_
    refine wl_nil ?_
    refine st_tn ?_
    refine w_seq ?_
    refine w_region ?_
    refine wl_det rfl rfl rfl (op_move rfl) ?_
    refine wl_det rfl rfl rfl (op_assign rfl) ?_
    refine wl_nil ?_
    refine st_tn ?_
    refine w_ret ?_
    refine st_ret (vs := [_]) [28] Try.results21 ⟨rfl, trivial⟩ rfl ?_
    refine ⟨[(lab, _)], rfl, ?_⟩
    unfold dictOf; rw [← ho]; exact ⟨_, _, rfl, rfl⟩

end Go.Proofs.Ytbpihhaiechnbaa
