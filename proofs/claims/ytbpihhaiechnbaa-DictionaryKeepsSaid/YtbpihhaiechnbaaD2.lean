/- Contracts: building and merging dictionaries (layer 6). Conditions: none. -/
import Derived.Test.YtbpihhaiechnbaaD1
import Derived.Test.YtbpihhaiechnbaaShelf
import Derived.Test.YtbpihhaiechnbaaSlU
namespace Go.Proofs.Ytbpihhaiechnbaa
open Go Go.SL Go.RowKit Go.DicM
set_option linter.unusedVariables false
set_option linter.unusedSimpArgs false
theorem tL22_1b : zerosB Try.prog 22 9 1 1 = some [Value.string .empty] := by kernel_rfl
theorem tMixb : Try.prog.follows .mixedOrders = true := by kernel_rfl
theorem tO9b : oneB Try.prog 9 = true := by kernel_rfl
theorem tP22b : appB Try.prog 22 9 1 16 = true := by kernel_rfl
theorem tS22b : sliceB Try.prog 22 9 1 = true := by kernel_rfl

/-- A list and an error. -/
def NewE (l : List Bs) (e : Int) (lab : Nat) (u : Value) (ρ : RL) : Prop := ∃ a c, u = .tuple #[.slice a l.length c, .int .i64 e] ∧ ρ = [(lab, slW 9 encT 1 (.slice a l.length c) l)]
def NewT (l : List Bs) (lab : Nat) (u : Value) (ρ : RL) : Prop := ∃ a c, u = .slice a l.length c ∧ ρ = [(lab, slW 9 encT 1 (.slice a l.length c) l)]
theorem sort_any {σ : World} {F : List Res} {l : List Bs} {a : Option Addr} {c : Nat} (lab : Nat) (hl : l.length < 4611686018427387904) :
    FnT Try.prog σ F 45 [.slice a l.length c] [(lab, slW 9 encT 1 (.slice a l.length c) l)] (fun u ρ => u = .tuple #[] ∧ ρ = [(lab, slW 9 encT 1 (.slice a l.length c) (srt l))]) :=
  fn_sort (enc0 := encStr) (enc := encT) (fun _ => rfl) length_srt (fun g cap l w hH hg hl => Try.slices_Sort_string g 0 cap l w hH hg hl) (fun a cap w => Try.slices_Sort_string_none a cap w) lab hl
theorem compact_any {σ : World} {F : List Res} {l : List Bs} {a : Option Addr} {c : Nat} (lab lab' : Nat) (hl : l.length ≤ 9223372036854775807) :
    FnT Try.prog σ F 46 [.slice a l.length c] [(lab, slW 9 encT 1 (.slice a l.length c) l)] (fun u ρ => u = .slice a (Lib.compact l).length c ∧ ρ = [(lab', slW 9 encT 1 (.slice a (Lib.compact l).length c) (Lib.compact l))]) :=
  fn_compact (enc0 := encStr) (enc := encT) (fun _ => rfl) compact_le rfl (fun g cap l w hH hl hc => (Try.slices_Compact_string g 0 cap l w hH hl hc).mono fun _ _ ⟨h1, n, h2⟩ => ⟨h1, n, [], h2⟩) (fun a cap w => Try.slices_Compact_string_empty a cap w) lab lab' hl
set_option maxHeartbeats 400000 in
set_option maxRecDepth 100000 in
theorem cloneT {σ : World} {F : List Res} {a : Option Addr} {c : Nat} {l : List Bs} (lab : Nat) (h : Sl σ F encT 1 (.slice a l.length c) l) (hl : l.length ≤ 1048576) :
    FnT Try.prog σ F 44 [.slice a l.length c] [] (NewT l lab) := by
  refine fn_of 8 Try.func44 rfl Try.ntmps44 rfl ?_
  have hle := h.i64
  refine w_seq ?_
  refine w_region ?_
  refine wl_det rfl rfl rfl (op_assign rfl) ?_
  refine wl_nil ?_
  refine st_tn ?_
  refine w_seq ?_
  refine w_seq ?_
  refine w_region ?_
  refine wl_det rfl rfl rfl (op_move rfl) ?_
  refine wl_det rfl rfl rfl (op_eqNil rfl tS22b) ?_
  refine wl_nil ?_
  refine st_tn ?_
  refine w_cond rfl (fun hc4 => ?_) (fun hc4 => ?_)
  · -- c4.t
    obtain rfl : a = none := by simpa using hc4
    refine w_fact (Ent.app (Sl.nil_of h) _) (fun hnil => ?_)
    subst hnil
    refine w_emp 7 (slO_nil 9 1) ?_
    refine w_seq ?_
    refine w_region ?_
    refine wl_det rfl rfl rfl (op_assign rfl) ?_
    refine wl_nil ?_
    refine st_tn ?_
    refine w_ret ?_
    refine st_tr ?_
    refine st_ret (vs := [_]) [7] Try.results44 ⟨rfl, trivial⟩ rfl ?_
    refine ⟨[(lab, _)], rfl, ?_⟩
    exact ⟨none, 0, rfl, rfl⟩
  · -- c4.f
    refine w_skip ?_
    refine st_tn ?_
    refine w_seq ?_
    refine w_region ?_
    refine wl_op [] rfl rfl rfl rfl (op_lit0 (enc := encT) (lab := 5) tS22b) ?_
    rintro _ _ ⟨a5, c5, rfl, rfl⟩
    refine wl_det rfl rfl rfl (op_move rfl) ?_
    refine wl_op [5] rfl rfl rfl rfl (op_append (lab := 5) (lab' := 7) rfl rfl tP22b enc1T (by first | exact Sl.app (by assumption) _ | exact Sl.app (Sl.app (by assumption) _) _) (by first | omega | (simp; done) | (simp; omega) | (simp [*]; omega)) (by first | omega | (simp; done) | (simp; omega) | (simp [*]; omega))) ?_
    rintro _ _ ⟨a7, c7, rfl, rfl⟩
    refine wl_det rfl rfl rfl (op_assign rfl) ?_
    refine wl_nil ?_
    refine st_tn ?_
    refine w_ret ?_
    refine st_ret (vs := [_]) [7] Try.results44 ⟨rfl, trivial⟩ rfl ?_
    refine ⟨[(lab, _)], rfl, ?_⟩
    exact ⟨a7, c7, rfl, rfl⟩

/-- A string is too long. -/
def longB (l : List Bs) : Bool := l.any fun x => decide (255 < x.length)
def bldE (l : List Bs) : Int := if longB l = true then 5 else if (build [] l).length > 4096 then 6 else 0
def bldL (l : List Bs) : List Bs := if bldE l = 0 then build [] l else []
theorem longB_of {l : List Bs} {x : Bs} {i : Nat} (hx : l[i]? = some x) (h : x.length > 255) : longB l = true := List.any_eq_true.2 ⟨x, List.mem_of_getElem? hx, by simpa using h⟩
theorem longB_no {l : List Bs} (h : ∀ x ∈ l, x.length ≤ 255) : longB l = false := by
  unfold longB; rw [List.any_eq_false]; intro x hx; have := h x hx; simp; omega
theorem bld_long {l : List Bs} (h : longB l = true) : bldE l = 5 ∧ bldL l = [] := by
  have : bldE l = 5 := by unfold bldE; rw [if_pos h]
  exact ⟨this, by unfold bldL; rw [this]; rfl⟩
theorem bld_many {l : List Bs} (h : ∀ x ∈ l, x.length ≤ 255) (h2 : (build [] l).length > 4096) : bldE l = 6 ∧ bldL l = [] := by
  have : bldE l = 6 := by unfold bldE; rw [longB_no h, if_neg (by simp), if_pos h2]
  exact ⟨this, by unfold bldL; rw [this]; rfl⟩
theorem bld_ok {l : List Bs} (h : ∀ x ∈ l, x.length ≤ 255) (h2 : ¬ (build [] l).length > 4096) : bldE l = 0 ∧ bldL l = build [] l := by
  have : bldE l = 0 := by unfold bldE; rw [longB_no h, if_neg (by simp), if_neg h2]
  exact ⟨this, by unfold bldL; rw [this]; rfl⟩
theorem len_snoc {l : List Bs} {i : Nat} {x : Bs} (hn : ∀ y ∈ l.take i, y.length ≤ 255) (hx : l[i]? = some x) (h : ¬ ((x.length : Int) > 255)) : ∀ y ∈ l.take (i + 1), y.length ≤ 255 := by
  rw [take_snoc hx]; intro z hz
  rcases List.mem_append.1 hz with hz | hz
  · exact hn z hz
  · simp at hz; subst hz; omega
set_option maxHeartbeats 1000000 in
set_option maxRecDepth 100000 in
theorem build_any {σ : World} {F : List Res} {a : Option Addr} {c : Nat} {l : List Bs} (lab : Nat) (h : Sl σ F encT 1 (.slice a l.length c) l) (hl : l.length ≤ 1048576) :
    FnT Try.prog σ F 15 [.slice a l.length c] [] (NewE (bldL l) (bldE l) lab) := by
  refine fn_of 27 Try.func15 rfl Try.ntmps15 rfl ?_
  have hle := h.i64
  have hlb := build_length l []
  have hmd := made_eq l
  have hcl := compact_le (srt l)
  have hsl := length_srt l
  refine w_seq ?_
  refine w_region ?_
  refine wl_det rfl rfl rfl (op_assign rfl) ?_
  refine wl_det rfl rfl rfl (op_assign rfl) ?_
  refine wl_nil ?_
  refine st_tn ?_
  refine w_seq ?_
  refine w_seq ?_
  refine w_region ?_
  refine wl_det rfl rfl rfl (op_move rfl) ?_
  refine wl_det rfl rfl rfl (op_lenT rfl tS22b (Sl.ent (by first | exact Sl.app (by assumption) _ | exact Sl.app (Sl.app (by assumption) _) _))) ?_
  refine wl_det rfl rfl rfl (op_move rfl) ?_
  refine wl_nil ?_
  refine st_tn ?_
  refine w_block ?_
  refine w_loopQ (X := Nat) (fun z => z ≤ l.length ∧ ∀ x ∈ l.take z, x.length ≤ 255) (fun z => [(9, .int .i64 (z))]) (fun _ => []) (fun z => l.length - z) (0) [(0, _), (7, _), (8, _)] [] [] rfl (rfl) (.cons rfl (.nil _)) (.cons rfl (.cons rfl (.cons rfl (.nil _)))) (by
      try dsimp only
      exact ⟨Nat.zero_le _, by simp⟩) ?_
  rintro i ⟨hi, hn⟩
  refine w_norm2 (by dsimp only [List.cons_append, List.nil_append]) (by dsimp only [List.cons_append, List.nil_append]) ?_
  try dsimp only at hi hn ⊢
  refine w_seq ?_
  refine w_region ?_
  refine wl_det rfl rfl rfl (op_lss rfl rfl) ?_
  refine wl_nil ?_
  refine st_tn ?_
  refine w_seq ?_
  refine w_cond_d rfl (fun hc10 => ?_) (fun hc10 => ?_)
  · -- c10.t
    obtain ⟨x, hx⟩ := getE (l := l) (i := i) (by omega)
    have hlt := ltE hx
    refine w_skip ?_
    refine st_tn ?_
    refine w_seq ?_
    refine w_block ?_
    refine w_seq ?_
    refine w_region ?_
    refine wl_det rfl rfl rfl (op_idx rfl rfl tS22b (Sl.ent (by first | exact Sl.app (by assumption) _ | exact Sl.app (Sl.app (by assumption) _) _)) (by omega)) ?_
    refine wl_det rfl rfl rfl (op_ldx rfl tO9b (by first | exact Sl.app (by assumption) _ | exact Sl.app (Sl.app (by assumption) _) _) (by assumption) (by rfl)) ?_
    refine wl_det rfl rfl rfl (op_assign rfl) ?_
    refine wl_nil ?_
    refine st_tn ?_
    refine w_seq ?_
    refine w_region ?_
    refine wl_det rfl rfl rfl (op_move rfl) ?_
    refine wl_det rfl rfl rfl (op_lenBs rfl Try.underlying9) ?_
    refine wl_det rfl rfl rfl (op_gtr rfl rfl) ?_
    refine wl_nil ?_
    refine st_tn ?_
    refine w_cond_d rfl (fun hc15 => ?_) (fun hc15 => ?_)
    · -- c15.t
      refine w_seq ?_
      refine w_emp 77 (slO_nil 9 1) ?_
      refine w_region ?_
      refine wl_det rfl rfl rfl (op_assign rfl) ?_
      refine wl_det rfl rfl rfl (op_assign rfl) ?_
      refine wl_nil ?_
      refine st_tn ?_
      refine w_ret ?_
      refine st_br ?_
      refine st_tr ?_
      refine st_tr ?_
      refine st_br ?_
      refine st_tr ?_
      refine st_ret (vs := [_, _]) [77] Try.results15 ⟨rfl, ⟨rfl, trivial⟩⟩ rfl ?_
      refine ⟨[(lab, _)], rfl, ?_⟩
      obtain ⟨h1, h2⟩ := bld_long (longB_of hx (by omega)); exact ⟨none, 0, by rw [h1, h2]; rfl, by rw [h2]; rfl⟩
    · -- c15.f
      refine w_skip ?_
      refine st_bn ?_
      refine st_tn ?_
      refine w_region ?_
      refine wl_det rfl rfl rfl (op_add' rfl rfl (by omega)) ?_
      refine wl_det rfl rfl rfl (op_move rfl) ?_
      refine wl_nil ?_
      refine st_roundQ (x := i) (i + 1) [] rfl (rfl) (.cons rfl (.nil _)) (.cons rfl (.cons rfl (.cons rfl (.nil _)))) (by
          try dsimp only
          exact ⟨by omega, len_snoc hn hx hc15⟩) (by
          try dsimp only
          omega) 
  · -- c10.f
    refine w_exit ?_
    refine st_te ?_
    refine st_te ?_
    refine st_be ?_
    refine st_tn ?_
    refine w_seq ?_
    rw [take_all (by omega)] at hn
    refine w_region ?_
    refine wl_det rfl rfl rfl (op_move rfl) ?_
    refine wl_op [] rfl rfl rfl rfl (op_fn Try.func44 rfl rfl rfl (cloneT 18 (by first | exact Sl.app (by assumption) _ | exact Sl.app (Sl.app (by assumption) _) _) (by omega))) ?_
    rintro _ _ ⟨a18, c18, rfl, rfl⟩
    refine wl_det rfl rfl rfl (op_assign rfl) ?_
    refine wl_nil ?_
    refine st_tn ?_
    refine w_seq ?_
    refine w_region ?_
    refine wl_det rfl rfl rfl (op_move rfl) ?_
    refine wl_op [18] rfl rfl rfl rfl (op_fn Try.func45 rfl rfl rfl (sort_any 18 (by omega))) ?_
    rintro _ _ ⟨rfl, rfl⟩
    refine wl_nil ?_
    refine st_tn ?_
    refine w_seq ?_
    rw [← hsl]
    refine w_region ?_
    refine wl_det rfl rfl rfl (op_move rfl) ?_
    refine wl_op [18] rfl rfl rfl rfl (op_fn Try.func46 rfl rfl rfl (compact_any 18 22 (by omega))) ?_
    rintro _ _ ⟨rfl, rfl⟩
    refine wl_det rfl rfl rfl (op_assign rfl) ?_
    refine wl_nil ?_
    refine st_tn ?_
    refine w_seq ?_
    refine w_seq ?_
    rw [hmd]
    refine w_region ?_
    refine wl_det rfl rfl rfl (op_move rfl) ?_
    refine wl_det rfl rfl rfl (op_lenT rfl tS22b (Sl.ent (Sl.lab 22 rfl (by unfold maxLen; simp at hlb; omega)))) ?_
    refine wl_det rfl rfl rfl (op_gtr rfl rfl) ?_
    refine wl_nil ?_
    refine st_tn ?_
    refine w_cond_d rfl (fun hc25 => ?_) (fun hc25 => ?_)
    · -- c25.t
      refine w_seq ?_
      refine w_emp 78 (slO_nil 9 1) ?_
      refine w_region ?_
      refine wl_det rfl rfl rfl (op_assign rfl) ?_
      refine wl_det rfl rfl rfl (op_assign rfl) ?_
      refine wl_nil ?_
      refine st_tn ?_
      refine w_ret ?_
      refine st_tr ?_
      refine st_ret (vs := [_, _]) [78] Try.results15 ⟨rfl, ⟨rfl, trivial⟩⟩ rfl ?_
      refine ⟨[(lab, _)], rfl, ?_⟩
      obtain ⟨h1, h2⟩ := bld_many hn (by omega); exact ⟨none, 0, by rw [h1, h2]; rfl, by rw [h2]; rfl⟩
    · -- c25.f
      refine w_skip ?_
      refine st_tn ?_
      refine w_seq ?_
      refine w_region ?_
      refine wl_det rfl rfl rfl (op_move rfl) ?_
      refine wl_det rfl rfl rfl (op_assign rfl) ?_
      refine wl_det rfl rfl rfl (op_assign rfl) ?_
      refine wl_nil ?_
      refine st_tn ?_
      refine w_ret ?_
      refine st_ret (vs := [_, _]) [22] Try.results15 ⟨rfl, ⟨rfl, trivial⟩⟩ rfl ?_
      refine ⟨[(lab, _)], rfl, ?_⟩
      obtain ⟨h1, h2⟩ := bld_ok hn (by omega); rw [h1, h2]; exact ⟨_, _, rfl, rfl⟩

-- CALL sleuth/dictionary.Build pat=⟨a{d}, c{d}, rfl, rfl⟩ lab={d} build_any {d} {s0} (by omega)
set_option maxHeartbeats 1000000 in
set_option maxRecDepth 100000 in
theorem insert0 {σ : World} {F : List Res} {a : Option Addr} {c : Nat} {l : List Bs} (lab : Nat) (s : Bs) (hl : l.length ≤ 1048576) :
    FnT Try.prog σ F 47 [.slice a l.length c, .string (str s)] [(0, slW 9 encT 1 (.slice a l.length c) l)] (NewT (ins l s) lab) := by
  refine fn_of 33 Try.func47 rfl Try.ntmps47 rfl ?_
  have hlo := lower_le l s
  refine w_seq ?_
  refine w_region ?_
  refine wl_det rfl rfl rfl (op_assign rfl) ?_
  refine wl_nil ?_
  refine st_tn ?_
  refine w_seq ?_
  refine w_region ?_
  refine wl_det rfl rfl rfl (op_move rfl) ?_
  refine wl_det rfl rfl rfl (op_move rfl) ?_
  refine wl_det rfl rfl rfl (op_fn Try.func25 rfl rfl rfl (rlower_any _ (Sl.lab 0 rfl (by unfold maxLen; omega)))) ?_
  refine wl_det rfl rfl rfl (op_assign rfl) ?_
  refine wl_nil ?_
  refine st_tn ?_
  refine w_seq ?_
  refine w_seq ?_
  refine w_region ?_
  refine wl_det rfl rfl rfl (op_move rfl) ?_
  refine wl_det rfl rfl rfl (op_move rfl) ?_
  refine wl_det rfl rfl rfl (op_lenT rfl tS22b (Sl.ent (Sl.lab 0 rfl (by unfold maxLen; omega)))) ?_
  refine wl_det rfl rfl rfl (op_lss rfl rfl) ?_
  refine wl_det rfl rfl rfl (op_move rfl) ?_
  refine wl_gsplit (t := 13) rfl (fun hg13 => ?_) (fun hg13 => ?_)
  · -- 13 is True
    obtain ⟨x, hx⟩ := getE (l := l) (i := lower l s) (by omega)
    refine wl_wanted_det rfl rfl rfl rfl rfl rfl rfl (op_move rfl) ?_
    refine wl_wanted_det rfl rfl rfl rfl rfl rfl rfl (op_move rfl) ?_
    refine wl_wanted_det rfl rfl rfl rfl rfl rfl rfl (op_idx rfl rfl tS22b (Sl.ent (Sl.lab 0 rfl (by unfold maxLen; omega))) (by omega)) ?_
    refine wl_wanted_det rfl rfl rfl rfl rfl rfl rfl (op_ldx rfl tO9b (Sl.lab 0 rfl (by unfold maxLen; omega)) (by assumption) (by rfl)) ?_
    refine wl_wanted_det rfl rfl rfl rfl rfl rfl rfl (op_move rfl) ?_
    refine wl_wanted_det rfl rfl rfl rfl rfl rfl rfl (op_eqBs rfl rfl) ?_
    refine wl_det rfl rfl rfl (op_pick_t rfl rfl) ?_
    refine wl_nil ?_
    refine st_tn ?_
    refine w_cond_d rfl (fun hc20 => ?_) (fun hc20 => ?_)
    · -- c20.t
      refine w_seq ?_
      refine w_region ?_
      refine wl_det rfl rfl rfl (op_move rfl) ?_
      refine wl_det rfl rfl rfl (op_assign rfl) ?_
      refine wl_nil ?_
      refine st_tn ?_
      refine w_ret ?_
      refine st_tr ?_
      refine st_ret (vs := [_]) [0] Try.results47 ⟨rfl, trivial⟩ rfl ?_
      refine ⟨[(lab, _)], rfl, ?_⟩
      have h1 : ins l s = l := by unfold ins; rw [if_pos (by rw [hx, hc20])]
      rw [h1]; exact ⟨_, _, rfl, rfl⟩
    · -- c20.f
      refine w_skip ?_
      refine st_tn ?_
      refine w_seq ?_
      have hne : ¬ l[lower l s]? = some s := by first | (rw [hx]; simp; done) | (rw [hx]; simpa using hc20)
      have hins : ins l s = l.take (lower l s) ++ s :: l.drop (lower l s) := by unfold ins; rw [if_neg hne]
      refine w_drawW (fun β => [⟨22, [], [], [], noW (_), false, [], []⟩, ⟨23, [], [], [], noW (_), false, [], []⟩, ⟨24, [], [], [], noW (_), false, [], []⟩, ⟨25, [0, 1, 2], [], [], noW (_), false, [], []⟩, ⟨26, [], [], [], noW (_), false, [], []⟩, ⟨27, [4], [], [], fun w => DetW _ _, true, [], []⟩, ⟨28, [], [], [], noW (_), false, [], []⟩, ⟨29, [], [], [], noW (_), false, [], []⟩, ⟨30, [6, 7], [], [], noW (_), false, [], []⟩, ⟨31, [8], [5], [], fun w => DetW _ _, false, [], []⟩]) [] [0, 5, 1] [⟨22, [], [], false, [], []⟩, ⟨23, [], [], false, [], []⟩, ⟨24, [], [], false, [], []⟩, ⟨25, [0, 1, 2], [], false, [], []⟩, ⟨26, [], [], false, [], []⟩, ⟨27, [4], [], true, [], []⟩, ⟨28, [], [], false, [], []⟩, ⟨29, [], [], false, [], []⟩, ⟨30, [6, 7], [], false, [], []⟩, ⟨31, [8], [5], false, [], []⟩] [[], [], [], [], [], [], [], [], [], [5]] [[], [], [], [], [], [], [], [], [], []] tMixb (fun _ => by rfl) (fun _ => by rfl) (by kernel_rfl) (by kernel_rfl) (by rfl) (by rfl)
          (fun β => ⟨.p rfl (by intro X; exact op_move rfl),
          ⟨.p rfl (by intro X; exact op_move rfl),
          ⟨.p rfl (by intro X; exact op_move rfl),
          ⟨.p rfl (by intro X; rintro _ _ ⟨rfl, rfl⟩ _ _ ⟨rfl, rfl⟩ _ _ ⟨rfl, rfl⟩; exact op_slice3R rfl rfl rfl tS22b (Sl.lab 0 rfl (by unfold maxLen; omega)) hlo),
          ⟨.p rfl (by intro X; exact op_move rfl),
          ⟨.px rfl (by intro X; rintro _ _ ⟨rfl, rfl⟩; refine OpT.mono (op_buildSlice (enc := encT) (l := [_]) (lab := 27) tL22_1b rfl rfl (fun _ => rfl) rfl) ?_; rintro _ _ ⟨a27, c27, rfl, rfl⟩; obtain ⟨w, rfl, rfl⟩ : ∃ w : Wt, w.a = a27 ∧ w.c = c27 := ⟨{ a := a27, c := c27 }, rfl, rfl⟩; exact ⟨w, rfl, rfl⟩),
          ⟨.p rfl (by intro X; exact op_move rfl),
          ⟨.p rfl (by intro X; exact op_move rfl),
          ⟨.p rfl (by intro X; rintro _ _ ⟨rfl, rfl⟩ _ _ ⟨rfl, rfl⟩; exact op_sliceL rfl rfl tS22b (Sl.lab 0 rfl (by unfold maxLen; omega)) (by omega)),
          ⟨.px rfl (by intro X; rintro _ _ ⟨rfl, rfl⟩ _ _ ⟨rfl, rfl⟩; show OpT _ _ _ _ _ _ [(_, _)] _; refine OpT.mono (op_append (lab := 27) (lab' := 31) rfl rfl tP22b enc1T (Sl.dropL (Sl.lab 0 rfl (by unfold maxLen; omega)) hlo) (by simp; omega) (by simp; omega)) ?_; rintro _ _ ⟨a31, c31, rfl, rfl⟩; obtain ⟨w, rfl, rfl⟩ : ∃ w : Wt, w.a = a31 ∧ w.c = c31 := ⟨{ a := a31, c := c31 }, rfl, rfl⟩; exact ⟨w, rfl, rfl⟩),
          trivial⟩⟩⟩⟩⟩⟩⟩⟩⟩⟩)
          (fun β β' => ⟨fun _ => by rfl, ⟨fun _ => by rfl, ⟨fun _ => by rfl, ⟨fun _ => by rfl, ⟨fun _ => by rfl, ⟨fun _ => by rfl, ⟨fun _ => by rfl, ⟨fun _ => by rfl, ⟨fun _ => by rfl, ⟨fun h => by first | rfl | (simp only [h 5 (by decide)]), trivial⟩⟩⟩⟩⟩⟩⟩⟩⟩⟩) ?_
      intro β
      rintro _ _ ⟨rfl, rfl⟩ _ _ ⟨rfl, rfl⟩ _ _ ⟨rfl, rfl⟩ _ _ ⟨rfl, rfl⟩ _ _ ⟨rfl, rfl⟩ _ _ ⟨rfl, rfl⟩ _ _ ⟨rfl, rfl⟩ _ _ ⟨rfl, rfl⟩ _ _ ⟨rfl, rfl⟩ _ _ ⟨rfl, rfl⟩
      generalize (β 5).a = a27
      generalize (β 5).c = c27
      generalize (β 9).a = a31
      generalize (β 9).c = c31
      refine wl_norm (e' := [(25, _), (31, _)]) (.cons rfl (.cons rfl (.nil _))) (by dsimp only [cond_false, cond_true, List.nil_append, List.cons_append]) ?_
      refine wl_op [] rfl rfl rfl rfl (op_appendFresh (lab' := 32) rfl rfl tP22b enc1T (Sl.sub3 (Sl.lab 0 rfl (by unfold maxLen; omega)) hlo) (Sl.lab 31 rfl (by unfold maxLen; simp; omega)) (by simp) (by simp; omega) (by simp; omega)) ?_
      rintro _ _ ⟨a32, c32, rfl, rfl⟩
      refine wl_det rfl rfl rfl (op_assign rfl) ?_
      refine wl_nil ?_
      refine st_tn ?_
      refine w_ret ?_
      refine st_ret (vs := [_]) [32] Try.results47 ⟨rfl, trivial⟩ rfl ?_
      refine ⟨[(lab, _)], rfl, ?_⟩
      rw [hins]; exact ⟨_, _, rfl, rfl⟩
  · -- 13 is False
    have hx : l[lower l s]? = none := List.getElem?_eq_none (by omega)
    refine wl_unwanted rfl rfl rfl rfl rfl rfl rfl rfl ?_
    refine wl_unwanted rfl rfl rfl rfl rfl rfl rfl rfl ?_
    refine wl_unwanted rfl rfl rfl rfl rfl rfl rfl rfl ?_
    refine wl_unwanted rfl rfl rfl rfl rfl rfl rfl rfl ?_
    refine wl_unwanted rfl rfl rfl rfl rfl rfl rfl rfl ?_
    refine wl_unwanted rfl rfl rfl rfl rfl rfl rfl rfl ?_
    refine wl_det rfl rfl rfl (op_pick_f rfl rfl) ?_
    refine wl_nil ?_
    refine st_tn ?_
    refine w_cond_f (rfl) ?_
    refine w_skip ?_
    refine st_tn ?_
    refine w_seq ?_
    have hne : ¬ l[lower l s]? = some s := by first | (rw [hx]; simp; done) | (rw [hx]; simpa using hc20)
    have hins : ins l s = l.take (lower l s) ++ s :: l.drop (lower l s) := by unfold ins; rw [if_neg hne]
    refine w_drawW (fun β => [⟨22, [], [], [], noW (_), false, [], []⟩, ⟨23, [], [], [], noW (_), false, [], []⟩, ⟨24, [], [], [], noW (_), false, [], []⟩, ⟨25, [0, 1, 2], [], [], noW (_), false, [], []⟩, ⟨26, [], [], [], noW (_), false, [], []⟩, ⟨27, [4], [], [], fun w => DetW _ _, true, [], []⟩, ⟨28, [], [], [], noW (_), false, [], []⟩, ⟨29, [], [], [], noW (_), false, [], []⟩, ⟨30, [6, 7], [], [], noW (_), false, [], []⟩, ⟨31, [8], [5], [], fun w => DetW _ _, false, [], []⟩]) [] [0, 5, 1] [⟨22, [], [], false, [], []⟩, ⟨23, [], [], false, [], []⟩, ⟨24, [], [], false, [], []⟩, ⟨25, [0, 1, 2], [], false, [], []⟩, ⟨26, [], [], false, [], []⟩, ⟨27, [4], [], true, [], []⟩, ⟨28, [], [], false, [], []⟩, ⟨29, [], [], false, [], []⟩, ⟨30, [6, 7], [], false, [], []⟩, ⟨31, [8], [5], false, [], []⟩] [[], [], [], [], [], [], [], [], [], [5]] [[], [], [], [], [], [], [], [], [], []] tMixb (fun _ => by rfl) (fun _ => by rfl) (by kernel_rfl) (by kernel_rfl) (by rfl) (by rfl)
        (fun β => ⟨.p rfl (by intro X; exact op_move rfl),
        ⟨.p rfl (by intro X; exact op_move rfl),
        ⟨.p rfl (by intro X; exact op_move rfl),
        ⟨.p rfl (by intro X; rintro _ _ ⟨rfl, rfl⟩ _ _ ⟨rfl, rfl⟩ _ _ ⟨rfl, rfl⟩; exact op_slice3R rfl rfl rfl tS22b (Sl.lab 0 rfl (by unfold maxLen; omega)) hlo),
        ⟨.p rfl (by intro X; exact op_move rfl),
        ⟨.px rfl (by intro X; rintro _ _ ⟨rfl, rfl⟩; refine OpT.mono (op_buildSlice (enc := encT) (l := [_]) (lab := 27) tL22_1b rfl rfl (fun _ => rfl) rfl) ?_; rintro _ _ ⟨a27, c27, rfl, rfl⟩; obtain ⟨w, rfl, rfl⟩ : ∃ w : Wt, w.a = a27 ∧ w.c = c27 := ⟨{ a := a27, c := c27 }, rfl, rfl⟩; exact ⟨w, rfl, rfl⟩),
        ⟨.p rfl (by intro X; exact op_move rfl),
        ⟨.p rfl (by intro X; exact op_move rfl),
        ⟨.p rfl (by intro X; rintro _ _ ⟨rfl, rfl⟩ _ _ ⟨rfl, rfl⟩; exact op_sliceL rfl rfl tS22b (Sl.lab 0 rfl (by unfold maxLen; omega)) (by omega)),
        ⟨.px rfl (by intro X; rintro _ _ ⟨rfl, rfl⟩ _ _ ⟨rfl, rfl⟩; show OpT _ _ _ _ _ _ [(_, _)] _; refine OpT.mono (op_append (lab := 27) (lab' := 31) rfl rfl tP22b enc1T (Sl.dropL (Sl.lab 0 rfl (by unfold maxLen; omega)) hlo) (by simp; omega) (by simp; omega)) ?_; rintro _ _ ⟨a31, c31, rfl, rfl⟩; obtain ⟨w, rfl, rfl⟩ : ∃ w : Wt, w.a = a31 ∧ w.c = c31 := ⟨{ a := a31, c := c31 }, rfl, rfl⟩; exact ⟨w, rfl, rfl⟩),
        trivial⟩⟩⟩⟩⟩⟩⟩⟩⟩⟩)
        (fun β β' => ⟨fun _ => by rfl, ⟨fun _ => by rfl, ⟨fun _ => by rfl, ⟨fun _ => by rfl, ⟨fun _ => by rfl, ⟨fun _ => by rfl, ⟨fun _ => by rfl, ⟨fun _ => by rfl, ⟨fun _ => by rfl, ⟨fun h => by first | rfl | (simp only [h 5 (by decide)]), trivial⟩⟩⟩⟩⟩⟩⟩⟩⟩⟩) ?_
    intro β
    rintro _ _ ⟨rfl, rfl⟩ _ _ ⟨rfl, rfl⟩ _ _ ⟨rfl, rfl⟩ _ _ ⟨rfl, rfl⟩ _ _ ⟨rfl, rfl⟩ _ _ ⟨rfl, rfl⟩ _ _ ⟨rfl, rfl⟩ _ _ ⟨rfl, rfl⟩ _ _ ⟨rfl, rfl⟩ _ _ ⟨rfl, rfl⟩
    generalize (β 5).a = a27
    generalize (β 5).c = c27
    generalize (β 9).a = a31
    generalize (β 9).c = c31
    refine wl_norm (e' := [(25, _), (31, _)]) (.cons rfl (.cons rfl (.nil _))) (by dsimp only [cond_false, cond_true, List.nil_append, List.cons_append]) ?_
    refine wl_op [] rfl rfl rfl rfl (op_appendFresh (lab' := 32) rfl rfl tP22b enc1T (Sl.sub3 (Sl.lab 0 rfl (by unfold maxLen; omega)) hlo) (Sl.lab 31 rfl (by unfold maxLen; simp; omega)) (by simp) (by simp; omega) (by simp; omega)) ?_
    rintro _ _ ⟨a32, c32, rfl, rfl⟩
    refine wl_det rfl rfl rfl (op_assign rfl) ?_
    refine wl_nil ?_
    refine st_tn ?_
    refine w_ret ?_
    refine st_ret (vs := [_]) [32] Try.results47 ⟨rfl, trivial⟩ rfl ?_
    refine ⟨[(lab, _)], rfl, ?_⟩
    rw [hins]; exact ⟨_, _, rfl, rfl⟩

end Go.Proofs.Ytbpihhaiechnbaa
