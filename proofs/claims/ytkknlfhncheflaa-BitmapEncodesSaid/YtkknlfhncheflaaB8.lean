/- The contract of bitmap.combine. Conditions: none. -/
import Derived.Test.YtkknlfhncheflaaB7
import Derived.Test.YtkknlfhncheflaaM1
import Derived.Test.YtkknlfhncheflaaSl9
namespace Go.Proofs.Ytkknlfhncheflaa
open Go Go.SL Go.RowKit Go.BitM
set_option linter.unusedVariables false
set_option linter.unusedSimpArgs false
theorem tA26h : aggB Try.prog 26 1 = true := by kernel_rfl
theorem tA58h : aggB Try.prog 58 2 = true := by kernel_rfl
theorem tB58h : placesB Try.prog 58 = some ([(0, 1), (1, 1)], [Value.int .i64 0, Value.int .i64 0]) := by kernel_rfl
theorem tF26_0h : fieldB Try.prog 26 0 0 = true := by kernel_rfl
theorem tF58_0h : fieldB Try.prog 58 0 0 = true := by kernel_rfl
theorem tF58_1h : fieldB Try.prog 58 1 1 = true := by kernel_rfl
theorem tL22_2h : zerosB Try.prog 22 3 1 2 = some [Value.int .i64 0, Value.int .i64 0] := by kernel_rfl
theorem tMixh : Try.prog.follows .mixedOrders = true := by kernel_rfl
theorem tN26h : (Try.prog.info? 26).bind (·.zero) = some (Value.agg #[Value.slice none 0 0]) := by kernel_rfl
theorem tN58h : (Try.prog.info? 58).bind (·.zero) = some (Value.agg #[Value.int .i64 0, Value.int .i64 0]) := by kernel_rfl
theorem tO24h : oneB Try.prog 24 = true := by kernel_rfl
theorem tO3h : oneB Try.prog 3 = true := by kernel_rfl
theorem tP22h : appB Try.prog 22 3 1 8 = true := by kernel_rfl
theorem tP24h : appB Try.prog 24 58 2 16 = true := by kernel_rfl
theorem tS22h : sliceB Try.prog 22 3 1 = true := by kernel_rfl
theorem tS24h : sliceB Try.prog 24 58 2 = true := by kernel_rfl
theorem tZ26h : (Try.prog.info? 26).map (·.size) = some 1 := by kernel_rfl
theorem tZ58h : (Try.prog.info? 58).map (·.size) = some 2 := by kernel_rfl

theorem compact_any' {σ : World} {F : List Res} {l : List Int} {a : Option Addr} {m c : Nat} (hm : m = l.length) (lab lab' : Nat) (hl : l.length ≤ 9223372036854775807) :
    FnT Try.prog σ F 76 [.slice a m c] [(lab, slW 3 encZ 1 (.slice a m c) l)] (fun u ρ => u = .slice a (Lib.compact l).length c ∧ ρ = [(lab', slW 3 encZ 1 (.slice a (Lib.compact l).length c) (Lib.compact l))]) := by
  subst hm; exact compact_any lab lab' hl
def ltB (rl : List Run) (i : Nat) (x : Int) : Bool := match rl[i]? with
  | some r => decide (r.2 < x)
  | none => false
theorem ss_len {lo hi : Int} : ∀ {l : List Int}, SS l → (∀ x ∈ l, lo ≤ x ∧ x ≤ hi) → (l.length : Int) ≤ max 0 (hi - lo + 1)
  | [], _, _ => by simp; omega
  | x :: l, h, hb => by
    have h' := List.pairwise_cons.1 h
    have hx := hb x (by simp)
    have := ss_len (lo := x + 1) (hi := hi) h'.2 (fun y hy => by have := h'.1 y hy; have := hb y (by simp [hy]); omega)
    simp only [List.length_cons]; omega
theorem len_rows : ∀ {rl : List Run}, (∀ r ∈ rl, r.1 ≤ r.2) → rl.length ≤ (rows rl).length
  | [], _ => by simp
  | r :: rl, h => by
    have h1 := len_rows (rl := rl) (fun q hq => h q (by simp [hq]))
    have h2 := h r (by simp)
    show rl.length + 1 ≤ (upto r.1 r.2 ++ rows rl).length
    rw [List.length_append, length_upto]; omega
theorem wf_len {rl : List Run} (h : WF rl) (hb : inB 0 1048575 rl) : (rows rl).length ≤ 1048576 ∧ rl.length ≤ 1048576 := by
  have h1 := ss_len (lo := 0) (hi := 1048575) (ss_rows h) (fun x hx => by obtain ⟨r, hr, h2, h3⟩ := mem_rows.1 hx; have := hb r hr; omega)
  have h2 := len_rows h.1
  omega
theorem cuts_len (l : List Run) : (cutsOf l).length = 2 * l.length := by
  induction l with
  | nil => rfl
  | cons r l ih => show ([r.1, r.2 + 1] ++ cutsOf l).length = _; rw [List.length_append, ih]; simp only [List.length_cons, List.length_nil]; omega
theorem cuts_snoc (l : List Run) (r : Run) : cutsOf (l ++ [r]) = cutsOf l ++ [r.1, r.2 + 1] := by simp [cutsOf]
theorem comb_in {keep : Bool → Bool → Bool} (hk : keep false false = false) {a b out : List Run} (ha : inB 0 1048575 a) (hb : inB 0 1048575 b) (hw : WF out) (h : ∀ n, mem out n → keep (memB a n) (memB b n) = true) : inB 0 1048575 out := by
  have key : ∀ n, mem out n → 0 ≤ n ∧ n ≤ 1048575 := by
    intro n hn
    have h1 := h n hn
    by_cases h2 : memB a n = true
    · obtain ⟨r, hr, _, _⟩ := memB_iff.1 h2; have := ha r hr; omega
    · by_cases h3 : memB b n = true
      · obtain ⟨r, hr, _, _⟩ := memB_iff.1 h3; have := hb r hr; omega
      · simp only [Bool.not_eq_true] at h2 h3; rw [h2, h3, hk] at h1; simp at h1
  intro r hr
  have hle := hw.1 r hr
  exact ⟨(key r.1 ⟨r, hr, by omega, hle⟩).1, hle, (key r.2 ⟨r, hr, hle, by omega⟩).2⟩
/-- What a combination of two sets returns. -/
def BC (keep : Bool → Bool → Bool) (a b : List Run) (lab : Nat) (u : Value) (ρ : RL) : Prop := ∃ rl a' c', WF rl ∧ inB 0 1048575 rl ∧ (∀ n, mem rl n ↔ keep (memB a n) (memB b n) = true) ∧ u = bm a' rl.length c' ∧ ρ = [(lab, slW 58 encRun 2 (.slice a' rl.length c') rl)]
set_option maxHeartbeats 8000000 in
set_option maxRecDepth 100000 in
theorem combine_any {σ : World} {F : List Res} {p q : Option Addr} {c d : Nat} {a b : List Run} {keep : Bool → Bool → Bool} {g : Nat} {gn : Func} (lab : Nat) (hk : keep false false = false) (ha : Sl σ F encRun 2 (.slice p a.length c) a) (hb : Sl σ F encRun 2 (.slice q b.length d) b)
    (hwa : WF a) (hwb : WF b) (hia : inB 0 1048575 a) (hib : inB 0 1048575 b) (hg : Try.prog.funcs[g]? = some gn) (hgb : gn.body.isSome = true) (hgn : (gn.name == "runtime.NumGoroutine") = false)
    (hp : ∀ (X : List Res) (x y : Bool), FnT Try.prog σ X g ([] ++ [.bool x, .bool y] ++ []) [] (fun u ρ => u = .bool (keep x y) ∧ ρ = [])) :
    FnT Try.prog σ F 57 [bm p a.length c, bm q b.length d, .func (.func g) #[] #[]] [] (BC keep a b lab) := by
  refine fn_of 125 Try.func57 rfl Try.ntmps57 rfl ?_
  have hla := (wf_len hwa hia).2
  have hlb := (wf_len hwb hib).2
  have hlab : (a ++ b).length = a.length + b.length := List.length_append
  refine w_seq ?_
  refine w_region ?_
  refine wl_op [] rfl rfl rfl rfl (op_box (T := 26) (l := 3) rfl) ?_
  rintro _ _ ⟨b3, rfl, rfl⟩
  refine wl_op [] rfl rfl rfl rfl (op_box (T := 26) (l := 4) rfl) ?_
  rintro _ _ ⟨b4, rfl, rfl⟩
  refine wl_op [] rfl rfl rfl rfl (op_alloc (l := 6) tN26h) ?_
  rintro _ _ ⟨b6, rfl, rfl⟩
  refine wl_nil ?_
  refine st_tn ?_
  refine w_seq ?_
  refine w_region ?_
  refine wl_det rfl rfl rfl (op_assign rfl) ?_
  refine wl_nil ?_
  refine st_tn ?_
  refine w_seq ?_
  refine w_seq ?_
  refine w_draw (D := [⟨15, [], [], [], _, false, [], []⟩, ⟨16, [0], [], [], _, true, [], []⟩, ⟨17, [], [], [], _, false, [], []⟩, ⟨18, [2], [], [], _, false, [], []⟩, ⟨19, [3], [1], [], _, false, [], []⟩, ⟨20, [4], [], [], _, false, [], []⟩, ⟨21, [], [], [], _, false, [], []⟩]) [] [3, 4] [⟨15, [], [], false, [], []⟩, ⟨16, [0], [], true, [], []⟩, ⟨17, [], [], false, [], []⟩, ⟨18, [2], [], false, [], []⟩, ⟨19, [3], [1], false, [], []⟩, ⟨20, [4], [], false, [], []⟩, ⟨21, [], [], false, [], []⟩] tMixh (by rfl) (by kernel_rfl) (by rfl) (by rfl)
      ⟨.plain rfl (by intro X; exact op_loadA rfl tA26h (Ent.lab (l := 3) rfl (says_cel 0)) (Nat.le_of_ble_eq_true rfl)),
      ⟨.plain rfl (by intro X; rintro _ _ ⟨rfl, rfl⟩; exact op_fn Try.func37 rfl rfl rfl (runs_any 16 (Sl.app (Sl.app ha X) _) (by omega))),
      ⟨.plain rfl (by intro X; exact op_fieldAddr (off := 0) rfl tF26_0h),
      ⟨.plain rfl (by intro X; rintro _ _ ⟨rfl, rfl⟩; exact op_load1 rfl tO24h (Ent.lab (l := 4) rfl (says_cel 0))),
      ⟨.plain rfl (by intro X; rintro _ _ ⟨rfl, rfl⟩ _ _ ⟨a16, c16, rfl, rfl⟩; show OpT _ _ _ _ _ _ [(_, _)] _; exact op_append (lab := 16) (lab' := 19) rfl rfl tP24h enc1Run (Sl.app (Sl.app hb X) _) (by first | omega | (simp; omega)) (by first | omega | (simp; omega))),
      ⟨.plain rfl (by intro X; rintro _ _ ⟨a19, c19, rfl, rfl⟩; exact op_lenT rfl tS24h (Sl.ent (Sl.lab 19 rfl (by rw [hlab]; unfold maxLen; omega)))),
      ⟨.plain rfl (by intro X; exact op_move rfl),
      trivial⟩⟩⟩⟩⟩⟩⟩ ?_
  rintro _ _ ⟨rfl, rfl⟩ _ _ ⟨a16, c16, rfl, rfl⟩ _ _ ⟨rfl, rfl⟩ _ _ ⟨rfl, rfl⟩ _ _ ⟨a19, c19, rfl, rfl⟩ _ _ ⟨rfl, rfl⟩ _ _ ⟨rfl, rfl⟩
  refine wl_norm (e' := [(2, _), (3, _), (4, _), (6, _), (7, _), (19, _), (20, _), (21, _)]) (.cons rfl (.cons rfl (.cons rfl (.cons rfl (.cons rfl (.cons rfl (.cons rfl (.cons rfl (.nil _))))))))) (by dsimp only [cond_false, cond_true, List.nil_append, List.cons_append]) ?_
  refine wl_nil ?_
  refine st_tn ?_
  refine w_block ?_
  refine w_emp 7 (slO_nil 3 1) ?_
  refine w_loopK (X := Nat × Option Addr × Nat) (fun z => z.1 ≤ (a ++ b).length) (fun z => [(7, .slice z.2.1 (cutsOf ((a ++ b).take z.1)).length z.2.2), (21, .int .i64 z.1)]) (fun z => [(7, slW 3 encZ 1 (.slice z.2.1 (cutsOf ((a ++ b).take z.1)).length z.2.2) (cutsOf ((a ++ b).take z.1)))]) (fun z => (a ++ b).length - z.1) ((0, none, 0)) [(2, _), (3, _), (4, _), (6, _), (19, _), (20, _)] [(3, _), (4, _), (6, _), (19, _)] (Nat.zero_le _) (.cons rfl (.cons rfl (.nil _))) (.cons rfl (.cons rfl (.cons rfl (.cons rfl (.cons rfl (.cons rfl (.nil _))))))) [7, 3, 4, 6, 19] rfl (rfl) ?_
  rintro ⟨i, a7, c7⟩ hi
  refine w_norm2 (by dsimp only [List.cons_append, List.nil_append]) (by dsimp only [List.cons_append, List.nil_append]) ?_
  dsimp only at hi ⊢
  refine w_seq ?_
  refine w_region ?_
  refine wl_det rfl rfl rfl (op_lss rfl rfl) ?_
  refine wl_nil ?_
  refine st_tn ?_
  refine w_seq ?_
  refine w_cond_d rfl (fun hc22 => ?_) (fun hc22 => ?_)
  · -- c22.t
    obtain ⟨r, hr⟩ := getE (l := a ++ b) (i := i) (by omega)
    have hlt := ltE hr
    have hts : cutsOf ((a ++ b).take (i + 1)) = cutsOf ((a ++ b).take i) ++ [r.1, r.2 + 1] := by rw [take_snoc hr, cuts_snoc]
    have hcl := cuts_len ((a ++ b).take i)
    rw [List.length_take] at hcl
    have hbr : 0 ≤ r.1 ∧ r.1 ≤ r.2 ∧ r.2 ≤ 1048575 := by
      rcases List.mem_append.1 (List.mem_of_getElem? hr) with h | h
      · exact hia r h
      · exact hib r h
    refine w_skip ?_
    refine st_tn ?_
    refine w_seq ?_
    refine w_block ?_
    refine w_seq ?_
    refine w_region ?_
    refine wl_det rfl rfl rfl (op_idx rfl rfl tS24h (Sl.ent (Sl.lab 19 rfl (by rw [hlab]; unfold maxLen; omega))) (by omega)) ?_
    refine wl_det rfl rfl rfl (op_ldxA rfl tA58h (Sl.lab 19 rfl (by rw [hlab]; unfold maxLen; omega)) (by assumption) (by rfl) (by rfl)) ?_
    refine wl_op [] rfl rfl rfl rfl (op_alloc (l := 9) tN58h) ?_
    rintro _ _ ⟨b9, rfl, rfl⟩
    refine wl_op0 [9] rfl rfl rfl (op_store rfl rfl tZ58h (by rfl) (by rfl) (by exact Nat.le_of_ble_eq_true rfl)) ?_
    rintro _ _ ⟨rfl, rfl⟩
    refine wl_nil ?_
    refine st_tn ?_
    refine w_region ?_
    refine wl_det rfl rfl rfl (op_move rfl) ?_
    refine wl_det rfl rfl rfl (op_fieldAddr (off := 0) rfl tF58_0h) ?_
    refine wl_det rfl rfl rfl (op_load1 rfl tO3h (Ent.lab (l := 9) rfl (says_cel 0))) ?_
    refine wl_det rfl rfl rfl (op_fieldAddr (off := 1) rfl tF58_1h) ?_
    refine wl_det rfl rfl rfl (op_load1 rfl tO3h (Ent.lab (l := 9) rfl (says_cel 1))) ?_
    refine wl_det rfl rfl rfl (op_add' rfl rfl (by omega)) ?_
    refine wl_op [] rfl rfl rfl rfl (op_buildSlice (enc := SL.encZ) (l := [_, _]) (lab := 31) tL22_2h rfl rfl (fun _ => rfl) rfl) ?_
    rintro _ _ ⟨a31, c31, rfl, rfl⟩
    refine wl_op [7] rfl rfl rfl rfl (op_append (lab := 7) (lab' := 32) rfl rfl tP22h SL.enc1Z (Sl.lab 31 rfl (by simp [maxLen])) (by first | omega | (simp; omega)) (by first | omega | (simp; omega))) ?_
    rintro _ _ ⟨a32, c32, rfl, rfl⟩
    refine wl_det rfl rfl rfl (op_assign rfl) ?_
    refine wl_nil ?_
    refine st_bn ?_
    refine st_tn ?_
    refine w_region ?_
    refine wl_det rfl rfl rfl (op_add' rfl rfl (by omega)) ?_
    refine wl_det rfl rfl rfl (op_move rfl) ?_
    refine wl_nil ?_
    refine st_roundK (x := (i, a7, c7)) ((i + 1, a32, c32)) [32, 3, 4, 6, 19] (by show i + 1 ≤ _; omega) (by show (a ++ b).length - (i + 1) < (a ++ b).length - i; omega) (.cons (by rw [hts]; rfl) (.cons rfl (.nil _))) (.cons rfl (.cons rfl (.cons rfl (.cons rfl (.cons rfl (.cons rfl (.nil _))))))) rfl (by rw [hts]; rfl) 
  · -- c22.f
    refine w_exit ?_
    refine st_te ?_
    refine st_te ?_
    refine st_be ?_
    refine st_tn ?_
    refine w_seq ?_
    have htall := take_all (l := a ++ b) (i := i) (by omega)
    rw [htall]
    have hcl := cuts_len (a ++ b)
    have hsl := length_srt (cutsOf (a ++ b))
    obtain ⟨hss, hsm⟩ := compact_spec (srt_le (cutsOf (a ++ b)))
    have hsm' : ∀ x, x ∈ Lib.compact (srt (cutsOf (a ++ b))) ↔ x ∈ cutsOf (a ++ b) := fun x => by rw [hsm, mem_srt]
    have hcle := compact_le (srt (cutsOf (a ++ b)))
    refine w_region ?_
    refine wl_det rfl rfl rfl (op_move rfl) ?_
    refine wl_op [7] rfl rfl rfl rfl (op_fn Try.func51 rfl rfl rfl (sort_any 7 (by omega))) ?_
    rintro _ _ ⟨rfl, rfl⟩
    refine wl_nil ?_
    refine st_tn ?_
    refine w_seq ?_
    refine w_region ?_
    refine wl_det rfl rfl rfl (op_move rfl) ?_
    refine wl_op [7] rfl rfl rfl rfl (op_fn Try.func76 rfl rfl rfl (compact_any' (by omega) 7 37 (by omega))) ?_
    rintro _ _ ⟨rfl, rfl⟩
    refine wl_det rfl rfl rfl (op_assign rfl) ?_
    refine wl_nil ?_
    refine st_tn ?_
    refine w_seq ?_
    refine w_region ?_
    refine wl_op [] rfl rfl rfl rfl (op_alloc (l := 10) tN26h) ?_
    rintro _ _ ⟨b10, rfl, rfl⟩
    refine wl_nil ?_
    refine st_tn ?_
    refine w_seq ?_
    refine w_emp 77 (slO_nil 58 2) ?_
    generalize hcs : Lib.compact (srt (cutsOf (a ++ b))) = cs at hss hsm' hcle ⊢
    refine w_region ?_
    refine wl_det rfl rfl rfl (op_assign rfl) ?_
    refine wl_det rfl rfl rfl (op_assign rfl) ?_
    refine wl_nil ?_
    refine st_tn ?_
    refine w_seq ?_
    refine w_seq ?_
    refine w_region ?_
    refine wl_det rfl rfl rfl (op_assign rfl) ?_
    refine wl_nil ?_
    refine st_tn ?_
    refine w_block ?_
    have hcsl : cs.length ≤ 9223372036854775807 := by omega
    have hstart : (cs = [] ∧ ([] : List Run) = []) ∨ ∃ x, cs[0]? = some x ∧ CInv keep a b x [] ∧ (∀ r ∈ a.take 0, r.2 < x) ∧ (∀ r ∈ b.take 0, r.2 < x) := by
      cases hc0 : cs[0]? with
      | none => left; exact ⟨by simpa using hc0, rfl⟩
      | some x => right; exact ⟨x, rfl, comb_start hk hwa hwb hss (fun c hc => (hsm' c).2 hc) hc0, by simp, by simp⟩
    refine w_loopK (X := Nat × Nat × Nat × List Run × Option Addr × Nat) (fun z => z.2.1 ≤ a.length ∧ z.2.2.1 ≤ b.length ∧ z.2.2.2.1.length ≤ z.1 ∧ z.1 ≤ cs.length ∧ ((cs = [] ∧ z.2.2.2.1 = []) ∨ ∃ x, cs[z.1]? = some x ∧ CInv keep a b x z.2.2.2.1 ∧ (∀ r ∈ a.take z.2.1, r.2 < x) ∧ (∀ r ∈ b.take z.2.2.1, r.2 < x))) (fun z => [(11, .int .i64 z.2.1), (12, .int .i64 z.2.2.1), (13, .int .i64 z.1)]) (fun z => [(10, cel b10 [.slice z.2.2.2.2.1 z.2.2.2.1.length z.2.2.2.2.2] 26), (77, slW 58 encRun 2 (.slice z.2.2.2.2.1 z.2.2.2.1.length z.2.2.2.2.2) z.2.2.2.1)]) (fun z => cs.length - z.1) ((0, 0, 0, [], none, 0)) [(2, _), (3, _), (4, _), (6, _), (7, _), (10, _)] [(3, _), (4, _), (6, _), (19, _), (37, _)] (⟨Nat.zero_le _, Nat.zero_le _, Nat.le_refl _, Nat.zero_le _, hstart⟩) (.cons rfl (.cons rfl (.cons rfl (.nil _)))) (.cons rfl (.cons rfl (.cons rfl (.cons rfl (.cons rfl (.cons rfl (.nil _))))))) [10, 77, 3, 4, 6, 19, 37] rfl (rfl) ?_
    rintro ⟨j, i, k, out, a10, c10⟩ ⟨hi, hkk, hol, hjl, hinv⟩
    refine w_norm2 (by dsimp only [List.cons_append, List.nil_append]) (by dsimp only [List.cons_append, List.nil_append]) ?_
    dsimp only at hi hkk hol hjl hinv ⊢
    refine w_seq ?_
    refine w_seq ?_
    refine w_region ?_
    refine wl_det rfl rfl rfl (op_move rfl) ?_
    refine wl_det rfl rfl rfl (op_add' rfl rfl (by omega)) ?_
    refine wl_det rfl rfl rfl (op_move rfl) ?_
    refine wl_det rfl rfl rfl (op_lenT rfl tS22h (Sl.ent (Sl.lab 37 rfl (by unfold maxLen; omega)))) ?_
    refine wl_det rfl rfl rfl (op_lss rfl rfl) ?_
    refine wl_nil ?_
    refine st_tn ?_
    refine w_cond_d rfl (fun hc42 => ?_) (fun hc42 => ?_)
    · -- c42.t
      obtain ⟨x, hx, hC, hta, htb⟩ := hinv.resolve_left (fun ⟨h, _⟩ => by rw [h] at hc42; simp at hc42; omega)
      obtain ⟨y, hy⟩ := getE (l := cs) (i := j + 1) (by omega)
      have hlt := ltE hx
      have hxy : x < y := by
        obtain ⟨h1, rfl⟩ := List.getElem?_eq_some_iff.1 hx
        obtain ⟨h2, rfl⟩ := List.getElem?_eq_some_iff.1 hy
        exact List.pairwise_iff_getElem.1 hss j (j + 1) h1 h2 (by omega)
      have hbc : ∀ z ∈ cs, 0 ≤ z ∧ z ≤ 1048576 := fun z hz => by
        obtain ⟨r, hr, h⟩ := mem_cutsOf.1 ((hsm' z).1 hz)
        have hbr : 0 ≤ r.1 ∧ r.1 ≤ r.2 ∧ r.2 ≤ 1048575 := by
          rcases List.mem_append.1 hr with h | h
          · exact hia r h
          · exact hib r h
        omega
      have hbx := hbc x (List.mem_of_getElem? hx)
      have hby := hbc y (List.mem_of_getElem? hy)
      refine w_skip ?_
      refine st_tn ?_
      refine w_seq ?_
      refine w_block ?_
      refine w_seq ?_
      refine w_region ?_
      refine wl_det rfl rfl rfl (op_move rfl) ?_
      refine wl_det rfl rfl rfl (op_move rfl) ?_
      refine wl_det rfl rfl rfl (op_idx rfl rfl tS22h (Sl.ent (Sl.lab 37 rfl (by unfold maxLen; omega))) (by omega)) ?_
      refine wl_det rfl rfl rfl (op_ldx rfl tO3h (Sl.lab 37 rfl (by unfold maxLen; omega)) (by assumption) (by rfl)) ?_
      refine wl_det rfl rfl rfl (op_assign rfl) ?_
      refine wl_nil ?_
      refine st_tn ?_
      refine w_seq ?_
      refine w_block ?_
      refine w_loopK (X := Nat) (fun i => i ≤ a.length ∧ ∀ r ∈ a.take i, r.2 < x) (fun i => [(11, .int .i64 i)]) (fun _ => []) (fun i => a.length - i) (i) [(2, _), (3, _), (4, _), (6, _), (7, _), (10, _), (12, _), (13, _), (14, _)] [(10, _), (77, _), (3, _), (4, _), (6, _), (19, _), (37, _)] (⟨hi, hta⟩) (.cons rfl (.nil _)) (.cons rfl (.cons rfl (.cons rfl (.cons rfl (.cons rfl (.cons rfl (.cons rfl (.cons rfl (.cons rfl (.nil _)))))))))) [10, 77, 3, 4, 6, 19, 37] rfl (rfl) ?_
      rintro i' ⟨hi', hia'⟩
      refine w_norm2 (by dsimp only [List.cons_append, List.nil_append]) (by dsimp only [List.cons_append, List.nil_append]) ?_
      refine w_seq ?_
      refine w_seq ?_
      refine w_cutL [(63, .bool (ltB a i' x))] [2, 3, 4, 6, 7, 10, 11, 12, 13, 14] [10, 77, 3, 4, 6, 19, 37] rfl (fun K' hK => ?_) ?_
      · -- cut r15
        refine w_region ?_
        refine wl_det rfl rfl rfl (op_move rfl) ?_
        refine wl_det rfl rfl rfl (op_fieldAddr (off := 0) rfl tF26_0h) ?_
        refine wl_det rfl rfl rfl (op_load1 rfl tO24h (Ent.lab (l := 3) rfl (says_cel 0))) ?_
        refine wl_det rfl rfl rfl (op_lenT rfl tS24h (Sl.ent (by first | exact Sl.app (by assumption) _ | exact Sl.app (Sl.app (by assumption) _) _))) ?_
        refine wl_det rfl rfl rfl (op_lss rfl rfl) ?_
        refine wl_det rfl rfl rfl (op_move rfl) ?_
        refine wl_gsplit (t := 54) rfl (fun hg54 => ?_) (fun hg54 => ?_)
        · -- 54 is True
          obtain ⟨r, hr⟩ := getE (l := a) (i := i') (by omega)
          refine wl_wanted_det rfl rfl rfl rfl rfl rfl rfl (op_fieldAddr (off := 0) rfl tF26_0h) ?_
          refine wl_wanted_det rfl rfl rfl rfl rfl rfl rfl (op_load1 rfl tO24h (Ent.lab (l := 3) rfl (says_cel 0))) ?_
          refine wl_wanted_det rfl rfl rfl rfl rfl rfl rfl (op_move rfl) ?_
          refine wl_wanted_det rfl rfl rfl rfl rfl rfl rfl (op_idx rfl rfl tS24h (Sl.ent (by first | exact Sl.app (by assumption) _ | exact Sl.app (Sl.app (by assumption) _) _)) (by omega)) ?_
          refine wl_wanted_det rfl rfl rfl rfl rfl rfl rfl (op_fieldAddr (off := 1) rfl tF58_1h) ?_
          refine wl_wanted_det rfl rfl rfl rfl rfl rfl rfl (op_ldxf rfl tO3h (by first | exact Sl.app (by assumption) _ | exact Sl.app (Sl.app (by assumption) _) _) (by assumption) (by rfl)) ?_
          refine wl_wanted_det rfl rfl rfl rfl rfl rfl rfl (op_move rfl) ?_
          refine wl_wanted_det rfl rfl rfl rfl rfl rfl rfl (op_lss rfl rfl) ?_
          refine wl_det rfl rfl rfl (op_pick_t rfl rfl) ?_
          refine wl_nil ?_
          refine st_tn ?_
          exact cut_done (L' := [10, 77, 3, 4, 6, 19, 37]) hK (by 
              intro q hq; obtain rfl : q = _ := by simpa using hq
              show some (Value.bool _) = some _; simp [ltB, hr]) (by rfl) rfl rfl
        · -- 54 is False
          have hr : a[i']? = none := by simp; omega
          refine wl_unwanted rfl rfl rfl rfl rfl rfl rfl rfl ?_
          refine wl_unwanted rfl rfl rfl rfl rfl rfl rfl rfl ?_
          refine wl_unwanted rfl rfl rfl rfl rfl rfl rfl rfl ?_
          refine wl_unwanted rfl rfl rfl rfl rfl rfl rfl rfl ?_
          refine wl_unwanted rfl rfl rfl rfl rfl rfl rfl rfl ?_
          refine wl_unwanted rfl rfl rfl rfl rfl rfl rfl rfl ?_
          refine wl_unwanted rfl rfl rfl rfl rfl rfl rfl rfl ?_
          refine wl_unwanted rfl rfl rfl rfl rfl rfl rfl rfl ?_
          refine wl_det rfl rfl rfl (op_pick_f rfl rfl) ?_
          refine wl_nil ?_
          refine st_tn ?_
          exact cut_done (L' := [10, 77, 3, 4, 6, 19, 37]) hK (by 
                            intro q hq; obtain rfl : q = _ := by simpa using hq
                            show some (Value.bool _) = some _; simp [ltB, hr]) (by rfl) rfl rfl
      · -- behind r15
        show W _ _ _ _ _ [(63, _), (2, _), (3, _), (4, _), (6, _), (7, _), (10, _), (11, _), (12, _), (13, _), (14, _)] [(10, _), (77, _), (3, _), (4, _), (6, _), (19, _), (37, _)] _
        refine w_cond rfl (fun hc63 => ?_) (fun hc63 => ?_)
        · -- c63.t
          obtain ⟨r, hr, hlt'⟩ : ∃ r, a[i']? = some r ∧ r.2 < x := by
            unfold ltB at hc63
            cases hr : a[i']? with
            | none => rw [hr] at hc63; simp at hc63
            | some r => rw [hr] at hc63; exact ⟨r, rfl, by simpa using hc63⟩
          have := ltE hr
          refine w_skip ?_
          refine st_tn ?_
          refine w_block ?_
          refine w_region ?_
          refine wl_det rfl rfl rfl (op_move rfl) ?_
          refine wl_det rfl rfl rfl (op_add' rfl rfl (by omega)) ?_
          refine wl_det rfl rfl rfl (op_assign rfl) ?_
          refine wl_nil ?_
          refine st_bn ?_
          refine st_roundK (x := i') (i' + 1) [10, 77, 3, 4, 6, 19, 37] (⟨by omega, by rw [take_snoc hr]; intro r' hr'; rcases List.mem_append.1 hr' with h | h; (· exact hia' r' h); (· simp at h; subst h; exact hlt')⟩) (by omega) (.cons rfl (.nil _)) (.cons rfl (.cons rfl (.cons rfl (.cons rfl (.cons rfl (.cons rfl (.cons rfl (.cons rfl (.cons rfl (.nil _)))))))))) rfl (rfl) 
        · -- c63.f
          have hda : hd a i' x = memB a x := hd_ok hwa hia' (fun r hr => by
            unfold ltB at hc63
            rw [hr] at hc63; simp at hc63; exact hc63)
          refine w_exit ?_
          refine st_te ?_
          refine st_te ?_
          refine st_be ?_
          refine st_tn ?_
          refine w_seq ?_
          refine w_block ?_
          refine w_loopK (X := Nat) (fun k => k ≤ b.length ∧ ∀ r ∈ b.take k, r.2 < x) (fun k => [(12, .int .i64 k)]) (fun _ => []) (fun k => b.length - k) (k) [(2, _), (3, _), (4, _), (6, _), (7, _), (10, _), (11, _), (13, _), (14, _)] [(10, _), (77, _), (3, _), (4, _), (6, _), (19, _), (37, _)] (⟨hkk, htb⟩) (.cons rfl (.nil _)) (.cons rfl (.cons rfl (.cons rfl (.cons rfl (.cons rfl (.cons rfl (.cons rfl (.cons rfl (.cons rfl (.nil _)))))))))) [10, 77, 3, 4, 6, 19, 37] rfl (rfl) ?_
          rintro k' ⟨hk', hib'⟩
          refine w_norm2 (by dsimp only [List.cons_append, List.nil_append]) (by dsimp only [List.cons_append, List.nil_append]) ?_
          refine w_seq ?_
          refine w_seq ?_
          refine w_cutL [(80, .bool (ltB b k' x))] [2, 3, 4, 6, 7, 10, 11, 12, 13, 14] [10, 77, 3, 4, 6, 19, 37] rfl (fun K' hK => ?_) ?_
          · -- cut r17
            refine w_region ?_
            refine wl_det rfl rfl rfl (op_move rfl) ?_
            refine wl_det rfl rfl rfl (op_fieldAddr (off := 0) rfl tF26_0h) ?_
            refine wl_det rfl rfl rfl (op_load1 rfl tO24h (Ent.lab (l := 4) rfl (says_cel 0))) ?_
            refine wl_det rfl rfl rfl (op_lenT rfl tS24h (Sl.ent (by first | exact Sl.app (by assumption) _ | exact Sl.app (Sl.app (by assumption) _) _))) ?_
            refine wl_det rfl rfl rfl (op_lss rfl rfl) ?_
            refine wl_det rfl rfl rfl (op_move rfl) ?_
            refine wl_gsplit (t := 71) rfl (fun hg71 => ?_) (fun hg71 => ?_)
            · -- 71 is True
              obtain ⟨r, hr⟩ := getE (l := b) (i := k') (by omega)
              refine wl_wanted_det rfl rfl rfl rfl rfl rfl rfl (op_fieldAddr (off := 0) rfl tF26_0h) ?_
              refine wl_wanted_det rfl rfl rfl rfl rfl rfl rfl (op_load1 rfl tO24h (Ent.lab (l := 4) rfl (says_cel 0))) ?_
              refine wl_wanted_det rfl rfl rfl rfl rfl rfl rfl (op_move rfl) ?_
              refine wl_wanted_det rfl rfl rfl rfl rfl rfl rfl (op_idx rfl rfl tS24h (Sl.ent (by first | exact Sl.app (by assumption) _ | exact Sl.app (Sl.app (by assumption) _) _)) (by omega)) ?_
              refine wl_wanted_det rfl rfl rfl rfl rfl rfl rfl (op_fieldAddr (off := 1) rfl tF58_1h) ?_
              refine wl_wanted_det rfl rfl rfl rfl rfl rfl rfl (op_ldxf rfl tO3h (by first | exact Sl.app (by assumption) _ | exact Sl.app (Sl.app (by assumption) _) _) (by assumption) (by rfl)) ?_
              refine wl_wanted_det rfl rfl rfl rfl rfl rfl rfl (op_move rfl) ?_
              refine wl_wanted_det rfl rfl rfl rfl rfl rfl rfl (op_lss rfl rfl) ?_
              refine wl_det rfl rfl rfl (op_pick_t rfl rfl) ?_
              refine wl_nil ?_
              refine st_tn ?_
              exact cut_done (L' := [10, 77, 3, 4, 6, 19, 37]) hK (by 
                  intro q hq; obtain rfl : q = _ := by simpa using hq
                  show some (Value.bool _) = some _; simp [ltB, hr]) (by rfl) rfl rfl
            · -- 71 is False
              have hr : b[k']? = none := by simp; omega
              refine wl_unwanted rfl rfl rfl rfl rfl rfl rfl rfl ?_
              refine wl_unwanted rfl rfl rfl rfl rfl rfl rfl rfl ?_
              refine wl_unwanted rfl rfl rfl rfl rfl rfl rfl rfl ?_
              refine wl_unwanted rfl rfl rfl rfl rfl rfl rfl rfl ?_
              refine wl_unwanted rfl rfl rfl rfl rfl rfl rfl rfl ?_
              refine wl_unwanted rfl rfl rfl rfl rfl rfl rfl rfl ?_
              refine wl_unwanted rfl rfl rfl rfl rfl rfl rfl rfl ?_
              refine wl_unwanted rfl rfl rfl rfl rfl rfl rfl rfl ?_
              refine wl_det rfl rfl rfl (op_pick_f rfl rfl) ?_
              refine wl_nil ?_
              refine st_tn ?_
              exact cut_done (L' := [10, 77, 3, 4, 6, 19, 37]) hK (by 
                                    intro q hq; obtain rfl : q = _ := by simpa using hq
                                    show some (Value.bool _) = some _; simp [ltB, hr]) (by rfl) rfl rfl
          · -- behind r17
            show W _ _ _ _ _ [(80, _), (2, _), (3, _), (4, _), (6, _), (7, _), (10, _), (11, _), (12, _), (13, _), (14, _)] [(10, _), (77, _), (3, _), (4, _), (6, _), (19, _), (37, _)] _
            refine w_cond rfl (fun hc80 => ?_) (fun hc80 => ?_)
            · -- c80.t
              obtain ⟨r, hr, hlt'⟩ : ∃ r, b[k']? = some r ∧ r.2 < x := by
                unfold ltB at hc80
                cases hr : b[k']? with
                | none => rw [hr] at hc80; simp at hc80
                | some r => rw [hr] at hc80; exact ⟨r, rfl, by simpa using hc80⟩
              have := ltE hr
              refine w_skip ?_
              refine st_tn ?_
              refine w_block ?_
              refine w_region ?_
              refine wl_det rfl rfl rfl (op_move rfl) ?_
              refine wl_det rfl rfl rfl (op_add' rfl rfl (by omega)) ?_
              refine wl_det rfl rfl rfl (op_assign rfl) ?_
              refine wl_nil ?_
              refine st_bn ?_
              refine st_roundK (x := k') (k' + 1) [10, 77, 3, 4, 6, 19, 37] (⟨by omega, by rw [take_snoc hr]; intro r' hr'; rcases List.mem_append.1 hr' with h | h; (· exact hib' r' h); (· simp at h; subst h; exact hlt')⟩) (by omega) (.cons rfl (.nil _)) (.cons rfl (.cons rfl (.cons rfl (.cons rfl (.cons rfl (.cons rfl (.cons rfl (.cons rfl (.cons rfl (.nil _)))))))))) rfl (rfl) 
            · -- c80.f
              have hdb : hd b k' x = memB b x := hd_ok hwb hib' (fun r hr => by
                unfold ltB at hc80
                rw [hr] at hc80; simp at hc80; exact hc80)
              have hstep := comb_step hC hss (fun c hc => (hsm' c).2 hc) hx hy
              refine w_exit ?_
              refine st_te ?_
              refine st_te ?_
              refine st_be ?_
              refine st_tn ?_
              refine w_seq ?_
              refine w_cutL [(114, .bool (keep (hd a i' x) (hd b k' x)))] [2, 3, 4, 6, 7, 10, 11, 12, 13, 14] [10, 77, 3, 4, 6, 19, 37] rfl (fun K' hK => ?_) ?_
              · -- cut r19
                by_cases hq6 : (i' : Int) < a.length
                · -- hq6 True
                  obtain ⟨ra, hra⟩ := getE (l := a) (i := i') (by omega)
                  by_cases hq21 : (k' : Int) < b.length
                  · -- hq21 True
                    obtain ⟨rb, hrb⟩ := getE (l := b) (i := k') (by omega)
                    refine w_draw (D := (⟨83, [], [], [], _, false, [], []⟩ :: ⟨84, [], [], [], _, false, [], []⟩ :: ⟨85, [], [], [], _, false, [], []⟩ :: ⟨86, [2], [], [], _, false, [], []⟩ :: ⟨87, [3], [], [], _, false, [], []⟩ :: ⟨88, [1, 4], [], [], _, false, [], []⟩ :: ⟨89, [5], [], [], _, false, [], []⟩ :: ⟨90, [], [], [], _, false, [], []⟩ :: ⟨91, [7], [], [], _, false, [], []⟩ :: ⟨92, [], [], [], _, false, [], []⟩ :: ⟨93, [8, 9], [], [], _, false, [], []⟩ :: ⟨94, [10], [], [], _, false, [], []⟩ :: ⟨95, [11], [], [], _, false, [], []⟩ :: ⟨96, [], [], [], _, false, [], []⟩ :: ⟨97, [12, 13], [], [], _, false, [], []⟩ :: ⟨98, [6, 14], [], [], _, false, [], []⟩ :: ⟨99, [], [], [], _, false, [], []⟩ :: ⟨100, [], [], [], _, false, [], []⟩ :: ⟨101, [17], [], [], _, false, [], []⟩ :: ⟨102, [18], [], [], _, false, [], []⟩ :: ⟨103, [16, 19], [], [], _, false, [], []⟩ :: ⟨104, [20], [], [], _, false, [], []⟩ :: ⟨105, [], [], [], _, false, [], []⟩ :: ⟨106, [22], [], [], _, false, [], []⟩ :: ⟨107, [], [], [], _, false, [], []⟩ :: ⟨108, [23, 24], [], [], _, false, [], []⟩ :: ⟨109, [25], [], [], _, false, [], []⟩ :: ⟨110, [26], [], [], _, false, [], []⟩ :: ⟨111, [], [], [], _, false, [], []⟩ :: ⟨112, [27, 28], [], [], _, false, [], []⟩ :: ⟨113, [21, 29], [], [], _, false, [], []⟩ :: [])) [] [2, 11, 3, 14, 12, 4] (⟨83, [], [], false, [], []⟩ :: ⟨84, [], [], false, [], []⟩ :: ⟨85, [], [], false, [], []⟩ :: ⟨86, [2], [], false, [], []⟩ :: ⟨87, [3], [], false, [], []⟩ :: ⟨88, [1, 4], [], false, [], []⟩ :: ⟨89, [5], [], false, [], []⟩ :: ⟨90, [], [], false, [], []⟩ :: ⟨91, [7], [], false, [], []⟩ :: ⟨92, [], [], false, [], []⟩ :: ⟨93, [8, 9], [], false, [], []⟩ :: ⟨94, [10], [], false, [], []⟩ :: ⟨95, [11], [], false, [], []⟩ :: ⟨96, [], [], false, [], []⟩ :: ⟨97, [12, 13], [], false, [], []⟩ :: ⟨98, [6, 14], [], false, [], []⟩ :: ⟨99, [], [], false, [], []⟩ :: ⟨100, [], [], false, [], []⟩ :: ⟨101, [17], [], false, [], []⟩ :: ⟨102, [18], [], false, [], []⟩ :: ⟨103, [16, 19], [], false, [], []⟩ :: ⟨104, [20], [], false, [], []⟩ :: ⟨105, [], [], false, [], []⟩ :: ⟨106, [22], [], false, [], []⟩ :: ⟨107, [], [], false, [], []⟩ :: ⟨108, [23, 24], [], false, [], []⟩ :: ⟨109, [25], [], false, [], []⟩ :: ⟨110, [26], [], false, [], []⟩ :: ⟨111, [], [], false, [], []⟩ :: ⟨112, [27, 28], [], false, [], []⟩ :: ⟨113, [21, 29], [], false, [], []⟩ :: []) tMixh (by rfl) (by kernel_rfl) (by rfl) (by rfl)
                        ⟨.plain rfl (by intro X; exact op_move rfl),
                        ⟨.plain rfl (by intro X; exact op_move rfl),
                        ⟨.plain rfl (by intro X; exact op_fieldAddr (off := 0) rfl tF26_0h),
                        ⟨.plain rfl (by intro X; rintro _ _ ⟨rfl, rfl⟩; exact op_load1 rfl tO24h (Ent.lab (l := 3) rfl (says_cel 0))),
                        ⟨.plain rfl (by intro X; rintro _ _ ⟨rfl, rfl⟩; exact op_lenT rfl tS24h (Sl.ent (by first | exact Sl.app (by assumption) _ | exact Sl.app (Sl.app (by assumption) _) _))),
                        ⟨.plain rfl (by intro X; rintro _ _ ⟨rfl, rfl⟩ _ _ ⟨rfl, rfl⟩; exact op_lss rfl rfl),
                        ⟨.plain rfl (by intro X; rintro _ _ ⟨rfl, rfl⟩; exact op_move rfl),
                        ⟨.wanted rfl rfl rfl (by rintro _ _ ⟨rfl, rfl⟩; first | rfl | (exact congrArg Value.bool (decide_eq_true (by omega))) | (exact congrArg Value.bool (decide_eq_false (by omega))) | (simp; done) | (simp; omega) | (simp [*]; done)) (by intro X; exact op_fieldAddr (off := 0) rfl tF26_0h),
                        ⟨.wanted rfl rfl rfl (by rintro _ _ ⟨rfl, rfl⟩; first | rfl | (exact congrArg Value.bool (decide_eq_true (by omega))) | (exact congrArg Value.bool (decide_eq_false (by omega))) | (simp; done) | (simp; omega) | (simp [*]; done)) (by intro X; rintro _ _ ⟨rfl, rfl⟩; exact op_load1 rfl tO24h (Ent.lab (l := 3) rfl (says_cel 0))),
                        ⟨.wanted rfl rfl rfl (by rintro _ _ ⟨rfl, rfl⟩; first | rfl | (exact congrArg Value.bool (decide_eq_true (by omega))) | (exact congrArg Value.bool (decide_eq_false (by omega))) | (simp; done) | (simp; omega) | (simp [*]; done)) (by intro X; exact op_move rfl),
                        ⟨.wanted rfl rfl rfl (by rintro _ _ ⟨rfl, rfl⟩; first | rfl | (exact congrArg Value.bool (decide_eq_true (by omega))) | (exact congrArg Value.bool (decide_eq_false (by omega))) | (simp; done) | (simp; omega) | (simp [*]; done)) (by intro X; rintro _ _ ⟨rfl, rfl⟩ _ _ ⟨rfl, rfl⟩; exact op_idx rfl rfl tS24h (Sl.ent (by first | exact Sl.app (by assumption) _ | exact Sl.app (Sl.app (by assumption) _) _)) (by omega)),
                        ⟨.wanted rfl rfl rfl (by rintro _ _ ⟨rfl, rfl⟩; first | rfl | (exact congrArg Value.bool (decide_eq_true (by omega))) | (exact congrArg Value.bool (decide_eq_false (by omega))) | (simp; done) | (simp; omega) | (simp [*]; done)) (by intro X; rintro _ _ ⟨rfl, rfl⟩; exact op_fieldAddr (off := 0) rfl tF58_0h),
                        ⟨.wanted rfl rfl rfl (by rintro _ _ ⟨rfl, rfl⟩; first | rfl | (exact congrArg Value.bool (decide_eq_true (by omega))) | (exact congrArg Value.bool (decide_eq_false (by omega))) | (simp; done) | (simp; omega) | (simp [*]; done)) (by intro X; rintro _ _ ⟨rfl, rfl⟩; exact op_ldxf rfl tO3h (by first | exact Sl.app (by assumption) _ | exact Sl.app (Sl.app (by assumption) _) _) (by assumption) (by rfl)),
                        ⟨.wanted rfl rfl rfl (by rintro _ _ ⟨rfl, rfl⟩; first | rfl | (exact congrArg Value.bool (decide_eq_true (by omega))) | (exact congrArg Value.bool (decide_eq_false (by omega))) | (simp; done) | (simp; omega) | (simp [*]; done)) (by intro X; exact op_move rfl),
                        ⟨.wanted rfl rfl rfl (by rintro _ _ ⟨rfl, rfl⟩; first | rfl | (exact congrArg Value.bool (decide_eq_true (by omega))) | (exact congrArg Value.bool (decide_eq_false (by omega))) | (simp; done) | (simp; omega) | (simp [*]; done)) (by intro X; rintro _ _ ⟨rfl, rfl⟩ _ _ ⟨rfl, rfl⟩; exact op_leq rfl rfl),
                        ⟨.plain rfl (by intro X; rintro _ _ ⟨rfl, rfl⟩ _ _ ⟨rfl, rfl⟩; exact op_pick_t (by first | rfl | (show some (Value.bool (decide _)) = _; rw [decide_eq_true (by omega)]) | (show some (Value.bool (decide _)) = _; rw [decide_eq_false (by omega)]) | (simp [ev, lk]; done) | (simp [ev, lk]; omega) | (simp [ev, lk, *]; done)) rfl),
                        ⟨.plain rfl (by intro X; exact op_move rfl),
                        ⟨.plain rfl (by intro X; exact op_fieldAddr (off := 0) rfl tF26_0h),
                        ⟨.plain rfl (by intro X; rintro _ _ ⟨rfl, rfl⟩; exact op_load1 rfl tO24h (Ent.lab (l := 4) rfl (says_cel 0))),
                        ⟨.plain rfl (by intro X; rintro _ _ ⟨rfl, rfl⟩; exact op_lenT rfl tS24h (Sl.ent (by first | exact Sl.app (by assumption) _ | exact Sl.app (Sl.app (by assumption) _) _))),
                        ⟨.plain rfl (by intro X; rintro _ _ ⟨rfl, rfl⟩ _ _ ⟨rfl, rfl⟩; exact op_lss rfl rfl),
                        ⟨.plain rfl (by intro X; rintro _ _ ⟨rfl, rfl⟩; exact op_move rfl),
                        ⟨.wanted rfl rfl rfl (by rintro _ _ ⟨rfl, rfl⟩; first | rfl | (exact congrArg Value.bool (decide_eq_true (by omega))) | (exact congrArg Value.bool (decide_eq_false (by omega))) | (simp; done) | (simp; omega) | (simp [*]; done)) (by intro X; exact op_fieldAddr (off := 0) rfl tF26_0h),
                        ⟨.wanted rfl rfl rfl (by rintro _ _ ⟨rfl, rfl⟩; first | rfl | (exact congrArg Value.bool (decide_eq_true (by omega))) | (exact congrArg Value.bool (decide_eq_false (by omega))) | (simp; done) | (simp; omega) | (simp [*]; done)) (by intro X; rintro _ _ ⟨rfl, rfl⟩; exact op_load1 rfl tO24h (Ent.lab (l := 4) rfl (says_cel 0))),
                        ⟨.wanted rfl rfl rfl (by rintro _ _ ⟨rfl, rfl⟩; first | rfl | (exact congrArg Value.bool (decide_eq_true (by omega))) | (exact congrArg Value.bool (decide_eq_false (by omega))) | (simp; done) | (simp; omega) | (simp [*]; done)) (by intro X; exact op_move rfl),
                        ⟨.wanted rfl rfl rfl (by rintro _ _ ⟨rfl, rfl⟩; first | rfl | (exact congrArg Value.bool (decide_eq_true (by omega))) | (exact congrArg Value.bool (decide_eq_false (by omega))) | (simp; done) | (simp; omega) | (simp [*]; done)) (by intro X; rintro _ _ ⟨rfl, rfl⟩ _ _ ⟨rfl, rfl⟩; exact op_idx rfl rfl tS24h (Sl.ent (by first | exact Sl.app (by assumption) _ | exact Sl.app (Sl.app (by assumption) _) _)) (by omega)),
                        ⟨.wanted rfl rfl rfl (by rintro _ _ ⟨rfl, rfl⟩; first | rfl | (exact congrArg Value.bool (decide_eq_true (by omega))) | (exact congrArg Value.bool (decide_eq_false (by omega))) | (simp; done) | (simp; omega) | (simp [*]; done)) (by intro X; rintro _ _ ⟨rfl, rfl⟩; exact op_fieldAddr (off := 0) rfl tF58_0h),
                        ⟨.wanted rfl rfl rfl (by rintro _ _ ⟨rfl, rfl⟩; first | rfl | (exact congrArg Value.bool (decide_eq_true (by omega))) | (exact congrArg Value.bool (decide_eq_false (by omega))) | (simp; done) | (simp; omega) | (simp [*]; done)) (by intro X; rintro _ _ ⟨rfl, rfl⟩; exact op_ldxf rfl tO3h (by first | exact Sl.app (by assumption) _ | exact Sl.app (Sl.app (by assumption) _) _) (by assumption) (by rfl)),
                        ⟨.wanted rfl rfl rfl (by rintro _ _ ⟨rfl, rfl⟩; first | rfl | (exact congrArg Value.bool (decide_eq_true (by omega))) | (exact congrArg Value.bool (decide_eq_false (by omega))) | (simp; done) | (simp; omega) | (simp [*]; done)) (by intro X; exact op_move rfl),
                        ⟨.wanted rfl rfl rfl (by rintro _ _ ⟨rfl, rfl⟩; first | rfl | (exact congrArg Value.bool (decide_eq_true (by omega))) | (exact congrArg Value.bool (decide_eq_false (by omega))) | (simp; done) | (simp; omega) | (simp [*]; done)) (by intro X; rintro _ _ ⟨rfl, rfl⟩ _ _ ⟨rfl, rfl⟩; exact op_leq rfl rfl),
                        ⟨.plain rfl (by intro X; rintro _ _ ⟨rfl, rfl⟩ _ _ ⟨rfl, rfl⟩; exact op_pick_t (by first | rfl | (show some (Value.bool (decide _)) = _; rw [decide_eq_true (by omega)]) | (show some (Value.bool (decide _)) = _; rw [decide_eq_false (by omega)]) | (simp [ev, lk]; done) | (simp [ev, lk]; omega) | (simp [ev, lk, *]; done)) rfl),
                        trivial⟩⟩⟩⟩⟩⟩⟩⟩⟩⟩⟩⟩⟩⟩⟩⟩⟩⟩⟩⟩⟩⟩⟩⟩⟩⟩⟩⟩⟩⟩⟩ ?_
                    rintro _ _ ⟨rfl, rfl⟩ _ _ ⟨rfl, rfl⟩ _ _ ⟨rfl, rfl⟩ _ _ ⟨rfl, rfl⟩ _ _ ⟨rfl, rfl⟩ _ _ ⟨rfl, rfl⟩ _ _ ⟨rfl, rfl⟩ _ _ ⟨rfl, rfl⟩ _ _ ⟨rfl, rfl⟩ _ _ ⟨rfl, rfl⟩ _ _ ⟨rfl, rfl⟩ _ _ ⟨rfl, rfl⟩ _ _ ⟨rfl, rfl⟩ _ _ ⟨rfl, rfl⟩ _ _ ⟨rfl, rfl⟩ _ _ ⟨rfl, rfl⟩ _ _ ⟨rfl, rfl⟩ _ _ ⟨rfl, rfl⟩ _ _ ⟨rfl, rfl⟩ _ _ ⟨rfl, rfl⟩ _ _ ⟨rfl, rfl⟩ _ _ ⟨rfl, rfl⟩ _ _ ⟨rfl, rfl⟩ _ _ ⟨rfl, rfl⟩ _ _ ⟨rfl, rfl⟩ _ _ ⟨rfl, rfl⟩ _ _ ⟨rfl, rfl⟩ _ _ ⟨rfl, rfl⟩ _ _ ⟨rfl, rfl⟩ _ _ ⟨rfl, rfl⟩ _ _ ⟨rfl, rfl⟩
                    refine wl_norm (e' := [(2, _), (3, _), (4, _), (6, _), (7, _), (10, _), (11, _), (12, _), (13, _), (14, _), (83, _), (98, _), (113, _)]) (.cons rfl (.cons rfl (.cons rfl (.cons rfl (.cons rfl (.cons rfl (.cons rfl (.cons rfl (.cons rfl (.cons rfl (.cons rfl (.cons rfl (.cons rfl (.nil _)))))))))))))) (by dsimp only [cond_false, cond_true, List.nil_append, List.cons_append]) ?_
                    refine wl_det rfl rfl rfl (op_fnv hg hgb hgn rfl rfl (hp _ _ _)) ?_
                    refine wl_nil ?_
                    refine st_tn ?_
                    exact cut_done (L' := [10, 77, 3, 4, 6, 19, 37]) hK (by 
                        intro q hq; obtain rfl : q = _ := by simpa using hq
                        show some (Value.bool _) = some _; simp [hd, hra, hrb]) (by rfl) rfl rfl
                  · -- hq21 False
                    have hrb : b[k']? = none := by simp; omega
                    refine w_draw (D := (⟨83, [], [], [], _, false, [], []⟩ :: ⟨84, [], [], [], _, false, [], []⟩ :: ⟨85, [], [], [], _, false, [], []⟩ :: ⟨86, [2], [], [], _, false, [], []⟩ :: ⟨87, [3], [], [], _, false, [], []⟩ :: ⟨88, [1, 4], [], [], _, false, [], []⟩ :: ⟨89, [5], [], [], _, false, [], []⟩ :: ⟨90, [], [], [], _, false, [], []⟩ :: ⟨91, [7], [], [], _, false, [], []⟩ :: ⟨92, [], [], [], _, false, [], []⟩ :: ⟨93, [8, 9], [], [], _, false, [], []⟩ :: ⟨94, [10], [], [], _, false, [], []⟩ :: ⟨95, [11], [], [], _, false, [], []⟩ :: ⟨96, [], [], [], _, false, [], []⟩ :: ⟨97, [12, 13], [], [], _, false, [], []⟩ :: ⟨98, [6, 14], [], [], _, false, [], []⟩ :: ⟨99, [], [], [], _, false, [], []⟩ :: ⟨100, [], [], [], _, false, [], []⟩ :: ⟨101, [17], [], [], _, false, [], []⟩ :: ⟨102, [18], [], [], _, false, [], []⟩ :: ⟨103, [16, 19], [], [], _, false, [], []⟩ :: ⟨104, [20], [], [], _, false, [], []⟩ :: ⟨105, [], [], [], Det undef, false, [], []⟩ :: ⟨106, [], [], [], Det undef, false, [], []⟩ :: ⟨107, [], [], [], Det undef, false, [], []⟩ :: ⟨108, [], [], [], Det undef, false, [], []⟩ :: ⟨109, [], [], [], Det undef, false, [], []⟩ :: ⟨110, [], [], [], Det undef, false, [], []⟩ :: ⟨111, [], [], [], Det undef, false, [], []⟩ :: ⟨112, [], [], [], Det undef, false, [], []⟩ :: ⟨113, [21, 29], [], [], _, false, [], []⟩ :: [])) [] [2, 11, 3, 14, 12, 4] (⟨83, [], [], false, [], []⟩ :: ⟨84, [], [], false, [], []⟩ :: ⟨85, [], [], false, [], []⟩ :: ⟨86, [2], [], false, [], []⟩ :: ⟨87, [3], [], false, [], []⟩ :: ⟨88, [1, 4], [], false, [], []⟩ :: ⟨89, [5], [], false, [], []⟩ :: ⟨90, [], [], false, [], []⟩ :: ⟨91, [7], [], false, [], []⟩ :: ⟨92, [], [], false, [], []⟩ :: ⟨93, [8, 9], [], false, [], []⟩ :: ⟨94, [10], [], false, [], []⟩ :: ⟨95, [11], [], false, [], []⟩ :: ⟨96, [], [], false, [], []⟩ :: ⟨97, [12, 13], [], false, [], []⟩ :: ⟨98, [6, 14], [], false, [], []⟩ :: ⟨99, [], [], false, [], []⟩ :: ⟨100, [], [], false, [], []⟩ :: ⟨101, [17], [], false, [], []⟩ :: ⟨102, [18], [], false, [], []⟩ :: ⟨103, [16, 19], [], false, [], []⟩ :: ⟨104, [20], [], false, [], []⟩ :: ⟨105, [], [], false, [], []⟩ :: ⟨106, [], [], false, [], []⟩ :: ⟨107, [], [], false, [], []⟩ :: ⟨108, [], [], false, [], []⟩ :: ⟨109, [], [], false, [], []⟩ :: ⟨110, [], [], false, [], []⟩ :: ⟨111, [], [], false, [], []⟩ :: ⟨112, [], [], false, [], []⟩ :: ⟨113, [21, 29], [], false, [], []⟩ :: []) tMixh (by rfl) (by kernel_rfl) (by rfl) (by rfl)
                        ⟨.plain rfl (by intro X; exact op_move rfl),
                        ⟨.plain rfl (by intro X; exact op_move rfl),
                        ⟨.plain rfl (by intro X; exact op_fieldAddr (off := 0) rfl tF26_0h),
                        ⟨.plain rfl (by intro X; rintro _ _ ⟨rfl, rfl⟩; exact op_load1 rfl tO24h (Ent.lab (l := 3) rfl (says_cel 0))),
                        ⟨.plain rfl (by intro X; rintro _ _ ⟨rfl, rfl⟩; exact op_lenT rfl tS24h (Sl.ent (by first | exact Sl.app (by assumption) _ | exact Sl.app (Sl.app (by assumption) _) _))),
                        ⟨.plain rfl (by intro X; rintro _ _ ⟨rfl, rfl⟩ _ _ ⟨rfl, rfl⟩; exact op_lss rfl rfl),
                        ⟨.plain rfl (by intro X; rintro _ _ ⟨rfl, rfl⟩; exact op_move rfl),
                        ⟨.wanted rfl rfl rfl (by rintro _ _ ⟨rfl, rfl⟩; first | rfl | (exact congrArg Value.bool (decide_eq_true (by omega))) | (exact congrArg Value.bool (decide_eq_false (by omega))) | (simp; done) | (simp; omega) | (simp [*]; done)) (by intro X; exact op_fieldAddr (off := 0) rfl tF26_0h),
                        ⟨.wanted rfl rfl rfl (by rintro _ _ ⟨rfl, rfl⟩; first | rfl | (exact congrArg Value.bool (decide_eq_true (by omega))) | (exact congrArg Value.bool (decide_eq_false (by omega))) | (simp; done) | (simp; omega) | (simp [*]; done)) (by intro X; rintro _ _ ⟨rfl, rfl⟩; exact op_load1 rfl tO24h (Ent.lab (l := 3) rfl (says_cel 0))),
                        ⟨.wanted rfl rfl rfl (by rintro _ _ ⟨rfl, rfl⟩; first | rfl | (exact congrArg Value.bool (decide_eq_true (by omega))) | (exact congrArg Value.bool (decide_eq_false (by omega))) | (simp; done) | (simp; omega) | (simp [*]; done)) (by intro X; exact op_move rfl),
                        ⟨.wanted rfl rfl rfl (by rintro _ _ ⟨rfl, rfl⟩; first | rfl | (exact congrArg Value.bool (decide_eq_true (by omega))) | (exact congrArg Value.bool (decide_eq_false (by omega))) | (simp; done) | (simp; omega) | (simp [*]; done)) (by intro X; rintro _ _ ⟨rfl, rfl⟩ _ _ ⟨rfl, rfl⟩; exact op_idx rfl rfl tS24h (Sl.ent (by first | exact Sl.app (by assumption) _ | exact Sl.app (Sl.app (by assumption) _) _)) (by omega)),
                        ⟨.wanted rfl rfl rfl (by rintro _ _ ⟨rfl, rfl⟩; first | rfl | (exact congrArg Value.bool (decide_eq_true (by omega))) | (exact congrArg Value.bool (decide_eq_false (by omega))) | (simp; done) | (simp; omega) | (simp [*]; done)) (by intro X; rintro _ _ ⟨rfl, rfl⟩; exact op_fieldAddr (off := 0) rfl tF58_0h),
                        ⟨.wanted rfl rfl rfl (by rintro _ _ ⟨rfl, rfl⟩; first | rfl | (exact congrArg Value.bool (decide_eq_true (by omega))) | (exact congrArg Value.bool (decide_eq_false (by omega))) | (simp; done) | (simp; omega) | (simp [*]; done)) (by intro X; rintro _ _ ⟨rfl, rfl⟩; exact op_ldxf rfl tO3h (by first | exact Sl.app (by assumption) _ | exact Sl.app (Sl.app (by assumption) _) _) (by assumption) (by rfl)),
                        ⟨.wanted rfl rfl rfl (by rintro _ _ ⟨rfl, rfl⟩; first | rfl | (exact congrArg Value.bool (decide_eq_true (by omega))) | (exact congrArg Value.bool (decide_eq_false (by omega))) | (simp; done) | (simp; omega) | (simp [*]; done)) (by intro X; exact op_move rfl),
                        ⟨.wanted rfl rfl rfl (by rintro _ _ ⟨rfl, rfl⟩; first | rfl | (exact congrArg Value.bool (decide_eq_true (by omega))) | (exact congrArg Value.bool (decide_eq_false (by omega))) | (simp; done) | (simp; omega) | (simp [*]; done)) (by intro X; rintro _ _ ⟨rfl, rfl⟩ _ _ ⟨rfl, rfl⟩; exact op_leq rfl rfl),
                        ⟨.plain rfl (by intro X; rintro _ _ ⟨rfl, rfl⟩ _ _ ⟨rfl, rfl⟩; exact op_pick_t (by first | rfl | (show some (Value.bool (decide _)) = _; rw [decide_eq_true (by omega)]) | (show some (Value.bool (decide _)) = _; rw [decide_eq_false (by omega)]) | (simp [ev, lk]; done) | (simp [ev, lk]; omega) | (simp [ev, lk, *]; done)) rfl),
                        ⟨.plain rfl (by intro X; exact op_move rfl),
                        ⟨.plain rfl (by intro X; exact op_fieldAddr (off := 0) rfl tF26_0h),
                        ⟨.plain rfl (by intro X; rintro _ _ ⟨rfl, rfl⟩; exact op_load1 rfl tO24h (Ent.lab (l := 4) rfl (says_cel 0))),
                        ⟨.plain rfl (by intro X; rintro _ _ ⟨rfl, rfl⟩; exact op_lenT rfl tS24h (Sl.ent (by first | exact Sl.app (by assumption) _ | exact Sl.app (Sl.app (by assumption) _) _))),
                        ⟨.plain rfl (by intro X; rintro _ _ ⟨rfl, rfl⟩ _ _ ⟨rfl, rfl⟩; exact op_lss rfl rfl),
                        ⟨.plain rfl (by intro X; rintro _ _ ⟨rfl, rfl⟩; exact op_move rfl),
                        ⟨.unwanted rfl rfl rfl (by rintro _ _ ⟨rfl, rfl⟩; exact congrArg (offB true) (by first | rfl | (exact congrArg Value.bool (decide_eq_true (by omega))) | (exact congrArg Value.bool (decide_eq_false (by omega))) | (simp; done) | (simp; omega) | (simp [*]; done) : _ = Value.bool false)) ⟨rfl, rfl⟩ rfl rfl,
                        ⟨.unwanted rfl rfl rfl (by rintro _ _ ⟨rfl, rfl⟩; exact congrArg (offB true) (by first | rfl | (exact congrArg Value.bool (decide_eq_true (by omega))) | (exact congrArg Value.bool (decide_eq_false (by omega))) | (simp; done) | (simp; omega) | (simp [*]; done) : _ = Value.bool false)) ⟨rfl, rfl⟩ rfl rfl,
                        ⟨.unwanted rfl rfl rfl (by rintro _ _ ⟨rfl, rfl⟩; exact congrArg (offB true) (by first | rfl | (exact congrArg Value.bool (decide_eq_true (by omega))) | (exact congrArg Value.bool (decide_eq_false (by omega))) | (simp; done) | (simp; omega) | (simp [*]; done) : _ = Value.bool false)) ⟨rfl, rfl⟩ rfl rfl,
                        ⟨.unwanted rfl rfl rfl (by rintro _ _ ⟨rfl, rfl⟩; exact congrArg (offB true) (by first | rfl | (exact congrArg Value.bool (decide_eq_true (by omega))) | (exact congrArg Value.bool (decide_eq_false (by omega))) | (simp; done) | (simp; omega) | (simp [*]; done) : _ = Value.bool false)) ⟨rfl, rfl⟩ rfl rfl,
                        ⟨.unwanted rfl rfl rfl (by rintro _ _ ⟨rfl, rfl⟩; exact congrArg (offB true) (by first | rfl | (exact congrArg Value.bool (decide_eq_true (by omega))) | (exact congrArg Value.bool (decide_eq_false (by omega))) | (simp; done) | (simp; omega) | (simp [*]; done) : _ = Value.bool false)) ⟨rfl, rfl⟩ rfl rfl,
                        ⟨.unwanted rfl rfl rfl (by rintro _ _ ⟨rfl, rfl⟩; exact congrArg (offB true) (by first | rfl | (exact congrArg Value.bool (decide_eq_true (by omega))) | (exact congrArg Value.bool (decide_eq_false (by omega))) | (simp; done) | (simp; omega) | (simp [*]; done) : _ = Value.bool false)) ⟨rfl, rfl⟩ rfl rfl,
                        ⟨.unwanted rfl rfl rfl (by rintro _ _ ⟨rfl, rfl⟩; exact congrArg (offB true) (by first | rfl | (exact congrArg Value.bool (decide_eq_true (by omega))) | (exact congrArg Value.bool (decide_eq_false (by omega))) | (simp; done) | (simp; omega) | (simp [*]; done) : _ = Value.bool false)) ⟨rfl, rfl⟩ rfl rfl,
                        ⟨.unwanted rfl rfl rfl (by rintro _ _ ⟨rfl, rfl⟩; exact congrArg (offB true) (by first | rfl | (exact congrArg Value.bool (decide_eq_true (by omega))) | (exact congrArg Value.bool (decide_eq_false (by omega))) | (simp; done) | (simp; omega) | (simp [*]; done) : _ = Value.bool false)) ⟨rfl, rfl⟩ rfl rfl,
                        ⟨.plain rfl (by intro X; rintro _ _ ⟨rfl, rfl⟩ _ _ ⟨rfl, rfl⟩; exact op_pick_f (by first | rfl | (show some (Value.bool (decide _)) = _; rw [decide_eq_true (by omega)]) | (show some (Value.bool (decide _)) = _; rw [decide_eq_false (by omega)]) | (simp [ev, lk]; done) | (simp [ev, lk]; omega) | (simp [ev, lk, *]; done)) rfl),
                        trivial⟩⟩⟩⟩⟩⟩⟩⟩⟩⟩⟩⟩⟩⟩⟩⟩⟩⟩⟩⟩⟩⟩⟩⟩⟩⟩⟩⟩⟩⟩⟩ ?_
                    rintro _ _ ⟨rfl, rfl⟩ _ _ ⟨rfl, rfl⟩ _ _ ⟨rfl, rfl⟩ _ _ ⟨rfl, rfl⟩ _ _ ⟨rfl, rfl⟩ _ _ ⟨rfl, rfl⟩ _ _ ⟨rfl, rfl⟩ _ _ ⟨rfl, rfl⟩ _ _ ⟨rfl, rfl⟩ _ _ ⟨rfl, rfl⟩ _ _ ⟨rfl, rfl⟩ _ _ ⟨rfl, rfl⟩ _ _ ⟨rfl, rfl⟩ _ _ ⟨rfl, rfl⟩ _ _ ⟨rfl, rfl⟩ _ _ ⟨rfl, rfl⟩ _ _ ⟨rfl, rfl⟩ _ _ ⟨rfl, rfl⟩ _ _ ⟨rfl, rfl⟩ _ _ ⟨rfl, rfl⟩ _ _ ⟨rfl, rfl⟩ _ _ ⟨rfl, rfl⟩ _ _ ⟨rfl, rfl⟩ _ _ ⟨rfl, rfl⟩ _ _ ⟨rfl, rfl⟩ _ _ ⟨rfl, rfl⟩ _ _ ⟨rfl, rfl⟩ _ _ ⟨rfl, rfl⟩ _ _ ⟨rfl, rfl⟩ _ _ ⟨rfl, rfl⟩ _ _ ⟨rfl, rfl⟩
                    refine wl_norm (e' := [(2, _), (3, _), (4, _), (6, _), (7, _), (10, _), (11, _), (12, _), (13, _), (14, _), (83, _), (98, _), (113, _)]) (.cons rfl (.cons rfl (.cons rfl (.cons rfl (.cons rfl (.cons rfl (.cons rfl (.cons rfl (.cons rfl (.cons rfl (.cons rfl (.cons rfl (.cons rfl (.nil _)))))))))))))) (by dsimp only [cond_false, cond_true, List.nil_append, List.cons_append]) ?_
                    refine wl_det rfl rfl rfl (op_fnv hg hgb hgn rfl rfl (hp _ _ _)) ?_
                    refine wl_nil ?_
                    refine st_tn ?_
                    exact cut_done (L' := [10, 77, 3, 4, 6, 19, 37]) hK (by 
                                                intro q hq; obtain rfl : q = _ := by simpa using hq
                                                show some (Value.bool _) = some _; simp [hd, hra, hrb]) (by rfl) rfl rfl
                · -- hq6 False
                  have hra : a[i']? = none := by simp; omega
                  by_cases hq21 : (k' : Int) < b.length
                  · -- hq21 True
                    obtain ⟨rb, hrb⟩ := getE (l := b) (i := k') (by omega)
                    refine w_draw (D := (⟨83, [], [], [], _, false, [], []⟩ :: ⟨84, [], [], [], _, false, [], []⟩ :: ⟨85, [], [], [], _, false, [], []⟩ :: ⟨86, [2], [], [], _, false, [], []⟩ :: ⟨87, [3], [], [], _, false, [], []⟩ :: ⟨88, [1, 4], [], [], _, false, [], []⟩ :: ⟨89, [5], [], [], _, false, [], []⟩ :: ⟨90, [], [], [], Det undef, false, [], []⟩ :: ⟨91, [], [], [], Det undef, false, [], []⟩ :: ⟨92, [], [], [], Det undef, false, [], []⟩ :: ⟨93, [], [], [], Det undef, false, [], []⟩ :: ⟨94, [], [], [], Det undef, false, [], []⟩ :: ⟨95, [], [], [], Det undef, false, [], []⟩ :: ⟨96, [], [], [], Det undef, false, [], []⟩ :: ⟨97, [], [], [], Det undef, false, [], []⟩ :: ⟨98, [6, 14], [], [], _, false, [], []⟩ :: ⟨99, [], [], [], _, false, [], []⟩ :: ⟨100, [], [], [], _, false, [], []⟩ :: ⟨101, [17], [], [], _, false, [], []⟩ :: ⟨102, [18], [], [], _, false, [], []⟩ :: ⟨103, [16, 19], [], [], _, false, [], []⟩ :: ⟨104, [20], [], [], _, false, [], []⟩ :: ⟨105, [], [], [], _, false, [], []⟩ :: ⟨106, [22], [], [], _, false, [], []⟩ :: ⟨107, [], [], [], _, false, [], []⟩ :: ⟨108, [23, 24], [], [], _, false, [], []⟩ :: ⟨109, [25], [], [], _, false, [], []⟩ :: ⟨110, [26], [], [], _, false, [], []⟩ :: ⟨111, [], [], [], _, false, [], []⟩ :: ⟨112, [27, 28], [], [], _, false, [], []⟩ :: ⟨113, [21, 29], [], [], _, false, [], []⟩ :: [])) [] [2, 11, 3, 14, 12, 4] (⟨83, [], [], false, [], []⟩ :: ⟨84, [], [], false, [], []⟩ :: ⟨85, [], [], false, [], []⟩ :: ⟨86, [2], [], false, [], []⟩ :: ⟨87, [3], [], false, [], []⟩ :: ⟨88, [1, 4], [], false, [], []⟩ :: ⟨89, [5], [], false, [], []⟩ :: ⟨90, [], [], false, [], []⟩ :: ⟨91, [], [], false, [], []⟩ :: ⟨92, [], [], false, [], []⟩ :: ⟨93, [], [], false, [], []⟩ :: ⟨94, [], [], false, [], []⟩ :: ⟨95, [], [], false, [], []⟩ :: ⟨96, [], [], false, [], []⟩ :: ⟨97, [], [], false, [], []⟩ :: ⟨98, [6, 14], [], false, [], []⟩ :: ⟨99, [], [], false, [], []⟩ :: ⟨100, [], [], false, [], []⟩ :: ⟨101, [17], [], false, [], []⟩ :: ⟨102, [18], [], false, [], []⟩ :: ⟨103, [16, 19], [], false, [], []⟩ :: ⟨104, [20], [], false, [], []⟩ :: ⟨105, [], [], false, [], []⟩ :: ⟨106, [22], [], false, [], []⟩ :: ⟨107, [], [], false, [], []⟩ :: ⟨108, [23, 24], [], false, [], []⟩ :: ⟨109, [25], [], false, [], []⟩ :: ⟨110, [26], [], false, [], []⟩ :: ⟨111, [], [], false, [], []⟩ :: ⟨112, [27, 28], [], false, [], []⟩ :: ⟨113, [21, 29], [], false, [], []⟩ :: []) tMixh (by rfl) (by kernel_rfl) (by rfl) (by rfl)
                        ⟨.plain rfl (by intro X; exact op_move rfl),
                        ⟨.plain rfl (by intro X; exact op_move rfl),
                        ⟨.plain rfl (by intro X; exact op_fieldAddr (off := 0) rfl tF26_0h),
                        ⟨.plain rfl (by intro X; rintro _ _ ⟨rfl, rfl⟩; exact op_load1 rfl tO24h (Ent.lab (l := 3) rfl (says_cel 0))),
                        ⟨.plain rfl (by intro X; rintro _ _ ⟨rfl, rfl⟩; exact op_lenT rfl tS24h (Sl.ent (by first | exact Sl.app (by assumption) _ | exact Sl.app (Sl.app (by assumption) _) _))),
                        ⟨.plain rfl (by intro X; rintro _ _ ⟨rfl, rfl⟩ _ _ ⟨rfl, rfl⟩; exact op_lss rfl rfl),
                        ⟨.plain rfl (by intro X; rintro _ _ ⟨rfl, rfl⟩; exact op_move rfl),
                        ⟨.unwanted rfl rfl rfl (by rintro _ _ ⟨rfl, rfl⟩; exact congrArg (offB true) (by first | rfl | (exact congrArg Value.bool (decide_eq_true (by omega))) | (exact congrArg Value.bool (decide_eq_false (by omega))) | (simp; done) | (simp; omega) | (simp [*]; done) : _ = Value.bool false)) ⟨rfl, rfl⟩ rfl rfl,
                        ⟨.unwanted rfl rfl rfl (by rintro _ _ ⟨rfl, rfl⟩; exact congrArg (offB true) (by first | rfl | (exact congrArg Value.bool (decide_eq_true (by omega))) | (exact congrArg Value.bool (decide_eq_false (by omega))) | (simp; done) | (simp; omega) | (simp [*]; done) : _ = Value.bool false)) ⟨rfl, rfl⟩ rfl rfl,
                        ⟨.unwanted rfl rfl rfl (by rintro _ _ ⟨rfl, rfl⟩; exact congrArg (offB true) (by first | rfl | (exact congrArg Value.bool (decide_eq_true (by omega))) | (exact congrArg Value.bool (decide_eq_false (by omega))) | (simp; done) | (simp; omega) | (simp [*]; done) : _ = Value.bool false)) ⟨rfl, rfl⟩ rfl rfl,
                        ⟨.unwanted rfl rfl rfl (by rintro _ _ ⟨rfl, rfl⟩; exact congrArg (offB true) (by first | rfl | (exact congrArg Value.bool (decide_eq_true (by omega))) | (exact congrArg Value.bool (decide_eq_false (by omega))) | (simp; done) | (simp; omega) | (simp [*]; done) : _ = Value.bool false)) ⟨rfl, rfl⟩ rfl rfl,
                        ⟨.unwanted rfl rfl rfl (by rintro _ _ ⟨rfl, rfl⟩; exact congrArg (offB true) (by first | rfl | (exact congrArg Value.bool (decide_eq_true (by omega))) | (exact congrArg Value.bool (decide_eq_false (by omega))) | (simp; done) | (simp; omega) | (simp [*]; done) : _ = Value.bool false)) ⟨rfl, rfl⟩ rfl rfl,
                        ⟨.unwanted rfl rfl rfl (by rintro _ _ ⟨rfl, rfl⟩; exact congrArg (offB true) (by first | rfl | (exact congrArg Value.bool (decide_eq_true (by omega))) | (exact congrArg Value.bool (decide_eq_false (by omega))) | (simp; done) | (simp; omega) | (simp [*]; done) : _ = Value.bool false)) ⟨rfl, rfl⟩ rfl rfl,
                        ⟨.unwanted rfl rfl rfl (by rintro _ _ ⟨rfl, rfl⟩; exact congrArg (offB true) (by first | rfl | (exact congrArg Value.bool (decide_eq_true (by omega))) | (exact congrArg Value.bool (decide_eq_false (by omega))) | (simp; done) | (simp; omega) | (simp [*]; done) : _ = Value.bool false)) ⟨rfl, rfl⟩ rfl rfl,
                        ⟨.unwanted rfl rfl rfl (by rintro _ _ ⟨rfl, rfl⟩; exact congrArg (offB true) (by first | rfl | (exact congrArg Value.bool (decide_eq_true (by omega))) | (exact congrArg Value.bool (decide_eq_false (by omega))) | (simp; done) | (simp; omega) | (simp [*]; done) : _ = Value.bool false)) ⟨rfl, rfl⟩ rfl rfl,
                        ⟨.plain rfl (by intro X; rintro _ _ ⟨rfl, rfl⟩ _ _ ⟨rfl, rfl⟩; exact op_pick_f (by first | rfl | (show some (Value.bool (decide _)) = _; rw [decide_eq_true (by omega)]) | (show some (Value.bool (decide _)) = _; rw [decide_eq_false (by omega)]) | (simp [ev, lk]; done) | (simp [ev, lk]; omega) | (simp [ev, lk, *]; done)) rfl),
                        ⟨.plain rfl (by intro X; exact op_move rfl),
                        ⟨.plain rfl (by intro X; exact op_fieldAddr (off := 0) rfl tF26_0h),
                        ⟨.plain rfl (by intro X; rintro _ _ ⟨rfl, rfl⟩; exact op_load1 rfl tO24h (Ent.lab (l := 4) rfl (says_cel 0))),
                        ⟨.plain rfl (by intro X; rintro _ _ ⟨rfl, rfl⟩; exact op_lenT rfl tS24h (Sl.ent (by first | exact Sl.app (by assumption) _ | exact Sl.app (Sl.app (by assumption) _) _))),
                        ⟨.plain rfl (by intro X; rintro _ _ ⟨rfl, rfl⟩ _ _ ⟨rfl, rfl⟩; exact op_lss rfl rfl),
                        ⟨.plain rfl (by intro X; rintro _ _ ⟨rfl, rfl⟩; exact op_move rfl),
                        ⟨.wanted rfl rfl rfl (by rintro _ _ ⟨rfl, rfl⟩; first | rfl | (exact congrArg Value.bool (decide_eq_true (by omega))) | (exact congrArg Value.bool (decide_eq_false (by omega))) | (simp; done) | (simp; omega) | (simp [*]; done)) (by intro X; exact op_fieldAddr (off := 0) rfl tF26_0h),
                        ⟨.wanted rfl rfl rfl (by rintro _ _ ⟨rfl, rfl⟩; first | rfl | (exact congrArg Value.bool (decide_eq_true (by omega))) | (exact congrArg Value.bool (decide_eq_false (by omega))) | (simp; done) | (simp; omega) | (simp [*]; done)) (by intro X; rintro _ _ ⟨rfl, rfl⟩; exact op_load1 rfl tO24h (Ent.lab (l := 4) rfl (says_cel 0))),
                        ⟨.wanted rfl rfl rfl (by rintro _ _ ⟨rfl, rfl⟩; first | rfl | (exact congrArg Value.bool (decide_eq_true (by omega))) | (exact congrArg Value.bool (decide_eq_false (by omega))) | (simp; done) | (simp; omega) | (simp [*]; done)) (by intro X; exact op_move rfl),
                        ⟨.wanted rfl rfl rfl (by rintro _ _ ⟨rfl, rfl⟩; first | rfl | (exact congrArg Value.bool (decide_eq_true (by omega))) | (exact congrArg Value.bool (decide_eq_false (by omega))) | (simp; done) | (simp; omega) | (simp [*]; done)) (by intro X; rintro _ _ ⟨rfl, rfl⟩ _ _ ⟨rfl, rfl⟩; exact op_idx rfl rfl tS24h (Sl.ent (by first | exact Sl.app (by assumption) _ | exact Sl.app (Sl.app (by assumption) _) _)) (by omega)),
                        ⟨.wanted rfl rfl rfl (by rintro _ _ ⟨rfl, rfl⟩; first | rfl | (exact congrArg Value.bool (decide_eq_true (by omega))) | (exact congrArg Value.bool (decide_eq_false (by omega))) | (simp; done) | (simp; omega) | (simp [*]; done)) (by intro X; rintro _ _ ⟨rfl, rfl⟩; exact op_fieldAddr (off := 0) rfl tF58_0h),
                        ⟨.wanted rfl rfl rfl (by rintro _ _ ⟨rfl, rfl⟩; first | rfl | (exact congrArg Value.bool (decide_eq_true (by omega))) | (exact congrArg Value.bool (decide_eq_false (by omega))) | (simp; done) | (simp; omega) | (simp [*]; done)) (by intro X; rintro _ _ ⟨rfl, rfl⟩; exact op_ldxf rfl tO3h (by first | exact Sl.app (by assumption) _ | exact Sl.app (Sl.app (by assumption) _) _) (by assumption) (by rfl)),
                        ⟨.wanted rfl rfl rfl (by rintro _ _ ⟨rfl, rfl⟩; first | rfl | (exact congrArg Value.bool (decide_eq_true (by omega))) | (exact congrArg Value.bool (decide_eq_false (by omega))) | (simp; done) | (simp; omega) | (simp [*]; done)) (by intro X; exact op_move rfl),
                        ⟨.wanted rfl rfl rfl (by rintro _ _ ⟨rfl, rfl⟩; first | rfl | (exact congrArg Value.bool (decide_eq_true (by omega))) | (exact congrArg Value.bool (decide_eq_false (by omega))) | (simp; done) | (simp; omega) | (simp [*]; done)) (by intro X; rintro _ _ ⟨rfl, rfl⟩ _ _ ⟨rfl, rfl⟩; exact op_leq rfl rfl),
                        ⟨.plain rfl (by intro X; rintro _ _ ⟨rfl, rfl⟩ _ _ ⟨rfl, rfl⟩; exact op_pick_t (by first | rfl | (show some (Value.bool (decide _)) = _; rw [decide_eq_true (by omega)]) | (show some (Value.bool (decide _)) = _; rw [decide_eq_false (by omega)]) | (simp [ev, lk]; done) | (simp [ev, lk]; omega) | (simp [ev, lk, *]; done)) rfl),
                        trivial⟩⟩⟩⟩⟩⟩⟩⟩⟩⟩⟩⟩⟩⟩⟩⟩⟩⟩⟩⟩⟩⟩⟩⟩⟩⟩⟩⟩⟩⟩⟩ ?_
                    rintro _ _ ⟨rfl, rfl⟩ _ _ ⟨rfl, rfl⟩ _ _ ⟨rfl, rfl⟩ _ _ ⟨rfl, rfl⟩ _ _ ⟨rfl, rfl⟩ _ _ ⟨rfl, rfl⟩ _ _ ⟨rfl, rfl⟩ _ _ ⟨rfl, rfl⟩ _ _ ⟨rfl, rfl⟩ _ _ ⟨rfl, rfl⟩ _ _ ⟨rfl, rfl⟩ _ _ ⟨rfl, rfl⟩ _ _ ⟨rfl, rfl⟩ _ _ ⟨rfl, rfl⟩ _ _ ⟨rfl, rfl⟩ _ _ ⟨rfl, rfl⟩ _ _ ⟨rfl, rfl⟩ _ _ ⟨rfl, rfl⟩ _ _ ⟨rfl, rfl⟩ _ _ ⟨rfl, rfl⟩ _ _ ⟨rfl, rfl⟩ _ _ ⟨rfl, rfl⟩ _ _ ⟨rfl, rfl⟩ _ _ ⟨rfl, rfl⟩ _ _ ⟨rfl, rfl⟩ _ _ ⟨rfl, rfl⟩ _ _ ⟨rfl, rfl⟩ _ _ ⟨rfl, rfl⟩ _ _ ⟨rfl, rfl⟩ _ _ ⟨rfl, rfl⟩ _ _ ⟨rfl, rfl⟩
                    refine wl_norm (e' := [(2, _), (3, _), (4, _), (6, _), (7, _), (10, _), (11, _), (12, _), (13, _), (14, _), (83, _), (98, _), (113, _)]) (.cons rfl (.cons rfl (.cons rfl (.cons rfl (.cons rfl (.cons rfl (.cons rfl (.cons rfl (.cons rfl (.cons rfl (.cons rfl (.cons rfl (.cons rfl (.nil _)))))))))))))) (by dsimp only [cond_false, cond_true, List.nil_append, List.cons_append]) ?_
                    refine wl_det rfl rfl rfl (op_fnv hg hgb hgn rfl rfl (hp _ _ _)) ?_
                    refine wl_nil ?_
                    refine st_tn ?_
                    exact cut_done (L' := [10, 77, 3, 4, 6, 19, 37]) hK (by 
                                                                        intro q hq; obtain rfl : q = _ := by simpa using hq
                                                                        show some (Value.bool _) = some _; simp [hd, hra, hrb]) (by rfl) rfl rfl
                  · -- hq21 False
                    have hrb : b[k']? = none := by simp; omega
                    refine w_draw (D := (⟨83, [], [], [], _, false, [], []⟩ :: ⟨84, [], [], [], _, false, [], []⟩ :: ⟨85, [], [], [], _, false, [], []⟩ :: ⟨86, [2], [], [], _, false, [], []⟩ :: ⟨87, [3], [], [], _, false, [], []⟩ :: ⟨88, [1, 4], [], [], _, false, [], []⟩ :: ⟨89, [5], [], [], _, false, [], []⟩ :: ⟨90, [], [], [], Det undef, false, [], []⟩ :: ⟨91, [], [], [], Det undef, false, [], []⟩ :: ⟨92, [], [], [], Det undef, false, [], []⟩ :: ⟨93, [], [], [], Det undef, false, [], []⟩ :: ⟨94, [], [], [], Det undef, false, [], []⟩ :: ⟨95, [], [], [], Det undef, false, [], []⟩ :: ⟨96, [], [], [], Det undef, false, [], []⟩ :: ⟨97, [], [], [], Det undef, false, [], []⟩ :: ⟨98, [6, 14], [], [], _, false, [], []⟩ :: ⟨99, [], [], [], _, false, [], []⟩ :: ⟨100, [], [], [], _, false, [], []⟩ :: ⟨101, [17], [], [], _, false, [], []⟩ :: ⟨102, [18], [], [], _, false, [], []⟩ :: ⟨103, [16, 19], [], [], _, false, [], []⟩ :: ⟨104, [20], [], [], _, false, [], []⟩ :: ⟨105, [], [], [], Det undef, false, [], []⟩ :: ⟨106, [], [], [], Det undef, false, [], []⟩ :: ⟨107, [], [], [], Det undef, false, [], []⟩ :: ⟨108, [], [], [], Det undef, false, [], []⟩ :: ⟨109, [], [], [], Det undef, false, [], []⟩ :: ⟨110, [], [], [], Det undef, false, [], []⟩ :: ⟨111, [], [], [], Det undef, false, [], []⟩ :: ⟨112, [], [], [], Det undef, false, [], []⟩ :: ⟨113, [21, 29], [], [], _, false, [], []⟩ :: [])) [] [2, 11, 3, 14, 12, 4] (⟨83, [], [], false, [], []⟩ :: ⟨84, [], [], false, [], []⟩ :: ⟨85, [], [], false, [], []⟩ :: ⟨86, [2], [], false, [], []⟩ :: ⟨87, [3], [], false, [], []⟩ :: ⟨88, [1, 4], [], false, [], []⟩ :: ⟨89, [5], [], false, [], []⟩ :: ⟨90, [], [], false, [], []⟩ :: ⟨91, [], [], false, [], []⟩ :: ⟨92, [], [], false, [], []⟩ :: ⟨93, [], [], false, [], []⟩ :: ⟨94, [], [], false, [], []⟩ :: ⟨95, [], [], false, [], []⟩ :: ⟨96, [], [], false, [], []⟩ :: ⟨97, [], [], false, [], []⟩ :: ⟨98, [6, 14], [], false, [], []⟩ :: ⟨99, [], [], false, [], []⟩ :: ⟨100, [], [], false, [], []⟩ :: ⟨101, [17], [], false, [], []⟩ :: ⟨102, [18], [], false, [], []⟩ :: ⟨103, [16, 19], [], false, [], []⟩ :: ⟨104, [20], [], false, [], []⟩ :: ⟨105, [], [], false, [], []⟩ :: ⟨106, [], [], false, [], []⟩ :: ⟨107, [], [], false, [], []⟩ :: ⟨108, [], [], false, [], []⟩ :: ⟨109, [], [], false, [], []⟩ :: ⟨110, [], [], false, [], []⟩ :: ⟨111, [], [], false, [], []⟩ :: ⟨112, [], [], false, [], []⟩ :: ⟨113, [21, 29], [], false, [], []⟩ :: []) tMixh (by rfl) (by kernel_rfl) (by rfl) (by rfl)
                        ⟨.plain rfl (by intro X; exact op_move rfl),
                        ⟨.plain rfl (by intro X; exact op_move rfl),
                        ⟨.plain rfl (by intro X; exact op_fieldAddr (off := 0) rfl tF26_0h),
                        ⟨.plain rfl (by intro X; rintro _ _ ⟨rfl, rfl⟩; exact op_load1 rfl tO24h (Ent.lab (l := 3) rfl (says_cel 0))),
                        ⟨.plain rfl (by intro X; rintro _ _ ⟨rfl, rfl⟩; exact op_lenT rfl tS24h (Sl.ent (by first | exact Sl.app (by assumption) _ | exact Sl.app (Sl.app (by assumption) _) _))),
                        ⟨.plain rfl (by intro X; rintro _ _ ⟨rfl, rfl⟩ _ _ ⟨rfl, rfl⟩; exact op_lss rfl rfl),
                        ⟨.plain rfl (by intro X; rintro _ _ ⟨rfl, rfl⟩; exact op_move rfl),
                        ⟨.unwanted rfl rfl rfl (by rintro _ _ ⟨rfl, rfl⟩; exact congrArg (offB true) (by first | rfl | (exact congrArg Value.bool (decide_eq_true (by omega))) | (exact congrArg Value.bool (decide_eq_false (by omega))) | (simp; done) | (simp; omega) | (simp [*]; done) : _ = Value.bool false)) ⟨rfl, rfl⟩ rfl rfl,
                        ⟨.unwanted rfl rfl rfl (by rintro _ _ ⟨rfl, rfl⟩; exact congrArg (offB true) (by first | rfl | (exact congrArg Value.bool (decide_eq_true (by omega))) | (exact congrArg Value.bool (decide_eq_false (by omega))) | (simp; done) | (simp; omega) | (simp [*]; done) : _ = Value.bool false)) ⟨rfl, rfl⟩ rfl rfl,
                        ⟨.unwanted rfl rfl rfl (by rintro _ _ ⟨rfl, rfl⟩; exact congrArg (offB true) (by first | rfl | (exact congrArg Value.bool (decide_eq_true (by omega))) | (exact congrArg Value.bool (decide_eq_false (by omega))) | (simp; done) | (simp; omega) | (simp [*]; done) : _ = Value.bool false)) ⟨rfl, rfl⟩ rfl rfl,
                        ⟨.unwanted rfl rfl rfl (by rintro _ _ ⟨rfl, rfl⟩; exact congrArg (offB true) (by first | rfl | (exact congrArg Value.bool (decide_eq_true (by omega))) | (exact congrArg Value.bool (decide_eq_false (by omega))) | (simp; done) | (simp; omega) | (simp [*]; done) : _ = Value.bool false)) ⟨rfl, rfl⟩ rfl rfl,
                        ⟨.unwanted rfl rfl rfl (by rintro _ _ ⟨rfl, rfl⟩; exact congrArg (offB true) (by first | rfl | (exact congrArg Value.bool (decide_eq_true (by omega))) | (exact congrArg Value.bool (decide_eq_false (by omega))) | (simp; done) | (simp; omega) | (simp [*]; done) : _ = Value.bool false)) ⟨rfl, rfl⟩ rfl rfl,
                        ⟨.unwanted rfl rfl rfl (by rintro _ _ ⟨rfl, rfl⟩; exact congrArg (offB true) (by first | rfl | (exact congrArg Value.bool (decide_eq_true (by omega))) | (exact congrArg Value.bool (decide_eq_false (by omega))) | (simp; done) | (simp; omega) | (simp [*]; done) : _ = Value.bool false)) ⟨rfl, rfl⟩ rfl rfl,
                        ⟨.unwanted rfl rfl rfl (by rintro _ _ ⟨rfl, rfl⟩; exact congrArg (offB true) (by first | rfl | (exact congrArg Value.bool (decide_eq_true (by omega))) | (exact congrArg Value.bool (decide_eq_false (by omega))) | (simp; done) | (simp; omega) | (simp [*]; done) : _ = Value.bool false)) ⟨rfl, rfl⟩ rfl rfl,
                        ⟨.unwanted rfl rfl rfl (by rintro _ _ ⟨rfl, rfl⟩; exact congrArg (offB true) (by first | rfl | (exact congrArg Value.bool (decide_eq_true (by omega))) | (exact congrArg Value.bool (decide_eq_false (by omega))) | (simp; done) | (simp; omega) | (simp [*]; done) : _ = Value.bool false)) ⟨rfl, rfl⟩ rfl rfl,
                        ⟨.plain rfl (by intro X; rintro _ _ ⟨rfl, rfl⟩ _ _ ⟨rfl, rfl⟩; exact op_pick_f (by first | rfl | (show some (Value.bool (decide _)) = _; rw [decide_eq_true (by omega)]) | (show some (Value.bool (decide _)) = _; rw [decide_eq_false (by omega)]) | (simp [ev, lk]; done) | (simp [ev, lk]; omega) | (simp [ev, lk, *]; done)) rfl),
                        ⟨.plain rfl (by intro X; exact op_move rfl),
                        ⟨.plain rfl (by intro X; exact op_fieldAddr (off := 0) rfl tF26_0h),
                        ⟨.plain rfl (by intro X; rintro _ _ ⟨rfl, rfl⟩; exact op_load1 rfl tO24h (Ent.lab (l := 4) rfl (says_cel 0))),
                        ⟨.plain rfl (by intro X; rintro _ _ ⟨rfl, rfl⟩; exact op_lenT rfl tS24h (Sl.ent (by first | exact Sl.app (by assumption) _ | exact Sl.app (Sl.app (by assumption) _) _))),
                        ⟨.plain rfl (by intro X; rintro _ _ ⟨rfl, rfl⟩ _ _ ⟨rfl, rfl⟩; exact op_lss rfl rfl),
                        ⟨.plain rfl (by intro X; rintro _ _ ⟨rfl, rfl⟩; exact op_move rfl),
                        ⟨.unwanted rfl rfl rfl (by rintro _ _ ⟨rfl, rfl⟩; exact congrArg (offB true) (by first | rfl | (exact congrArg Value.bool (decide_eq_true (by omega))) | (exact congrArg Value.bool (decide_eq_false (by omega))) | (simp; done) | (simp; omega) | (simp [*]; done) : _ = Value.bool false)) ⟨rfl, rfl⟩ rfl rfl,
                        ⟨.unwanted rfl rfl rfl (by rintro _ _ ⟨rfl, rfl⟩; exact congrArg (offB true) (by first | rfl | (exact congrArg Value.bool (decide_eq_true (by omega))) | (exact congrArg Value.bool (decide_eq_false (by omega))) | (simp; done) | (simp; omega) | (simp [*]; done) : _ = Value.bool false)) ⟨rfl, rfl⟩ rfl rfl,
                        ⟨.unwanted rfl rfl rfl (by rintro _ _ ⟨rfl, rfl⟩; exact congrArg (offB true) (by first | rfl | (exact congrArg Value.bool (decide_eq_true (by omega))) | (exact congrArg Value.bool (decide_eq_false (by omega))) | (simp; done) | (simp; omega) | (simp [*]; done) : _ = Value.bool false)) ⟨rfl, rfl⟩ rfl rfl,
                        ⟨.unwanted rfl rfl rfl (by rintro _ _ ⟨rfl, rfl⟩; exact congrArg (offB true) (by first | rfl | (exact congrArg Value.bool (decide_eq_true (by omega))) | (exact congrArg Value.bool (decide_eq_false (by omega))) | (simp; done) | (simp; omega) | (simp [*]; done) : _ = Value.bool false)) ⟨rfl, rfl⟩ rfl rfl,
                        ⟨.unwanted rfl rfl rfl (by rintro _ _ ⟨rfl, rfl⟩; exact congrArg (offB true) (by first | rfl | (exact congrArg Value.bool (decide_eq_true (by omega))) | (exact congrArg Value.bool (decide_eq_false (by omega))) | (simp; done) | (simp; omega) | (simp [*]; done) : _ = Value.bool false)) ⟨rfl, rfl⟩ rfl rfl,
                        ⟨.unwanted rfl rfl rfl (by rintro _ _ ⟨rfl, rfl⟩; exact congrArg (offB true) (by first | rfl | (exact congrArg Value.bool (decide_eq_true (by omega))) | (exact congrArg Value.bool (decide_eq_false (by omega))) | (simp; done) | (simp; omega) | (simp [*]; done) : _ = Value.bool false)) ⟨rfl, rfl⟩ rfl rfl,
                        ⟨.unwanted rfl rfl rfl (by rintro _ _ ⟨rfl, rfl⟩; exact congrArg (offB true) (by first | rfl | (exact congrArg Value.bool (decide_eq_true (by omega))) | (exact congrArg Value.bool (decide_eq_false (by omega))) | (simp; done) | (simp; omega) | (simp [*]; done) : _ = Value.bool false)) ⟨rfl, rfl⟩ rfl rfl,
                        ⟨.unwanted rfl rfl rfl (by rintro _ _ ⟨rfl, rfl⟩; exact congrArg (offB true) (by first | rfl | (exact congrArg Value.bool (decide_eq_true (by omega))) | (exact congrArg Value.bool (decide_eq_false (by omega))) | (simp; done) | (simp; omega) | (simp [*]; done) : _ = Value.bool false)) ⟨rfl, rfl⟩ rfl rfl,
                        ⟨.plain rfl (by intro X; rintro _ _ ⟨rfl, rfl⟩ _ _ ⟨rfl, rfl⟩; exact op_pick_f (by first | rfl | (show some (Value.bool (decide _)) = _; rw [decide_eq_true (by omega)]) | (show some (Value.bool (decide _)) = _; rw [decide_eq_false (by omega)]) | (simp [ev, lk]; done) | (simp [ev, lk]; omega) | (simp [ev, lk, *]; done)) rfl),
                        trivial⟩⟩⟩⟩⟩⟩⟩⟩⟩⟩⟩⟩⟩⟩⟩⟩⟩⟩⟩⟩⟩⟩⟩⟩⟩⟩⟩⟩⟩⟩⟩ ?_
                    rintro _ _ ⟨rfl, rfl⟩ _ _ ⟨rfl, rfl⟩ _ _ ⟨rfl, rfl⟩ _ _ ⟨rfl, rfl⟩ _ _ ⟨rfl, rfl⟩ _ _ ⟨rfl, rfl⟩ _ _ ⟨rfl, rfl⟩ _ _ ⟨rfl, rfl⟩ _ _ ⟨rfl, rfl⟩ _ _ ⟨rfl, rfl⟩ _ _ ⟨rfl, rfl⟩ _ _ ⟨rfl, rfl⟩ _ _ ⟨rfl, rfl⟩ _ _ ⟨rfl, rfl⟩ _ _ ⟨rfl, rfl⟩ _ _ ⟨rfl, rfl⟩ _ _ ⟨rfl, rfl⟩ _ _ ⟨rfl, rfl⟩ _ _ ⟨rfl, rfl⟩ _ _ ⟨rfl, rfl⟩ _ _ ⟨rfl, rfl⟩ _ _ ⟨rfl, rfl⟩ _ _ ⟨rfl, rfl⟩ _ _ ⟨rfl, rfl⟩ _ _ ⟨rfl, rfl⟩ _ _ ⟨rfl, rfl⟩ _ _ ⟨rfl, rfl⟩ _ _ ⟨rfl, rfl⟩ _ _ ⟨rfl, rfl⟩ _ _ ⟨rfl, rfl⟩ _ _ ⟨rfl, rfl⟩
                    refine wl_norm (e' := [(2, _), (3, _), (4, _), (6, _), (7, _), (10, _), (11, _), (12, _), (13, _), (14, _), (83, _), (98, _), (113, _)]) (.cons rfl (.cons rfl (.cons rfl (.cons rfl (.cons rfl (.cons rfl (.cons rfl (.cons rfl (.cons rfl (.cons rfl (.cons rfl (.cons rfl (.cons rfl (.nil _)))))))))))))) (by dsimp only [cond_false, cond_true, List.nil_append, List.cons_append]) ?_
                    refine wl_det rfl rfl rfl (op_fnv hg hgb hgn rfl rfl (hp _ _ _)) ?_
                    refine wl_nil ?_
                    refine st_tn ?_
                    exact cut_done (L' := [10, 77, 3, 4, 6, 19, 37]) hK (by 
                                                                                                intro q hq; obtain rfl : q = _ := by simpa using hq
                                                                                                show some (Value.bool _) = some _; simp [hd, hra, hrb]) (by rfl) rfl rfl
              · -- behind r19
                show W _ _ _ _ _ [(114, _), (2, _), (3, _), (4, _), (6, _), (7, _), (10, _), (11, _), (12, _), (13, _), (14, _)] [(10, _), (77, _), (3, _), (4, _), (6, _), (19, _), (37, _)] _
                refine w_cond rfl (fun hc114 => ?_) (fun hc114 => ?_)
                · -- c114.t
                  have hy' : cs[((j : Int) + 1).toNat]? = some y := by rw [show ((j : Int) + 1).toNat = j + 1 by omega]; exact hy
                  have hino : inB 0 1048575 out := comb_in hk hia hib hC.wf (fun n hn => ((hC.mem n).1 hn).2)
                  refine w_region ?_
                  refine wl_det rfl rfl rfl (op_move rfl) ?_
                  refine wl_det rfl rfl rfl (op_move rfl) ?_
                  refine wl_det rfl rfl rfl (op_move rfl) ?_
                  refine wl_det rfl rfl rfl (op_add' rfl rfl (by omega)) ?_
                  refine wl_det rfl rfl rfl (op_idxZ rfl rfl tS22h (Sl.ent (Sl.lab 37 rfl (by unfold maxLen; omega))) (by omega) (by omega)) ?_
                  refine wl_det rfl rfl rfl (op_ldx rfl tO3h (Sl.lab 37 rfl (by unfold maxLen; omega)) (by assumption) (by rfl)) ?_
                  refine wl_det rfl rfl rfl (op_sub' rfl rfl (by omega)) ?_
                  refine wl_det rfl rfl rfl (op_build tB58h rfl rfl) ?_
                  refine wl_op [10, 77] rfl rfl rfl rfl (op_fn Try.func52 rfl rfl rfl (push_any 10 77 (x, y - 1) (by omega) (fun r hr => by have := hino r hr; omega))) ?_
                  rintro _ _ ⟨a8, c8, rfl, rfl⟩
                  refine wl_nil ?_
                  refine st_bn ?_
                  refine st_tn ?_
                  refine w_region ?_
                  refine wl_det rfl rfl rfl (op_move rfl) ?_
                  refine wl_det rfl rfl rfl (op_add' rfl rfl (by omega)) ?_
                  refine wl_det rfl rfl rfl (op_assign rfl) ?_
                  refine wl_nil ?_
                  refine st_roundK (x := (j, i, k, out, a10, c10)) ((j + 1, i', k', push out (x, y - 1), a8, c8)) [10, 77, 3, 4, 6, 19, 37] (⟨hi', hk', by have := length_push_le out (x, y - 1); show (push out (x, y - 1)).length ≤ j + 1; omega, by show j + 1 ≤ cs.length; omega, .inr ⟨y, hy, by rw [if_pos (by rw [← hda, ← hdb]; exact hc114)] at hstep; exact hstep, fun r hr => by have := hia' r hr; omega, fun r hr => by have := hib' r hr; omega⟩⟩) (by show cs.length - (j + 1) < cs.length - j; omega) (.cons rfl (.cons rfl (.cons rfl (.nil _)))) (.cons rfl (.cons rfl (.cons rfl (.cons rfl (.cons rfl (.cons rfl (.nil _))))))) rfl (rfl) 
                · -- c114.f
                  refine w_skip ?_
                  refine st_bn ?_
                  refine st_tn ?_
                  refine w_region ?_
                  refine wl_det rfl rfl rfl (op_move rfl) ?_
                  refine wl_det rfl rfl rfl (op_add' rfl rfl (by omega)) ?_
                  refine wl_det rfl rfl rfl (op_assign rfl) ?_
                  refine wl_nil ?_
                  refine st_roundK (x := (j, i, k, out, a10, c10)) ((j + 1, i', k', out, a10, c10)) [10, 77, 3, 4, 6, 19, 37] (⟨hi', hk', by show out.length ≤ j + 1; omega, by show j + 1 ≤ cs.length; omega, .inr ⟨y, hy, by rw [if_neg (by rw [← hda, ← hdb, hc114]; simp)] at hstep; exact hstep, fun r hr => by have := hia' r hr; omega, fun r hr => by have := hib' r hr; omega⟩⟩) (by show cs.length - (j + 1) < cs.length - j; omega) (.cons rfl (.cons rfl (.cons rfl (.nil _)))) (.cons rfl (.cons rfl (.cons rfl (.cons rfl (.cons rfl (.cons rfl (.nil _))))))) rfl (rfl) 
    · -- c42.f
      refine w_exit ?_
      refine st_te ?_
      refine st_te ?_
      refine st_be ?_
      refine st_tn ?_
      refine w_seq ?_
      refine w_region ?_
      refine wl_det rfl rfl rfl (op_loadA rfl tA26h (Ent.lab (l := 10) rfl (says_cel 0)) (Nat.le_of_ble_eq_true rfl)) ?_
      refine wl_op0 [6] rfl rfl rfl (op_store rfl rfl tZ26h (by rfl) (by rfl) (by exact Nat.le_of_ble_eq_true rfl)) ?_
      rintro _ _ ⟨rfl, rfl⟩
      refine wl_nil ?_
      refine st_tn ?_
      refine w_ret ?_
      refine st_ret (vs := [_]) [77] Try.results57 ⟨⟨_, rfl, Ent.mono (Ent.lab (l := 6) rfl (says_cel 0)) (fun _ h => run_load_agg tA26h h (Nat.le_of_ble_eq_true rfl))⟩, trivial⟩ rfl ?_
      refine ⟨[(lab, _)], rfl, ?_⟩
      have hmem : ∀ n, mem out n ↔ keep (memB a n) (memB b n) = true := by
        rcases hinv with ⟨h1, h2⟩ | ⟨x, hx, hC, _, _⟩
        · rw [h2]; refine fun n => comb_nil hk ?_ n
          apply List.eq_nil_iff_forall_not_mem.2; intro z hz; have := (hsm' z).2 hz; rw [h1] at this; simp at this
        · exact fun n => comb_end hk hC hss (fun c hc => (hsm' c).2 hc) hx (by omega) n
      have hwf : WF out := by
        rcases hinv with ⟨h1, h2⟩ | ⟨x, hx, hC, _, _⟩
        · rw [h2]; exact WF.nil
        · exact hC.wf
      exact ⟨out, _, _, hwf, comb_in hk hia hib hwf (fun n hn => (hmem n).1 hn), hmem, rfl, rfl⟩

end Go.Proofs.Ytkknlfhncheflaa
