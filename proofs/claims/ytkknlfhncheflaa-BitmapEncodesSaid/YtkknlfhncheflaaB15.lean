/- Contracts of bitmap.Encode and of the law's helpers runs and is (layer 5). Conditions: none. -/
import Derived.Test.YtkknlfhncheflaaB14
namespace Go.Proofs.Ytkknlfhncheflaa
open Go Go.SL Go.RowKit Go.BitM
set_option linter.unusedVariables false
set_option linter.unusedSimpArgs false
theorem tA26o : aggB Try.prog 26 1 = true := by kernel_rfl
theorem tA58o : aggB Try.prog 58 2 = true := by kernel_rfl
theorem tB58o : placesB Try.prog 58 = some ([(0, 1), (1, 1)], [Value.int .i64 0, Value.int .i64 0]) := by kernel_rfl
theorem tF26_0o : fieldB Try.prog 26 0 0 = true := by kernel_rfl
theorem tF58_0o : fieldB Try.prog 58 0 0 = true := by kernel_rfl
theorem tF58_1o : fieldB Try.prog 58 1 1 = true := by kernel_rfl
theorem tF97_0o : fieldB Try.prog 97 0 0 = true := by kernel_rfl
theorem tG58o : Try.prog.eqGuardType Try.prog.depth 58 = false := by kernel_rfl
theorem tMixo : Try.prog.follows .mixedOrders = true := by kernel_rfl
theorem tN58o : (Try.prog.info? 58).bind (·.zero) = some (Value.agg #[Value.int .i64 0, Value.int .i64 0]) := by kernel_rfl
theorem tN97o : (Try.prog.info? 97).bind (·.zero) = some (Value.agg #[Value.slice none 0 0]) := by kernel_rfl
theorem tO24o : oneB Try.prog 24 = true := by kernel_rfl
theorem tO3o : oneB Try.prog 3 = true := by kernel_rfl
theorem tO95o : oneB Try.prog 95 = true := by kernel_rfl
theorem tR37o : arrB Try.prog 37 2 1 = true := by kernel_rfl
theorem tS24o : sliceB Try.prog 24 58 2 = true := by kernel_rfl
theorem tS38o : sliceB Try.prog 38 37 2 = true := by kernel_rfl
theorem tZ58o : (Try.prog.info? 58).map (·.size) = some 2 := by kernel_rfl

theorem wnum {σ : World} {F : List Res} {b : Nat} {a : Option Addr} {c : Nat} {l : List UInt8} (l1 l2 : Nat) (x : Int) (hx : 0 ≤ x ∧ x ≤ 9223372036854775807) (hl : l.length ≤ 1099511627776) :
    FnT Try.prog σ F 70 [.pointer (some ⟨b, 0, none⟩), .int .i64 x] [(l1, cel b [.slice a l.length c] 97), (l2, slW 5 encU 1 (.slice a l.length c) l)]
      (fun u ρ => ∃ a' c', u = .tuple #[] ∧ ρ = [(l1, cel b [.slice a' (l ++ encN x).length c'] 97), (l2, slW 5 encU 1 (.slice a' (l ++ encN x).length c') (l ++ encN x))]) :=
  fn_lab (wnum_any x hx hl) rfl fun u ρ ⟨a', c', h1, h2⟩ => ⟨_, ⟨a', c', h1, rfl⟩, by rw [h2]; rfl⟩
set_option maxHeartbeats 400000 in
set_option maxRecDepth 100000 in
theorem wbytes {σ : World} {F : List Res} {b : Nat} {a : Option Addr} {c : Nat} {l : List UInt8} (hb : Ent σ F (At ⟨b, 0, none⟩ [.slice a l.length c])) (h : Sl σ F encU 1 (.slice a l.length c) l) :
    FnT Try.prog σ F 71 [.pointer (some ⟨b, 0, none⟩)] [] (fun u ρ => u = .string (str l) ∧ ρ = []) := by
  refine fn_of 10 Try.func71 rfl Try.ntmps71 rfl ?_
  refine w_seq ?_
  refine w_region ?_
  refine wl_det rfl rfl rfl (op_assign rfl) ?_
  refine wl_nil ?_
  refine st_tn ?_
  refine w_seq ?_
  refine w_seq ?_
  refine w_region ?_
  refine wl_det rfl rfl rfl (op_move rfl) ?_
  refine wl_det rfl rfl rfl (op_eqPtr rfl Try.underlying115) ?_
  refine wl_nil ?_
  refine st_tn ?_
  refine w_cond_f (rfl) ?_
  refine w_skip ?_
  refine st_tn ?_
  refine w_seq ?_
  refine w_region ?_
  refine wl_det rfl rfl rfl (op_move rfl) ?_
  refine wl_det rfl rfl rfl (op_nilCheck rfl) ?_
  refine wl_det rfl rfl rfl (op_fieldAddr (off := 0) rfl tF97_0o) ?_
  refine wl_det rfl rfl rfl (op_load1 rfl tO95o (Ent.app hb _)) ?_
  refine wl_det rfl rfl rfl (op_bytesStr rfl Try.underlying95 Try.underlying5 Try.underlying9 (by first | exact Sl.app (by assumption) _ | exact Sl.app (Sl.app (by assumption) _) _)) ?_
  refine wl_det rfl rfl rfl (op_assign rfl) ?_
  refine wl_nil ?_
  refine st_tn ?_
  refine w_ret ?_
  refine st_ret (vs := [_]) [] Try.results71 ⟨rfl, trivial⟩ rfl ?_
  refine ⟨_, rfl, ?_⟩
  exact ⟨rfl, rfl⟩

def endOf (p : Int) (l : List Run) : Int := l.foldl (fun _ r => r.2 + 1) p
theorem endOf_snoc (p : Int) (l : List Run) (r : Run) : endOf p (l ++ [r]) = r.2 + 1 := by simp [endOf]
/-- The forms of the runs behind the row p. -/
def encR : Int → List Run → List UInt8
  | _, [] => []
  | p, r :: l => encN (r.1 - p) ++ encN (r.2 - r.1 + 1) ++ encR (r.2 + 1) l
theorem encR_snoc : ∀ (l : List Run) (p : Int) (r : Run), encR p (l ++ [r]) = encR p l ++ encN (r.1 - endOf p l) ++ encN (r.2 - r.1 + 1)
  | [], p, r => by simp [encR, endOf]
  | q :: l, p, r => by
    rw [List.cons_append, encR, encR_snoc l, encR]
    simp [endOf]
/-- The form of a set. -/
def encBm (l : List Run) : List UInt8 := encN l.length ++ encR 0 l
theorem encN_le (x : Int) (h : 0 ≤ x ∧ x ≤ 9223372036854775807) : (encN x).length ≤ 9 := by
  rw [length_encN]; have := nb_le 8 x.toNat (by omega); omega
theorem endOf_bd {l : List Run} (h : inB 0 1048575 l) : 0 ≤ endOf 0 l ∧ endOf 0 l ≤ 1048576 := by
  rcases List.eq_nil_or_concat l with rfl | ⟨l', r, rfl⟩
  · simp [endOf]
  · rw [List.concat_eq_append] at *
    rw [endOf_snoc]
    have := h r (by simp)
    omega
theorem endOf_lt {l : List Run} {r : Run} (h : WF (l ++ [r])) (hb : inB 0 1048575 (l ++ [r])) : endOf 0 l ≤ r.1 := by
  rcases List.eq_nil_or_concat l with rfl | ⟨l', q, rfl⟩
  · have := hb r (by simp); simp [endOf]; omega
  · rw [List.concat_eq_append] at *
    rw [endOf_snoc]
    have := (WF.snoc_iff.1 h).2.2 q (by simp)
    omega
theorem encR_le : ∀ {l : List Run} {p : Int}, 0 ≤ p → (∀ r ∈ l, r.1 ≤ r.2 ∧ 0 ≤ r.1 ∧ r.2 ≤ 1048575) → (∀ r ∈ l, p ≤ r.1) → l.Pairwise (fun p q => p.2 + 1 < q.1) → (encR p l).length ≤ 18 * l.length
  | [], _, _, _, _, _ => by simp [encR]
  | r :: l, p, h0, h1, h2, h3 => by
    have hr := h1 r (by simp)
    have hp := h2 r (by simp)
    have h3' := List.pairwise_cons.1 h3
    have := encR_le (l := l) (p := r.2 + 1) (by omega) (fun q hq => h1 q (by simp [hq])) (fun q hq => by have := h3'.1 q hq; omega) h3'.2
    have a1 := encN_le (r.1 - p) (by omega)
    have a2 := encN_le (r.2 - r.1 + 1) (by omega)
    rw [encR]
    simp only [List.length_append, List.length_cons]
    omega
theorem encR_le' {l : List Run} (hw : WF l) (hb : inB 0 1048575 l) : (encR 0 l).length ≤ 18 * l.length := encR_le (by omega) (fun r hr => by have := hb r hr; omega) (fun r hr => (hb r hr).1) hw.2
theorem WF.take {l : List Run} (h : WF l) (i : Nat) : WF (l.take i) := ⟨fun r hr => h.1 r (List.mem_of_mem_take hr), h.2.sublist (List.take_sublist _ _)⟩
theorem inB.take {l : List Run} (h : inB 0 1048575 l) (i : Nat) : inB 0 1048575 (l.take i) := fun r hr => h r (List.mem_of_mem_take hr)
set_option maxHeartbeats 1000000 in
set_option maxRecDepth 100000 in
theorem encode_any {σ : World} {F : List Res} {a : Option Addr} {c : Nat} {rl : List Run} (h : Sl σ F encRun 2 (.slice a rl.length c) rl) (hw : WF rl) (hi : inB 0 1048575 rl) :
    FnT Try.prog σ F 46 [bm a rl.length c] [] (fun u ρ => u = .string (str (encBm rl)) ∧ ρ = []) := by
  refine fn_of 35 Try.func46 rfl Try.ntmps46 rfl ?_
  have hlen := (wf_len hw hi).2
  have hN := encN_le (rl.length : Int) (by omega)
  refine w_seq ?_
  refine w_region ?_
  refine wl_op [] rfl rfl rfl rfl (op_box (T := 26) (l := 1) rfl) ?_
  rintro _ _ ⟨b1, rfl, rfl⟩
  refine wl_det rfl rfl rfl (op_assign rfl) ?_
  refine wl_nil ?_
  refine st_tn ?_
  refine w_seq ?_
  refine w_region ?_
  refine wl_op [] rfl rfl rfl rfl (op_alloc (l := 3) tN97o) ?_
  rintro _ _ ⟨b3, rfl, rfl⟩
  refine wl_nil ?_
  refine st_tn ?_
  refine w_seq ?_
  refine w_emp 101 (slO_nil 5 1) ?_
  refine w_region ?_
  refine wl_det rfl rfl rfl (op_fieldAddr (off := 0) rfl tF26_0o) ?_
  refine wl_det rfl rfl rfl (op_load1 rfl tO24o (Ent.lab (l := 1) rfl (says_cel 0))) ?_
  refine wl_det rfl rfl rfl (op_lenT rfl tS24o (Sl.ent (by first | exact Sl.app (by assumption) _ | exact Sl.app (Sl.app (by assumption) _) _))) ?_
  refine wl_op [3, 101] rfl rfl rfl rfl (op_fn Try.func70 rfl rfl rfl (wnum (l := []) 3 101 rl.length (by omega) (by simp))) ?_
  rintro _ _ ⟨a10, c10, rfl, rfl⟩
  refine wl_nil ?_
  refine st_tn ?_
  refine w_seq ?_
  refine w_region ?_
  refine wl_det rfl rfl rfl (op_assign rfl) ?_
  refine wl_nil ?_
  refine st_tn ?_
  refine w_seq ?_
  refine w_seq ?_
  refine w_region ?_
  refine wl_det rfl rfl rfl (op_fieldAddr (off := 0) rfl tF26_0o) ?_
  refine wl_det rfl rfl rfl (op_load1 rfl tO24o (Ent.lab (l := 1) rfl (says_cel 0))) ?_
  refine wl_det rfl rfl rfl (op_lenT rfl tS24o (Sl.ent (by first | exact Sl.app (by assumption) _ | exact Sl.app (Sl.app (by assumption) _) _))) ?_
  refine wl_det rfl rfl rfl (op_move rfl) ?_
  refine wl_nil ?_
  refine st_tn ?_
  refine w_block ?_
  refine w_loopK (X := Nat × Option Addr × Nat) (fun z => z.1 ≤ rl.length) (fun z => [(4, .int .i64 (endOf 0 (rl.take z.1))), (14, .int .i64 z.1)]) (fun z => [(3, cel b3 [.slice z.2.1 (encN rl.length ++ encR 0 (rl.take z.1)).length z.2.2] 97), (101, slW 5 encU 1 (.slice z.2.1 (encN rl.length ++ encR 0 (rl.take z.1)).length z.2.2) (encN rl.length ++ encR 0 (rl.take z.1)))]) (fun z => rl.length - z.1) ((0, a10, c10)) [(3, _), (12, _), (13, _)] [(1, _)] (Nat.zero_le _) (.cons rfl (.cons rfl (.nil _))) (.cons rfl (.cons rfl (.cons rfl (.nil _)))) [3, 101, 1] rfl (by simp only [List.take_zero, encR, List.append_nil]; rfl) ?_
  rintro ⟨i, a3, c3⟩ hi'
  refine w_norm2 (by dsimp only [List.cons_append, List.nil_append]) (by dsimp only [List.cons_append, List.nil_append]) ?_
  dsimp only at hi'
  refine w_seq ?_
  refine w_region ?_
  refine wl_det rfl rfl rfl (op_lss rfl rfl) ?_
  refine wl_nil ?_
  refine st_tn ?_
  refine w_seq ?_
  refine w_cond_d rfl (fun hc15 => ?_) (fun hc15 => ?_)
  · -- c15.t
    obtain ⟨r, hr⟩ := getE (l := rl) (i := i) (by omega)
    have hlt := ltE hr
    have hbr := hi r (List.mem_of_getElem? hr)
    have hsn := take_snoc hr
    have henc : encR 0 (rl.take (i + 1)) = encR 0 (rl.take i) ++ encN (r.1 - endOf 0 (rl.take i)) ++ encN (r.2 - r.1 + 1) := by rw [hsn, encR_snoc]
    have hend : endOf 0 (rl.take (i + 1)) = r.2 + 1 := by rw [hsn, endOf_snoc]
    have hwt := WF.take hw (i + 1)
    have hbt := inB.take hi (i + 1)
    have hlo := endOf_bd (inB.take hi i)
    have hlo2 := endOf_lt (l := rl.take i) (r := r) (by rw [← hsn]; exact hwt) (by rw [← hsn]; exact hbt)
    have hsz := encR_le' (WF.take hw i) (inB.take hi i)
    rw [List.length_take] at hsz
    have hN1 := encN_le (r.1 - endOf 0 (rl.take i)) (by omega)
    refine w_skip ?_
    refine st_tn ?_
    refine w_seq ?_
    refine w_block ?_
    refine w_seq ?_
    refine w_region ?_
    refine wl_det rfl rfl rfl (op_idx rfl rfl tS24o (Sl.ent (by first | exact Sl.app (by assumption) _ | exact Sl.app (Sl.app (by assumption) _) _)) (by omega)) ?_
    refine wl_det rfl rfl rfl (op_ldxA rfl tA58o (by first | exact Sl.app (by assumption) _ | exact Sl.app (Sl.app (by assumption) _) _) (by assumption) (by rfl) (by rfl)) ?_
    refine wl_op [] rfl rfl rfl rfl (op_alloc (l := 6) tN58o) ?_
    rintro _ _ ⟨b6, rfl, rfl⟩
    refine wl_op0 [6] rfl rfl rfl (op_store rfl rfl tZ58o (by rfl) (by rfl) (by exact Nat.le_of_ble_eq_true rfl)) ?_
    rintro _ _ ⟨rfl, rfl⟩
    refine wl_nil ?_
    refine st_tn ?_
    refine w_seq ?_
    refine w_region ?_
    refine wl_det rfl rfl rfl (op_fieldAddr (off := 0) rfl tF58_0o) ?_
    refine wl_det rfl rfl rfl (op_load1 rfl tO3o (Ent.lab (l := 6) rfl (says_cel 0))) ?_
    refine wl_det rfl rfl rfl (op_move rfl) ?_
    refine wl_det rfl rfl rfl (op_sub' rfl rfl (by omega)) ?_
    refine wl_op [3, 101] rfl rfl rfl rfl (op_fn Try.func70 rfl rfl rfl (wnum 3 101 (r.1 - endOf 0 (rl.take i)) (by omega) (by rw [List.length_append]; omega))) ?_
    rintro _ _ ⟨a22, c22, rfl, rfl⟩
    refine wl_nil ?_
    refine st_tn ?_
    refine w_seq ?_
    refine w_region ?_
    refine wl_det rfl rfl rfl (op_fieldAddr (off := 1) rfl tF58_1o) ?_
    refine wl_det rfl rfl rfl (op_load1 rfl tO3o (Ent.lab (l := 6) rfl (says_cel 1))) ?_
    refine wl_det rfl rfl rfl (op_fieldAddr (off := 0) rfl tF58_0o) ?_
    refine wl_det rfl rfl rfl (op_load1 rfl tO3o (Ent.lab (l := 6) rfl (says_cel 0))) ?_
    refine wl_det rfl rfl rfl (op_sub' rfl rfl (by omega)) ?_
    refine wl_det rfl rfl rfl (op_add' rfl rfl (by omega)) ?_
    refine wl_op [3, 101] rfl rfl rfl rfl (op_fn Try.func70 rfl rfl rfl (wnum 3 101 (r.2 - r.1 + 1) (by omega) (by rw [List.length_append, List.length_append]; omega))) ?_
    rintro _ _ ⟨a29, c29, rfl, rfl⟩
    refine wl_nil ?_
    refine st_tn ?_
    refine w_region ?_
    refine wl_det rfl rfl rfl (op_fieldAddr (off := 1) rfl tF58_1o) ?_
    refine wl_det rfl rfl rfl (op_load1 rfl tO3o (Ent.lab (l := 6) rfl (says_cel 1))) ?_
    refine wl_det rfl rfl rfl (op_add' rfl rfl (by omega)) ?_
    refine wl_det rfl rfl rfl (op_assign rfl) ?_
    refine wl_nil ?_
    refine st_bn ?_
    refine st_tn ?_
    refine w_region ?_
    refine wl_det rfl rfl rfl (op_add' rfl rfl (by omega)) ?_
    refine wl_det rfl rfl rfl (op_move rfl) ?_
    refine wl_nil ?_
    refine st_roundK (x := (i, a3, c3)) ((i + 1, a29, c29)) [3, 101, 1] (by show i + 1 ≤ rl.length; omega) (by show rl.length - (i + 1) < rl.length - i; omega) (.cons (by rw [hend]; rfl) (.cons rfl (.nil _))) (.cons rfl (.cons rfl (.cons rfl (.nil _)))) rfl (by rw [henc, ← List.append_assoc, ← List.append_assoc]; rfl) 
  · -- c15.f
    refine w_exit ?_
    refine st_te ?_
    refine st_te ?_
    refine st_be ?_
    refine st_tn ?_
    refine w_seq ?_
    rw [take_all (by omega)]
    have hsz := encR_le' hw hi
    refine w_region ?_
    refine wl_det rfl rfl rfl (op_fn Try.func71 rfl rfl rfl (wbytes (Ent.lab (l := 3) rfl (says_cel 0)) (Sl.lab 101 rfl (by rw [List.length_append]; unfold maxLen; omega)))) ?_
    refine wl_det rfl rfl rfl (op_assign rfl) ?_
    refine wl_nil ?_
    refine st_tn ?_
    refine w_ret ?_
    refine st_ret (vs := [_]) [] Try.results46 ⟨rfl, trivial⟩ rfl ?_
    refine ⟨_, rfl, ?_⟩
    exact ⟨rfl, rfl⟩

set_option maxHeartbeats 1000000 in
set_option maxRecDepth 100000 in
theorem runs_eq {σ : World} {F : List Res} {p q : Option Addr} {c d : Nat} {l m : List Run} (h : Sl σ F encRun 2 (.slice p l.length c) l) (g : Sl σ F encRun 2 (.slice q m.length d) m) (hl : l.length ≤ 1099511627776) :
    FnT Try.prog σ F 21 [bm p l.length c, .slice q m.length d] [] (fun u ρ => u = .bool (decide (l = m)) ∧ ρ = []) := by
  refine fn_of 36 Try.func21 rfl Try.ntmps21 rfl ?_
  have hle := h.i64
  have gle := g.i64
  refine w_seq ?_
  refine w_region ?_
  refine wl_op [] rfl rfl rfl rfl (op_box (T := 26) (l := 2) rfl) ?_
  rintro _ _ ⟨b2, rfl, rfl⟩
  refine wl_det rfl rfl rfl (op_assign rfl) ?_
  refine wl_nil ?_
  refine st_tn ?_
  refine w_seq ?_
  refine w_region ?_
  refine wl_det rfl rfl rfl (op_loadA rfl tA26o (Ent.lab (l := 2) rfl (says_cel 0)) (Nat.le_of_ble_eq_true rfl)) ?_
  refine wl_op [] rfl rfl rfl rfl (op_fn Try.func37 rfl rfl rfl (runs_any 8 (Sl.app h _) hl)) ?_
  rintro _ _ ⟨a8, c8, rfl, rfl⟩
  refine wl_det rfl rfl rfl (op_assign rfl) ?_
  refine wl_nil ?_
  refine st_tn ?_
  refine w_seq ?_
  refine w_seq ?_
  refine w_region ?_
  refine wl_det rfl rfl rfl (op_move rfl) ?_
  refine wl_det rfl rfl rfl (op_lenT rfl tS24o (Sl.ent (Sl.lab 8 rfl (by unfold maxLen; omega)))) ?_
  refine wl_det rfl rfl rfl (op_move rfl) ?_
  refine wl_det rfl rfl rfl (op_lenT rfl tS38o (Sl.ent (by first | exact Sl.app (by assumption) _ | exact Sl.app (Sl.app (by assumption) _) _))) ?_
  refine wl_det rfl rfl rfl (op_neq rfl rfl) ?_
  refine wl_nil ?_
  refine st_tn ?_
  refine w_cond_d rfl (fun hc13 => ?_) (fun hc13 => ?_)
  · -- c13.t
    refine w_seq ?_
    refine w_region ?_
    refine wl_det rfl rfl rfl (op_assign rfl) ?_
    refine wl_nil ?_
    refine st_tn ?_
    refine w_ret ?_
    refine st_tr ?_
    refine st_ret (vs := [_]) [] Try.results21 ⟨rfl, trivial⟩ rfl ?_
    refine ⟨_, rfl, ?_⟩
    refine ⟨?_, rfl⟩; have : l ≠ m := fun e => by subst e; exact hc13 rfl
    simp [retv, this]
  · -- c13.f
    refine w_skip ?_
    refine st_tn ?_
    refine w_seq ?_
    refine w_seq ?_
    refine w_region ?_
    refine wl_det rfl rfl rfl (op_assign rfl) ?_
    refine wl_nil ?_
    refine st_tn ?_
    refine w_block ?_
    refine w_loopK (X := Nat) (fun i => i ≤ l.length ∧ l.take i = m.take i) (fun i => [(6, .int .i64 i)]) (fun _ => []) (fun i => l.length - i) (0) [(1, _), (5, _)] [(2, _), (8, _)] (⟨Nat.zero_le _, by simp⟩) (.cons rfl (.nil _)) (.cons rfl (.cons rfl (.nil _))) [2, 8] rfl (rfl) ?_
    rintro i ⟨hi, hn⟩
    refine w_norm2 (by dsimp only [List.cons_append, List.nil_append]) (by dsimp only [List.cons_append, List.nil_append]) ?_
    refine w_seq ?_
    refine w_seq ?_
    refine w_region ?_
    refine wl_det rfl rfl rfl (op_move rfl) ?_
    refine wl_det rfl rfl rfl (op_move rfl) ?_
    refine wl_det rfl rfl rfl (op_lenT rfl tS24o (Sl.ent (Sl.lab 8 rfl (by unfold maxLen; omega)))) ?_
    refine wl_det rfl rfl rfl (op_lss rfl rfl) ?_
    refine wl_nil ?_
    refine st_tn ?_
    refine w_cond_d rfl (fun hc17 => ?_) (fun hc17 => ?_)
    · -- c17.t
      obtain ⟨y, hy⟩ := getE (l := l) (i := i) (by omega)
      obtain ⟨z, hz⟩ := getE (l := m) (i := i) (by omega)
      have hlt := ltE hy
      refine w_skip ?_
      refine st_tn ?_
      refine w_seq ?_
      refine w_block ?_
      refine w_seq ?_
      refine w_draw (D := [⟨20, [], [], [], _, false, [], []⟩, ⟨21, [], [], [], _, false, [], []⟩, ⟨22, [0, 1], [], [], _, false, [], []⟩, ⟨23, [2], [], [], _, false, [], []⟩, ⟨24, [], [], [], _, false, [], []⟩, ⟨25, [], [], [], _, false, [], []⟩, ⟨26, [4, 5], [], [], _, false, [], []⟩, ⟨27, [6], [], [], _, false, [], []⟩, ⟨28, [7], [], [], _, false, [], []⟩, ⟨29, [], [], [], _, false, [], []⟩, ⟨30, [], [], [], _, false, [], []⟩, ⟨31, [9, 10], [], [], _, false, [], []⟩, ⟨32, [11], [], [], _, false, [], []⟩, ⟨33, [12], [], [], _, false, [], []⟩, ⟨34, [8, 13], [], [], _, false, [], []⟩]) [] [5, 6, 1] [⟨20, [], [], false, [], []⟩, ⟨21, [], [], false, [], []⟩, ⟨22, [0, 1], [], false, [], []⟩, ⟨23, [2], [], false, [], []⟩, ⟨24, [], [], false, [], []⟩, ⟨25, [], [], false, [], []⟩, ⟨26, [4, 5], [], false, [], []⟩, ⟨27, [6], [], false, [], []⟩, ⟨28, [7], [], false, [], []⟩, ⟨29, [], [], false, [], []⟩, ⟨30, [], [], false, [], []⟩, ⟨31, [9, 10], [], false, [], []⟩, ⟨32, [11], [], false, [], []⟩, ⟨33, [12], [], false, [], []⟩, ⟨34, [8, 13], [], false, [], []⟩] tMixo (by rfl) (by kernel_rfl) (by rfl) (by rfl)
          ⟨.plain rfl (by intro X; exact op_move rfl),
          ⟨.plain rfl (by intro X; exact op_move rfl),
          ⟨.plain rfl (by intro X; rintro _ _ ⟨rfl, rfl⟩ _ _ ⟨rfl, rfl⟩; exact op_idx rfl rfl tS24o (Sl.ent (Sl.lab 8 rfl (by unfold maxLen; omega))) (by omega)),
          ⟨.plain rfl (by intro X; rintro _ _ ⟨rfl, rfl⟩; exact op_ldxA rfl tA58o (Sl.lab 8 rfl (by unfold maxLen; omega)) (by assumption) (by rfl) (by rfl)),
          ⟨.plain rfl (by intro X; exact op_move rfl),
          ⟨.plain rfl (by intro X; exact op_move rfl),
          ⟨.plain rfl (by intro X; rintro _ _ ⟨rfl, rfl⟩ _ _ ⟨rfl, rfl⟩; exact op_idx rfl rfl tS38o (Sl.ent (by first | exact Sl.app (by assumption) _ | exact Sl.app (Sl.app (by assumption) _) _)) (by omega)),
          ⟨.plain rfl (by intro X; rintro _ _ ⟨rfl, rfl⟩; exact op_idxArr (i := 0) rfl rfl tR37o (Nat.le_of_ble_eq_true rfl)),
          ⟨.plain rfl (by intro X; rintro _ _ ⟨rfl, rfl⟩; exact op_ldxf rfl tO3o (by first | exact Sl.app (by assumption) _ | exact Sl.app (Sl.app (by assumption) _) _) (by assumption) (by rfl)),
          ⟨.plain rfl (by intro X; exact op_move rfl),
          ⟨.plain rfl (by intro X; exact op_move rfl),
          ⟨.plain rfl (by intro X; rintro _ _ ⟨rfl, rfl⟩ _ _ ⟨rfl, rfl⟩; exact op_idx rfl rfl tS38o (Sl.ent (by first | exact Sl.app (by assumption) _ | exact Sl.app (Sl.app (by assumption) _) _)) (by omega)),
          ⟨.plain rfl (by intro X; rintro _ _ ⟨rfl, rfl⟩; exact op_idxArr (i := 1) rfl rfl tR37o (Nat.le_of_ble_eq_true rfl)),
          ⟨.plain rfl (by intro X; rintro _ _ ⟨rfl, rfl⟩; exact op_ldxf rfl tO3o (by first | exact Sl.app (by assumption) _ | exact Sl.app (Sl.app (by assumption) _) _) (by assumption) (by rfl)),
          ⟨.plain rfl (by intro X; rintro _ _ ⟨rfl, rfl⟩ _ _ ⟨rfl, rfl⟩; exact op_build tB58o rfl rfl),
          trivial⟩⟩⟩⟩⟩⟩⟩⟩⟩⟩⟩⟩⟩⟩⟩ ?_
      rintro _ _ ⟨rfl, rfl⟩ _ _ ⟨rfl, rfl⟩ _ _ ⟨rfl, rfl⟩ _ _ ⟨rfl, rfl⟩ _ _ ⟨rfl, rfl⟩ _ _ ⟨rfl, rfl⟩ _ _ ⟨rfl, rfl⟩ _ _ ⟨rfl, rfl⟩ _ _ ⟨rfl, rfl⟩ _ _ ⟨rfl, rfl⟩ _ _ ⟨rfl, rfl⟩ _ _ ⟨rfl, rfl⟩ _ _ ⟨rfl, rfl⟩ _ _ ⟨rfl, rfl⟩ _ _ ⟨rfl, rfl⟩
      refine wl_norm (e' := [(1, _), (5, _), (6, _), (23, _), (34, _)]) (.cons rfl (.cons rfl (.cons rfl (.cons rfl (.cons rfl (.nil _)))))) (by dsimp only [cond_false, cond_true, List.nil_append, List.cons_append]) ?_
      refine wl_det rfl rfl rfl (op_neA rfl rfl tG58o (eq58 _ _ _ _)) ?_
      refine wl_nil ?_
      refine st_tn ?_
      refine w_cond rfl (fun hc35 => ?_) (fun hc35 => ?_)
      · -- c35.t
        replace hc35 : y ≠ z := fun e => by subst e; simp at hc35
        refine w_seq ?_
        refine w_region ?_
        refine wl_det rfl rfl rfl (op_assign rfl) ?_
        refine wl_nil ?_
        refine st_tn ?_
        refine w_ret ?_
        refine st_br ?_
        refine st_tr ?_
        refine st_tr ?_
        refine st_br ?_
        refine st_tr ?_
        refine st_ret (vs := [_]) [] Try.results21 ⟨rfl, trivial⟩ rfl ?_
        refine ⟨_, rfl, ?_⟩
        refine ⟨?_, rfl⟩; have : l ≠ m := fun e => by subst e; rw [hy] at hz; simp at hz; exact hc35 hz
        simp [retv, this]
      · -- c35.f
        replace hc35 : y = z := Prod.ext_iff.2 (by simpa using hc35)
        refine w_skip ?_
        refine st_bn ?_
        refine st_tn ?_
        refine w_region ?_
        refine wl_det rfl rfl rfl (op_move rfl) ?_
        refine wl_det rfl rfl rfl (op_add' rfl rfl (by omega)) ?_
        refine wl_det rfl rfl rfl (op_assign rfl) ?_
        refine wl_nil ?_
        refine st_roundK (x := i) (i + 1) [2, 8] (⟨by omega, by rw [take_snoc hy, take_snoc hz, hn, show y = z from hc35]⟩) (by omega) (.cons rfl (.nil _)) (.cons rfl (.cons rfl (.nil _))) rfl (rfl) 
    · -- c17.f
      refine w_exit ?_
      refine st_te ?_
      refine st_te ?_
      refine st_be ?_
      refine st_tn ?_
      refine w_seq ?_
      refine w_region ?_
      refine wl_det rfl rfl rfl (op_assign rfl) ?_
      refine wl_nil ?_
      refine st_tn ?_
      refine w_ret ?_
      refine st_ret (vs := [_]) [] Try.results21 ⟨rfl, trivial⟩ rfl ?_
      refine ⟨_, rfl, ?_⟩
      refine ⟨?_, rfl⟩; rw [take_all (by omega), take_all (by omega)] at hn; simp [retv, hn]

end Go.Proofs.Ytkknlfhncheflaa
