/- Contracts of the reference's functions on sorted lists (layer 5). Conditions: none. -/
import Derived.Test.YtkknlfhncheflaaB9
import Derived.Test.YtkknlfhncheflaaSl9
namespace Go.Proofs.Ytkknlfhncheflaa
open Go Go.SL Go.RowKit Go.BitM
set_option linter.unusedVariables false
set_option linter.unusedSimpArgs false
theorem tL22_1j : zerosB Try.prog 22 3 1 1 = some [Value.int .i64 0] := by kernel_rfl
theorem tMixj : Try.prog.follows .mixedOrders = true := by kernel_rfl
theorem tO3j : oneB Try.prog 3 = true := by kernel_rfl
theorem tP22j : appB Try.prog 22 3 1 8 = true := by kernel_rfl
theorem tS22j : sliceB Try.prog 22 3 1 = true := by kernel_rfl

theorem filt_le (p : Int → Bool) (l : List Int) (i : Nat) : ((l.take i).filter p).length ≤ l.length := by
  have h1 := List.length_filter_le p (l.take i)
  rw [List.length_take] at h1; omega
theorem filt_t {p : Int → Bool} {l : List Int} {i : Nat} {x : Int} (h : l[i]? = some x) (hp : p x = true) : (l.take (i + 1)).filter p = (l.take i).filter p ++ [x] := by
  rw [take_snoc h, List.filter_append, List.filter_cons_of_pos hp, List.filter_nil]
theorem filt_f {p : Int → Bool} {l : List Int} {i : Nat} {x : Int} (h : l[i]? = some x) (hp : ¬ p x = true) : (l.take (i + 1)).filter p = (l.take i).filter p := by
  rw [take_snoc h, List.filter_append, List.filter_cons_of_neg hp, List.filter_nil, List.append_nil]
/-- The result of a function: a new list. -/
def NewZ (l : List Int) (lab : Nat) (u : Value) (ρ : RL) : Prop := ∃ a c, u = .slice a l.length c ∧ ρ = [(lab, slW 3 encZ 1 (.slice a l.length c) l)]
def srtU (l : List Int) : List Int := Lib.compact (srt l)
theorem srtU_ss (l : List Int) : SS (srtU l) := (compact_spec (srt_le l)).1
theorem mem_srtU {l : List Int} {x : Int} : x ∈ srtU l ↔ x ∈ l := by unfold srtU; rw [(compact_spec (srt_le l)).2, mem_srt]
theorem srtU_eq {l m : List Int} (h : SS m) (hm : ∀ x, x ∈ m ↔ x ∈ l) : srtU l = m := SS.ext (srtU_ss l) h fun x => mem_srtU.trans (hm x).symm
theorem srtU_le (l : List Int) : (srtU l).length ≤ l.length := by have := compact_le (srt l); have := length_srt l; unfold srtU; omega
theorem srtU_self {l : List Int} (h : SS l) : srtU l = l := srtU_eq h fun _ => Iff.rfl
theorem srtU_nil : srtU [] = [] := srtU_self List.Pairwise.nil
theorem SS.filter {l : List Int} (h : SS l) (p : Int → Bool) : SS (l.filter p) := List.Pairwise.filter p h

set_option maxHeartbeats 400000 in
set_option maxRecDepth 100000 in
theorem rand_any {σ : World} {F : List Res} {a b : Option Addr} {c d : Nat} {l m : List Int} (lab : Nat) (ha : Sl σ F encZ 1 (.slice a l.length c) l) (hb : Sl σ F encZ 1 (.slice b m.length d) m) (hl : l.length ≤ 1099511627776) :
    FnT Try.prog σ F 40 [.slice a l.length c, .slice b m.length d] [] (NewZ (l.filter fun x => decide (x ∈ m)) lab) := by
  refine fn_of 27 Try.func40 rfl Try.ntmps40 rfl ?_
  let p : Int → Bool := fun x => decide (x ∈ m)
  have hfl := fun i => filt_le p l i
  refine w_seq ?_
  refine w_region ?_
  refine wl_det rfl rfl rfl (op_assign rfl) ?_
  refine wl_nil ?_
  refine st_tn ?_
  refine w_seq ?_
  refine w_region ?_
  refine wl_det rfl rfl rfl (op_assign rfl) ?_
  refine wl_nil ?_
  refine st_tn ?_
  refine w_seq ?_
  refine w_seq ?_
  refine w_region ?_
  refine wl_det rfl rfl rfl (op_assign rfl) ?_
  refine wl_nil ?_
  refine st_tn ?_
  refine w_block ?_
  refine w_emp 5 (slO_nil 3 1) ?_
  refine w_loopK (X := Nat × Option Addr × Nat) (fun z => z.1 ≤ l.length) (fun z => [(5, .slice z.2.1 ((l.take z.1).filter p).length z.2.2), (6, .int .i64 z.1)]) (fun z => [(5, slW 3 encZ 1 (.slice z.2.1 ((l.take z.1).filter p).length z.2.2) ((l.take z.1).filter p))]) (fun z => l.length - z.1) ((0, none, 0)) [(0, _), (1, _)] [] (Nat.zero_le _) (.cons rfl (.cons rfl (.nil _))) (.cons rfl (.cons rfl (.nil _))) [5] rfl (rfl) ?_
  rintro ⟨i, a5, c5⟩ hi
  refine w_norm2 (by dsimp only [List.cons_append, List.nil_append]) (by dsimp only [List.cons_append, List.nil_append]) ?_
  dsimp only at hi ⊢
  refine w_seq ?_
  refine w_seq ?_
  refine w_region ?_
  refine wl_det rfl rfl rfl (op_move rfl) ?_
  refine wl_det rfl rfl rfl (op_move rfl) ?_
  refine wl_det rfl rfl rfl (op_lenT rfl tS22j (Sl.ent (by first | exact Sl.app (by assumption) _ | exact Sl.app (Sl.app (by assumption) _) _))) ?_
  refine wl_det rfl rfl rfl (op_lss rfl rfl) ?_
  refine wl_nil ?_
  refine st_tn ?_
  refine w_cond_d rfl (fun hc10 => ?_) (fun hc10 => ?_)
  · -- c10.t
    obtain ⟨y, hy⟩ := getE (l := l) (i := i) (by omega)
    have hlt := ltE hy
    have hfi := hfl i
    refine w_skip ?_
    refine st_tn ?_
    refine w_seq ?_
    refine w_block ?_
    refine w_seq ?_
    refine w_region ?_
    refine wl_det rfl rfl rfl (op_move rfl) ?_
    refine wl_det rfl rfl rfl (op_move rfl) ?_
    refine wl_det rfl rfl rfl (op_move rfl) ?_
    refine wl_det rfl rfl rfl (op_idx rfl rfl tS22j (Sl.ent (by first | exact Sl.app (by assumption) _ | exact Sl.app (Sl.app (by assumption) _) _)) (by omega)) ?_
    refine wl_det rfl rfl rfl (op_ldx rfl tO3j (by first | exact Sl.app (by assumption) _ | exact Sl.app (Sl.app (by assumption) _) _) (by assumption) (by rfl)) ?_
    refine wl_det rfl rfl rfl (op_fn Try.func26 rfl rfl rfl (has_any _ (by first | exact Sl.app (by assumption) _ | exact Sl.app (Sl.app (by assumption) _) _))) ?_
    refine wl_nil ?_
    refine st_tn ?_
    refine w_cond_d rfl (fun hc18 => ?_) (fun hc18 => ?_)
    · -- c18.t
      have hts := filt_t (p := p) hy (by simpa [p] using hc18)
      refine w_region ?_
      refine wl_det rfl rfl rfl (op_move rfl) ?_
      refine wl_det rfl rfl rfl (op_move rfl) ?_
      refine wl_det rfl rfl rfl (op_move rfl) ?_
      refine wl_det rfl rfl rfl (op_idx rfl rfl tS22j (Sl.ent (by first | exact Sl.app (by assumption) _ | exact Sl.app (Sl.app (by assumption) _) _)) (by omega)) ?_
      refine wl_det rfl rfl rfl (op_ldx rfl tO3j (by first | exact Sl.app (by assumption) _ | exact Sl.app (Sl.app (by assumption) _) _) (by assumption) (by rfl)) ?_
      refine wl_op [] rfl rfl rfl rfl (op_buildSlice (enc := SL.encZ) (l := [_]) (lab := 24) tL22_1j rfl rfl (fun _ => rfl) rfl) ?_
      rintro _ _ ⟨a24, c24, rfl, rfl⟩
      refine wl_op [5] rfl rfl rfl rfl (op_append (lab := 5) (lab' := 25) rfl rfl tP22j SL.enc1Z (Sl.lab 24 rfl (by simp [maxLen])) (by first | omega | (simp; done) | (simp; omega) | (simp [*]; omega)) (by first | omega | (simp; done) | (simp; omega) | (simp [*]; omega))) ?_
      rintro _ _ ⟨a25, c25, rfl, rfl⟩
      refine wl_det rfl rfl rfl (op_assign rfl) ?_
      refine wl_nil ?_
      refine st_bn ?_
      refine st_tn ?_
      refine w_region ?_
      refine wl_det rfl rfl rfl (op_move rfl) ?_
      refine wl_det rfl rfl rfl (op_add' rfl rfl (by omega)) ?_
      refine wl_det rfl rfl rfl (op_assign rfl) ?_
      refine wl_nil ?_
      refine st_roundK (x := (i, a5, c5)) ((i + 1, a25, c25)) [25] (by show i + 1 ≤ _; omega) (by show l.length - (i + 1) < l.length - i; omega) (.cons (by rw [hts]; rfl) (.cons rfl (.nil _))) (.cons rfl (.cons rfl (.nil _))) rfl (by rw [hts]; rfl) 
    · -- c18.f
      have hts := filt_f (p := p) hy (by simpa [p] using hc18)
      refine w_skip ?_
      refine st_bn ?_
      refine st_tn ?_
      refine w_region ?_
      refine wl_det rfl rfl rfl (op_move rfl) ?_
      refine wl_det rfl rfl rfl (op_add' rfl rfl (by omega)) ?_
      refine wl_det rfl rfl rfl (op_assign rfl) ?_
      refine wl_nil ?_
      refine st_roundK (x := (i, a5, c5)) ((i + 1, a5, c5)) [5] (by show i + 1 ≤ _; omega) (by show l.length - (i + 1) < l.length - i; omega) (.cons (by rw [hts]; rfl) (.cons rfl (.nil _))) (.cons rfl (.cons rfl (.nil _))) rfl (by rw [hts]; rfl) 
  · -- c10.f
    refine w_exit ?_
    refine st_te ?_
    refine st_te ?_
    refine st_be ?_
    refine st_tn ?_
    refine w_seq ?_
    refine w_region ?_
    refine wl_det rfl rfl rfl (op_move rfl) ?_
    refine wl_det rfl rfl rfl (op_assign rfl) ?_
    refine wl_nil ?_
    refine st_tn ?_
    refine w_ret ?_
    refine st_ret (vs := [_]) [5] Try.results40 ⟨rfl, trivial⟩ rfl ?_
    refine ⟨[(lab, _)], rfl, ?_⟩
    rw [take_all (by omega)]; exact ⟨_, _, rfl, rfl⟩


set_option maxHeartbeats 400000 in
set_option maxRecDepth 100000 in
theorem randnot_any {σ : World} {F : List Res} {a b : Option Addr} {c d : Nat} {l m : List Int} (lab : Nat) (ha : Sl σ F encZ 1 (.slice a l.length c) l) (hb : Sl σ F encZ 1 (.slice b m.length d) m) (hl : l.length ≤ 1099511627776) :
    FnT Try.prog σ F 42 [.slice a l.length c, .slice b m.length d] [] (NewZ (l.filter fun x => decide (¬ x ∈ m)) lab) := by
  refine fn_of 28 Try.func42 rfl Try.ntmps42 rfl ?_
  let p : Int → Bool := fun x => decide (¬ x ∈ m)
  have hfl := fun i => filt_le p l i
  refine w_seq ?_
  refine w_region ?_
  refine wl_det rfl rfl rfl (op_assign rfl) ?_
  refine wl_nil ?_
  refine st_tn ?_
  refine w_seq ?_
  refine w_region ?_
  refine wl_det rfl rfl rfl (op_assign rfl) ?_
  refine wl_nil ?_
  refine st_tn ?_
  refine w_seq ?_
  refine w_seq ?_
  refine w_region ?_
  refine wl_det rfl rfl rfl (op_assign rfl) ?_
  refine wl_nil ?_
  refine st_tn ?_
  refine w_block ?_
  refine w_emp 5 (slO_nil 3 1) ?_
  refine w_loopK (X := Nat × Option Addr × Nat) (fun z => z.1 ≤ l.length) (fun z => [(5, .slice z.2.1 ((l.take z.1).filter p).length z.2.2), (6, .int .i64 z.1)]) (fun z => [(5, slW 3 encZ 1 (.slice z.2.1 ((l.take z.1).filter p).length z.2.2) ((l.take z.1).filter p))]) (fun z => l.length - z.1) ((0, none, 0)) [(0, _), (1, _)] [] (Nat.zero_le _) (.cons rfl (.cons rfl (.nil _))) (.cons rfl (.cons rfl (.nil _))) [5] rfl (rfl) ?_
  rintro ⟨i, a5, c5⟩ hi
  refine w_norm2 (by dsimp only [List.cons_append, List.nil_append]) (by dsimp only [List.cons_append, List.nil_append]) ?_
  dsimp only at hi ⊢
  refine w_seq ?_
  refine w_seq ?_
  refine w_region ?_
  refine wl_det rfl rfl rfl (op_move rfl) ?_
  refine wl_det rfl rfl rfl (op_move rfl) ?_
  refine wl_det rfl rfl rfl (op_lenT rfl tS22j (Sl.ent (by first | exact Sl.app (by assumption) _ | exact Sl.app (Sl.app (by assumption) _) _))) ?_
  refine wl_det rfl rfl rfl (op_lss rfl rfl) ?_
  refine wl_nil ?_
  refine st_tn ?_
  refine w_cond_d rfl (fun hc10 => ?_) (fun hc10 => ?_)
  · -- c10.t
    obtain ⟨y, hy⟩ := getE (l := l) (i := i) (by omega)
    have hlt := ltE hy
    have hfi := hfl i
    refine w_skip ?_
    refine st_tn ?_
    refine w_seq ?_
    refine w_block ?_
    refine w_seq ?_
    refine w_region ?_
    refine wl_det rfl rfl rfl (op_move rfl) ?_
    refine wl_det rfl rfl rfl (op_move rfl) ?_
    refine wl_det rfl rfl rfl (op_move rfl) ?_
    refine wl_det rfl rfl rfl (op_idx rfl rfl tS22j (Sl.ent (by first | exact Sl.app (by assumption) _ | exact Sl.app (Sl.app (by assumption) _) _)) (by omega)) ?_
    refine wl_det rfl rfl rfl (op_ldx rfl tO3j (by first | exact Sl.app (by assumption) _ | exact Sl.app (Sl.app (by assumption) _) _) (by assumption) (by rfl)) ?_
    refine wl_det rfl rfl rfl (op_fn Try.func26 rfl rfl rfl (has_any _ (by first | exact Sl.app (by assumption) _ | exact Sl.app (Sl.app (by assumption) _) _))) ?_
    refine wl_det rfl rfl rfl (op_not_d rfl) ?_
    refine wl_nil ?_
    refine st_tn ?_
    refine w_cond_d rfl (fun hc19 => ?_) (fun hc19 => ?_)
    · -- c19.t
      have hts := filt_t (p := p) hy (by simpa [p] using hc19)
      refine w_region ?_
      refine wl_det rfl rfl rfl (op_move rfl) ?_
      refine wl_det rfl rfl rfl (op_move rfl) ?_
      refine wl_det rfl rfl rfl (op_move rfl) ?_
      refine wl_det rfl rfl rfl (op_idx rfl rfl tS22j (Sl.ent (by first | exact Sl.app (by assumption) _ | exact Sl.app (Sl.app (by assumption) _) _)) (by omega)) ?_
      refine wl_det rfl rfl rfl (op_ldx rfl tO3j (by first | exact Sl.app (by assumption) _ | exact Sl.app (Sl.app (by assumption) _) _) (by assumption) (by rfl)) ?_
      refine wl_op [] rfl rfl rfl rfl (op_buildSlice (enc := SL.encZ) (l := [_]) (lab := 25) tL22_1j rfl rfl (fun _ => rfl) rfl) ?_
      rintro _ _ ⟨a25, c25, rfl, rfl⟩
      refine wl_op [5] rfl rfl rfl rfl (op_append (lab := 5) (lab' := 26) rfl rfl tP22j SL.enc1Z (Sl.lab 25 rfl (by simp [maxLen])) (by first | omega | (simp; done) | (simp; omega) | (simp [*]; omega)) (by first | omega | (simp; done) | (simp; omega) | (simp [*]; omega))) ?_
      rintro _ _ ⟨a26, c26, rfl, rfl⟩
      refine wl_det rfl rfl rfl (op_assign rfl) ?_
      refine wl_nil ?_
      refine st_bn ?_
      refine st_tn ?_
      refine w_region ?_
      refine wl_det rfl rfl rfl (op_move rfl) ?_
      refine wl_det rfl rfl rfl (op_add' rfl rfl (by omega)) ?_
      refine wl_det rfl rfl rfl (op_assign rfl) ?_
      refine wl_nil ?_
      refine st_roundK (x := (i, a5, c5)) ((i + 1, a26, c26)) [26] (by show i + 1 ≤ _; omega) (by show l.length - (i + 1) < l.length - i; omega) (.cons (by rw [hts]; rfl) (.cons rfl (.nil _))) (.cons rfl (.cons rfl (.nil _))) rfl (by rw [hts]; rfl) 
    · -- c19.f
      have hts := filt_f (p := p) hy (by simpa [p] using hc19)
      refine w_skip ?_
      refine st_bn ?_
      refine st_tn ?_
      refine w_region ?_
      refine wl_det rfl rfl rfl (op_move rfl) ?_
      refine wl_det rfl rfl rfl (op_add' rfl rfl (by omega)) ?_
      refine wl_det rfl rfl rfl (op_assign rfl) ?_
      refine wl_nil ?_
      refine st_roundK (x := (i, a5, c5)) ((i + 1, a5, c5)) [5] (by show i + 1 ≤ _; omega) (by show l.length - (i + 1) < l.length - i; omega) (.cons (by rw [hts]; rfl) (.cons rfl (.nil _))) (.cons rfl (.cons rfl (.nil _))) rfl (by rw [hts]; rfl) 
  · -- c10.f
    refine w_exit ?_
    refine st_te ?_
    refine st_te ?_
    refine st_be ?_
    refine st_tn ?_
    refine w_seq ?_
    refine w_region ?_
    refine wl_det rfl rfl rfl (op_move rfl) ?_
    refine wl_det rfl rfl rfl (op_assign rfl) ?_
    refine wl_nil ?_
    refine st_tn ?_
    refine w_ret ?_
    refine st_ret (vs := [_]) [5] Try.results42 ⟨rfl, trivial⟩ rfl ?_
    refine ⟨[(lab, _)], rfl, ?_⟩
    rw [take_all (by omega)]; exact ⟨_, _, rfl, rfl⟩


set_option maxHeartbeats 400000 in
set_option maxRecDepth 100000 in
theorem rnot_any {σ : World} {F : List Res} {a : Option Addr} {c : Nat} {m : List Int} (lab : Nat) (s : Int) (ha : Sl σ F encZ 1 (.slice a m.length c) m) (hl : s ≤ 1099511627776) :
    FnT Try.prog σ F 38 [.slice a m.length c, .int .i64 s] [] (NewZ ((upto 0 (s - 1)).filter fun x => decide (¬ x ∈ m)) lab) := by
  refine fn_of 21 Try.func38 rfl Try.ntmps38 rfl ?_
  let p : Int → Bool := fun x => decide (¬ x ∈ m)
  let l := upto 0 (s - 1)
  have hll : l.length = s.toNat := by show (upto 0 (s - 1)).length = _; rw [length_upto]; omega
  have hfl := fun i => filt_le p l i
  have hget : ∀ i : Nat, (i : Int) < s → l[i]? = some (i : Int) := fun i hi => by
    show (List.map _ _)[i]? = _
    rw [List.getElem?_map, List.getElem?_range (by omega)]; simp
  refine w_seq ?_
  refine w_region ?_
  refine wl_det rfl rfl rfl (op_assign rfl) ?_
  refine wl_nil ?_
  refine st_tn ?_
  refine w_seq ?_
  refine w_region ?_
  refine wl_det rfl rfl rfl (op_assign rfl) ?_
  refine wl_nil ?_
  refine st_tn ?_
  refine w_seq ?_
  refine w_seq ?_
  refine w_region ?_
  refine wl_det rfl rfl rfl (op_assign rfl) ?_
  refine wl_nil ?_
  refine st_tn ?_
  refine w_block ?_
  refine w_emp 5 (slO_nil 3 1) ?_
  refine w_loopK (X := Nat × Option Addr × Nat) (fun z => z.1 ≤ l.length) (fun z => [(5, .slice z.2.1 ((l.take z.1).filter p).length z.2.2), (6, .int .i64 z.1)]) (fun z => [(5, slW 3 encZ 1 (.slice z.2.1 ((l.take z.1).filter p).length z.2.2) ((l.take z.1).filter p))]) (fun z => l.length - z.1) ((0, none, 0)) [(0, _), (1, _)] [] (Nat.zero_le _) (.cons rfl (.cons rfl (.nil _))) (.cons rfl (.cons rfl (.nil _))) [5] rfl (rfl) ?_
  rintro ⟨i, a5, c5⟩ hi
  refine w_norm2 (by dsimp only [List.cons_append, List.nil_append]) (by dsimp only [List.cons_append, List.nil_append]) ?_
  dsimp only at hi ⊢
  refine w_seq ?_
  refine w_seq ?_
  refine w_region ?_
  refine wl_det rfl rfl rfl (op_move rfl) ?_
  refine wl_det rfl rfl rfl (op_move rfl) ?_
  refine wl_det rfl rfl rfl (op_lss rfl rfl) ?_
  refine wl_nil ?_
  refine st_tn ?_
  refine w_cond_d rfl (fun hc9 => ?_) (fun hc9 => ?_)
  · -- c9.t
    have hy := hget i hc9
    have hfi := hfl i
    refine w_skip ?_
    refine st_tn ?_
    refine w_seq ?_
    refine w_block ?_
    refine w_seq ?_
    refine w_region ?_
    refine wl_det rfl rfl rfl (op_move rfl) ?_
    refine wl_det rfl rfl rfl (op_move rfl) ?_
    refine wl_det rfl rfl rfl (op_fn Try.func26 rfl rfl rfl (has_any _ (by first | exact Sl.app (by assumption) _ | exact Sl.app (Sl.app (by assumption) _) _))) ?_
    refine wl_det rfl rfl rfl (op_not_d rfl) ?_
    refine wl_nil ?_
    refine st_tn ?_
    refine w_cond_d rfl (fun hc15 => ?_) (fun hc15 => ?_)
    · -- c15.t
      have hts := filt_t (p := p) hy (by simpa [p] using hc15)
      refine w_region ?_
      refine wl_det rfl rfl rfl (op_move rfl) ?_
      refine wl_det rfl rfl rfl (op_move rfl) ?_
      refine wl_op [] rfl rfl rfl rfl (op_buildSlice (enc := SL.encZ) (l := [_]) (lab := 18) tL22_1j rfl rfl (fun _ => rfl) rfl) ?_
      rintro _ _ ⟨a18, c18, rfl, rfl⟩
      refine wl_op [5] rfl rfl rfl rfl (op_append (lab := 5) (lab' := 19) rfl rfl tP22j SL.enc1Z (Sl.lab 18 rfl (by simp [maxLen])) (by first | omega | (simp; done) | (simp; omega) | (simp [*]; omega)) (by first | omega | (simp; done) | (simp; omega) | (simp [*]; omega))) ?_
      rintro _ _ ⟨a19, c19, rfl, rfl⟩
      refine wl_det rfl rfl rfl (op_assign rfl) ?_
      refine wl_nil ?_
      refine st_bn ?_
      refine st_tn ?_
      refine w_region ?_
      refine wl_det rfl rfl rfl (op_move rfl) ?_
      refine wl_det rfl rfl rfl (op_add' rfl rfl (by omega)) ?_
      refine wl_det rfl rfl rfl (op_assign rfl) ?_
      refine wl_nil ?_
      refine st_roundK (x := (i, a5, c5)) ((i + 1, a19, c19)) [19] (by show i + 1 ≤ _; omega) (by show l.length - (i + 1) < l.length - i; omega) (.cons (by rw [hts]; rfl) (.cons rfl (.nil _))) (.cons rfl (.cons rfl (.nil _))) rfl (by rw [hts]; rfl) 
    · -- c15.f
      have hts := filt_f (p := p) hy (by simpa [p] using hc15)
      refine w_skip ?_
      refine st_bn ?_
      refine st_tn ?_
      refine w_region ?_
      refine wl_det rfl rfl rfl (op_move rfl) ?_
      refine wl_det rfl rfl rfl (op_add' rfl rfl (by omega)) ?_
      refine wl_det rfl rfl rfl (op_assign rfl) ?_
      refine wl_nil ?_
      refine st_roundK (x := (i, a5, c5)) ((i + 1, a5, c5)) [5] (by show i + 1 ≤ _; omega) (by show l.length - (i + 1) < l.length - i; omega) (.cons (by rw [hts]; rfl) (.cons rfl (.nil _))) (.cons rfl (.cons rfl (.nil _))) rfl (by rw [hts]; rfl) 
  · -- c9.f
    refine w_exit ?_
    refine st_te ?_
    refine st_te ?_
    refine st_be ?_
    refine st_tn ?_
    refine w_seq ?_
    refine w_region ?_
    refine wl_det rfl rfl rfl (op_move rfl) ?_
    refine wl_det rfl rfl rfl (op_assign rfl) ?_
    refine wl_nil ?_
    refine st_tn ?_
    refine w_ret ?_
    refine st_ret (vs := [_]) [5] Try.results38 ⟨rfl, trivial⟩ rfl ?_
    refine ⟨[(lab, _)], rfl, ?_⟩
    rw [take_all (by omega)]; exact ⟨_, _, rfl, rfl⟩

set_option maxHeartbeats 400000 in
set_option maxRecDepth 100000 in
theorem valid_any {σ : World} {F : List Res} {a : Option Addr} {c : Nat} {l : List Int} (h : Sl σ F encZ 1 (.slice a l.length c) l) :
    FnT Try.prog σ F 15 [.slice a l.length c] [] (fun u ρ => u = .bool (validB l) ∧ ρ = []) := by
  refine fn_of 22 Try.func15 rfl Try.ntmps15 rfl ?_
  have hle := h.i64
  refine w_seq ?_
  refine w_region ?_
  refine wl_det rfl rfl rfl (op_assign rfl) ?_
  refine wl_nil ?_
  refine st_tn ?_
  refine w_seq ?_
  refine w_seq ?_
  refine w_region ?_
  refine wl_det rfl rfl rfl (op_assign rfl) ?_
  refine wl_nil ?_
  refine st_tn ?_
  refine w_block ?_
  refine w_loopK (X := Nat) (fun i => i ≤ l.length ∧ validB (l.take i) = true) (fun i => [(3, .int .i64 i)]) (fun _ => []) (fun i => l.length - i) (0) [(0, _)] [] (⟨Nat.zero_le _, rfl⟩) (.cons rfl (.nil _)) (.cons rfl (.nil _)) [] rfl (rfl) ?_
  rintro i ⟨hi, hv⟩
  refine w_norm2 (by dsimp only [List.cons_append, List.nil_append]) (by dsimp only [List.cons_append, List.nil_append]) ?_
  refine w_seq ?_
  refine w_seq ?_
  refine w_region ?_
  refine wl_det rfl rfl rfl (op_move rfl) ?_
  refine wl_det rfl rfl rfl (op_move rfl) ?_
  refine wl_det rfl rfl rfl (op_lenT rfl tS22j (Sl.ent (by first | exact Sl.app (by assumption) _ | exact Sl.app (Sl.app (by assumption) _) _))) ?_
  refine wl_det rfl rfl rfl (op_lss rfl rfl) ?_
  refine wl_nil ?_
  refine st_tn ?_
  refine w_cond_d rfl (fun hc7 => ?_) (fun hc7 => ?_)
  · -- c7.t
    obtain ⟨y, hy⟩ := getE (l := l) (i := i) (by omega)
    have hlt := ltE hy
    refine w_skip ?_
    refine st_tn ?_
    refine w_seq ?_
    refine w_block ?_
    refine w_seq ?_
    refine w_cutL [(21, .bool (decide (y < 0 ∨ y ≥ 1048576)))] [0, 3] [] rfl (fun K' hK => ?_) ?_
    · -- cut r4
      refine w_region ?_
      refine wl_det rfl rfl rfl (op_move rfl) ?_
      refine wl_det rfl rfl rfl (op_move rfl) ?_
      refine wl_det rfl rfl rfl (op_idx rfl rfl tS22j (Sl.ent (by first | exact Sl.app (by assumption) _ | exact Sl.app (Sl.app (by assumption) _) _)) (by omega)) ?_
      refine wl_det rfl rfl rfl (op_ldx rfl tO3j (by first | exact Sl.app (by assumption) _ | exact Sl.app (Sl.app (by assumption) _) _) (by assumption) (by rfl)) ?_
      refine wl_det rfl rfl rfl (op_lss rfl rfl) ?_
      refine wl_det rfl rfl rfl (op_move rfl) ?_
      refine wl_gsplit (t := 15) rfl (fun hg15 => ?_) (fun hg15 => ?_)
      · -- 15 is True
        refine wl_unwanted rfl rfl rfl rfl rfl rfl rfl rfl ?_
        refine wl_unwanted rfl rfl rfl rfl rfl rfl rfl rfl ?_
        refine wl_unwanted rfl rfl rfl rfl rfl rfl rfl rfl ?_
        refine wl_unwanted rfl rfl rfl rfl rfl rfl rfl rfl ?_
        refine wl_unwanted rfl rfl rfl rfl rfl rfl rfl rfl ?_
        refine wl_det rfl rfl rfl (op_pick_t rfl rfl) ?_
        refine wl_nil ?_
        refine st_tn ?_
        exact cut_done1 [] hK rfl (by first | (rw [decide_eq_decide]; omega) | (symm; rw [decide_eq_false_iff_not]; omega) | (symm; rw [decide_eq_true_iff]; omega) | (simp; done) | (simp; omega) | (simp [*]; done) | (simp [*]; omega)) (by rfl) rfl rfl
      · -- 15 is False
        refine wl_wanted_det rfl rfl rfl rfl rfl rfl rfl (op_move rfl) ?_
        refine wl_wanted_det rfl rfl rfl rfl rfl rfl rfl (op_move rfl) ?_
        refine wl_wanted_det rfl rfl rfl rfl rfl rfl rfl (op_idx rfl rfl tS22j (Sl.ent (by first | exact Sl.app (by assumption) _ | exact Sl.app (Sl.app (by assumption) _) _)) (by omega)) ?_
        refine wl_wanted_det rfl rfl rfl rfl rfl rfl rfl (op_ldx rfl tO3j (by first | exact Sl.app (by assumption) _ | exact Sl.app (Sl.app (by assumption) _) _) (by assumption) (by rfl)) ?_
        refine wl_wanted_det rfl rfl rfl rfl rfl rfl rfl (op_geq rfl rfl) ?_
        refine wl_det rfl rfl rfl (op_pick_f rfl rfl) ?_
        refine wl_nil ?_
        refine st_tn ?_
        exact cut_done1 [] hK rfl (by first | (rw [decide_eq_decide]; omega) | (symm; rw [decide_eq_false_iff_not]; omega) | (symm; rw [decide_eq_true_iff]; omega) | (simp; done) | (simp; omega) | (simp [*]; done) | (simp [*]; omega)) (by rfl) rfl rfl
    · -- behind r4
      show W _ _ _ _ _ [(21, _), (0, _), (3, _)] [] _
      refine w_cond_d rfl (fun hc21 => ?_) (fun hc21 => ?_)
      · -- c21.t
        refine w_seq ?_
        refine w_region ?_
        refine wl_det rfl rfl rfl (op_assign rfl) ?_
        refine wl_nil ?_
        refine st_tn ?_
        refine w_ret ?_
        refine st_br ?_
        refine st_tr ?_
        refine st_tr ?_
        refine st_br ?_
        refine st_tr ?_
        refine st_ret (vs := [_]) [] Try.results15 ⟨rfl, trivial⟩ rfl ?_
        refine ⟨_, rfl, ?_⟩
        have hno : validB l = false := by
          unfold validB
          rw [List.all_eq_false]
          exact ⟨y, List.mem_of_getElem? hy, by simp; omega⟩
        rw [hno]; exact ⟨rfl, rfl⟩
      · -- c21.f
        refine w_skip ?_
        refine st_bn ?_
        refine st_tn ?_
        refine w_region ?_
        refine wl_det rfl rfl rfl (op_move rfl) ?_
        refine wl_det rfl rfl rfl (op_add' rfl rfl (by omega)) ?_
        refine wl_det rfl rfl rfl (op_assign rfl) ?_
        refine wl_nil ?_
        refine st_roundK (x := i) (i + 1) [] (⟨by omega, by rw [take_snoc hy]; unfold validB at *; rw [List.all_append, hv]; simp; omega⟩) (by omega) (.cons rfl (.nil _)) (.cons rfl (.nil _)) rfl (rfl) 
  · -- c7.f
    refine w_exit ?_
    refine st_te ?_
    refine st_te ?_
    refine st_be ?_
    refine st_tn ?_
    refine w_seq ?_
    refine w_region ?_
    refine wl_det rfl rfl rfl (op_assign rfl) ?_
    refine wl_nil ?_
    refine st_tn ?_
    refine w_ret ?_
    refine st_ret (vs := [_]) [] Try.results15 ⟨rfl, trivial⟩ rfl ?_
    refine ⟨_, rfl, ?_⟩
    rw [take_all (by omega)] at hv; rw [hv]; exact ⟨rfl, rfl⟩

set_option maxHeartbeats 400000 in
set_option maxRecDepth 100000 in
theorem rrank_any {σ : World} {F : List Res} {a : Option Addr} {c : Nat} {l : List Int} (x : Int) (h : Sl σ F encZ 1 (.slice a l.length c) l) :
    FnT Try.prog σ F 28 [.slice a l.length c, .int .i64 x] [] (fun u ρ => u = .int .i64 (l.filter fun y => decide (y < x)).length ∧ ρ = []) := by
  refine fn_of 22 Try.func28 rfl Try.ntmps28 rfl ?_
  have hle := h.i64
  let p : Int → Bool := fun y => decide (y < x)
  have hfl := fun i => filt_le p l i
  refine w_seq ?_
  refine w_region ?_
  refine wl_det rfl rfl rfl (op_assign rfl) ?_
  refine wl_nil ?_
  refine st_tn ?_
  refine w_seq ?_
  refine w_region ?_
  refine wl_det rfl rfl rfl (op_assign rfl) ?_
  refine wl_nil ?_
  refine st_tn ?_
  refine w_seq ?_
  refine w_seq ?_
  refine w_region ?_
  refine wl_det rfl rfl rfl (op_assign rfl) ?_
  refine wl_nil ?_
  refine st_tn ?_
  refine w_block ?_
  refine w_loopK (X := Nat) (fun i => i ≤ l.length) (fun i => [(5, .int .i64 ((l.take i).filter p).length), (6, .int .i64 i)]) (fun _ => []) (fun i => l.length - i) (0) [(0, _), (1, _)] [] (Nat.zero_le _) (.cons rfl (.cons rfl (.nil _))) (.cons rfl (.cons rfl (.nil _))) [] rfl (rfl) ?_
  rintro i hi
  refine w_norm2 (by dsimp only [List.cons_append, List.nil_append]) (by dsimp only [List.cons_append, List.nil_append]) ?_
  refine w_seq ?_
  refine w_seq ?_
  refine w_region ?_
  refine wl_det rfl rfl rfl (op_move rfl) ?_
  refine wl_det rfl rfl rfl (op_move rfl) ?_
  refine wl_det rfl rfl rfl (op_lenT rfl tS22j (Sl.ent (by first | exact Sl.app (by assumption) _ | exact Sl.app (Sl.app (by assumption) _) _))) ?_
  refine wl_det rfl rfl rfl (op_lss rfl rfl) ?_
  refine wl_nil ?_
  refine st_tn ?_
  refine w_cond_d rfl (fun hc10 => ?_) (fun hc10 => ?_)
  · -- c10.t
    obtain ⟨y, hy⟩ := getE (l := l) (i := i) (by omega)
    have hlt := ltE hy
    have hfi := List.length_filter_le p (l.take i)
    rw [List.length_take] at hfi
    refine w_skip ?_
    refine st_tn ?_
    refine w_seq ?_
    refine w_block ?_
    refine w_seq ?_
    refine w_region ?_
    refine wl_det rfl rfl rfl (op_move rfl) ?_
    refine wl_det rfl rfl rfl (op_move rfl) ?_
    refine wl_det rfl rfl rfl (op_idx rfl rfl tS22j (Sl.ent (by first | exact Sl.app (by assumption) _ | exact Sl.app (Sl.app (by assumption) _) _)) (by omega)) ?_
    refine wl_det rfl rfl rfl (op_ldx rfl tO3j (by first | exact Sl.app (by assumption) _ | exact Sl.app (Sl.app (by assumption) _) _) (by assumption) (by rfl)) ?_
    refine wl_det rfl rfl rfl (op_move rfl) ?_
    refine wl_det rfl rfl rfl (op_lss rfl rfl) ?_
    refine wl_nil ?_
    refine st_tn ?_
    refine w_cond_d rfl (fun hc18 => ?_) (fun hc18 => ?_)
    · -- c18.t
      have hts : (((l.take (i + 1)).filter p).length : Int) = ((l.take i).filter p).length + 1 := by rw [filt_t (p := p) hy (by simpa [p] using hc18)]; simp
      refine w_region ?_
      refine wl_det rfl rfl rfl (op_move rfl) ?_
      refine wl_det rfl rfl rfl (op_add' rfl rfl (by omega)) ?_
      refine wl_det rfl rfl rfl (op_assign rfl) ?_
      refine wl_nil ?_
      refine st_bn ?_
      refine st_tn ?_
      refine w_region ?_
      refine wl_det rfl rfl rfl (op_move rfl) ?_
      refine wl_det rfl rfl rfl (op_add' rfl rfl (by omega)) ?_
      refine wl_det rfl rfl rfl (op_assign rfl) ?_
      refine wl_nil ?_
      refine st_roundK (x := i) (i + 1) [] (by omega) (by omega) (.cons (by rw [hts]; rfl) (.cons rfl (.nil _))) (.cons rfl (.cons rfl (.nil _))) rfl (rfl) 
    · -- c18.f
      have hts : (((l.take (i + 1)).filter p).length : Int) = ((l.take i).filter p).length := by rw [filt_f (p := p) hy (by simpa [p] using hc18)]
      refine w_skip ?_
      refine st_bn ?_
      refine st_tn ?_
      refine w_region ?_
      refine wl_det rfl rfl rfl (op_move rfl) ?_
      refine wl_det rfl rfl rfl (op_add' rfl rfl (by omega)) ?_
      refine wl_det rfl rfl rfl (op_assign rfl) ?_
      refine wl_nil ?_
      refine st_roundK (x := i) (i + 1) [] (by omega) (by omega) (.cons (by rw [hts]; rfl) (.cons rfl (.nil _))) (.cons rfl (.cons rfl (.nil _))) rfl (rfl) 
  · -- c10.f
    refine w_exit ?_
    refine st_te ?_
    refine st_te ?_
    refine st_be ?_
    refine st_tn ?_
    refine w_seq ?_
    refine w_region ?_
    refine wl_det rfl rfl rfl (op_move rfl) ?_
    refine wl_det rfl rfl rfl (op_assign rfl) ?_
    refine wl_nil ?_
    refine st_tn ?_
    refine w_ret ?_
    refine st_ret (vs := [_]) [] Try.results28 ⟨rfl, trivial⟩ rfl ?_
    refine ⟨_, rfl, ?_⟩
    rw [take_all (by omega)]; exact ⟨rfl, rfl⟩

set_option maxHeartbeats 1000000 in
set_option maxRecDepth 100000 in
theorem sorted_any {σ : World} {F : List Res} {a : Option Addr} {c : Nat} {l : List Int} (lab : Nat) (h : Sl σ F encZ 1 (.slice a l.length c) l) (hl : l.length ≤ 1099511627776) :
    FnT Try.prog σ F 17 [.slice a l.length c] [] (NewZ (srtU l) lab) := by
  refine fn_of 60 Try.func17 rfl Try.ntmps17 rfl ?_
  refine w_seq ?_
  refine w_region ?_
  refine wl_det rfl rfl rfl (op_assign rfl) ?_
  refine wl_nil ?_
  refine st_tn ?_
  refine w_seq ?_
  refine w_region ?_
  refine wl_det rfl rfl rfl (op_assign rfl) ?_
  refine wl_nil ?_
  refine st_tn ?_
  refine w_seq ?_
  refine w_seq ?_
  refine w_region ?_
  refine wl_det rfl rfl rfl (op_assign rfl) ?_
  refine wl_nil ?_
  refine st_tn ?_
  refine w_block ?_
  refine w_emp 3 (slO_nil 3 1) ?_
  refine w_loopK (X := Nat × Option Addr × Nat) (fun z => z.1 ≤ l.length) (fun z => [(3, .slice z.2.1 (srtU (l.take z.1)).length z.2.2), (4, .int .i64 z.1)]) (fun z => [(3, slW 3 encZ 1 (.slice z.2.1 (srtU (l.take z.1)).length z.2.2) (srtU (l.take z.1)))]) (fun z => l.length - z.1) ((0, none, 0)) [(0, _)] [] (Nat.zero_le _) (.cons (by rw [show l.take 0 = [] from rfl, srtU_nil]; rfl) (.cons rfl (.nil _))) (.cons rfl (.nil _)) [3] rfl (by rw [show l.take 0 = [] from rfl, srtU_nil]; rfl) ?_
  rintro ⟨i, a3, c3⟩ hi
  refine w_norm2 (by dsimp only [List.cons_append, List.nil_append]) (by dsimp only [List.cons_append, List.nil_append]) ?_
  dsimp only at hi ⊢
  refine w_seq ?_
  refine w_seq ?_
  refine w_region ?_
  refine wl_det rfl rfl rfl (op_move rfl) ?_
  refine wl_det rfl rfl rfl (op_move rfl) ?_
  refine wl_det rfl rfl rfl (op_lenT rfl tS22j (Sl.ent (by first | exact Sl.app (by assumption) _ | exact Sl.app (Sl.app (by assumption) _) _))) ?_
  refine wl_det rfl rfl rfl (op_lss rfl rfl) ?_
  refine wl_nil ?_
  refine st_tn ?_
  refine w_cond_d rfl (fun hc9 => ?_) (fun hc9 => ?_)
  · -- c9.t
    obtain ⟨y, hy⟩ := getE (l := l) (i := i) (by omega)
    have hlt := ltE hy
    have hsl := srtU_le (l.take i)
    rw [List.length_take] at hsl
    have hss := srtU_ss (l.take i)
    have hsm : ∀ x, x ∈ srtU (l.take i) ↔ x ∈ l.take i := fun x => mem_srtU
    generalize hS : srtU (l.take i) = S at *
    refine w_skip ?_
    refine st_tn ?_
    refine w_seq ?_
    refine w_block ?_
    refine w_seq ?_
    refine w_region ?_
    refine wl_det rfl rfl rfl (op_move rfl) ?_
    refine wl_det rfl rfl rfl (op_lenT rfl tS22j (Sl.ent (Sl.lab 3 rfl (by unfold maxLen; omega)))) ?_
    refine wl_det rfl rfl rfl (op_assign rfl) ?_
    refine wl_nil ?_
    refine st_tn ?_
    refine w_seq ?_
    refine w_block ?_
    refine w_loopK (X := Nat) (fun j => j ≤ S.length ∧ ∀ x ∈ S.drop j, y < x) (fun j => [(5, .int .i64 j)]) (fun _ => []) (fun j => j) (S.length) [(0, _), (3, _), (4, _)] [(3, _)] (⟨Nat.le_refl _, by simp⟩) (.cons rfl (.nil _)) (.cons rfl (.cons rfl (.cons rfl (.nil _)))) [3] rfl (rfl) ?_
    rintro j ⟨hj, hgt⟩
    refine w_norm2 (by dsimp only [List.cons_append, List.nil_append]) (by dsimp only [List.cons_append, List.nil_append]) ?_
    refine w_seq ?_
    refine w_seq ?_
    refine w_cutL [(27, .bool (decide (0 < (j : Int) ∧ y < S.getD (j - 1) 0)))] [0, 3, 4, 5] [3] rfl (fun K' hK => ?_) ?_
    · -- cut r6
      by_cases hq : (0 : Int) < (j : Int)
      · -- hq True
        obtain ⟨z, hz⟩ := getE (l := S) (i := j - 1) (by omega)
        have hz' : S[((j : Int) - 1).toNat]? = some z := by rw [show ((j : Int) - 1).toNat = j - 1 by omega]; exact hz
        have hgd : S.getD (j - 1) 0 = z := by rw [List.getD_eq_getElem?_getD, hz]; rfl
        refine w_draw (D := [⟨14, [], [], [], _, false, [], []⟩, ⟨15, [0], [], [], _, false, [], []⟩, ⟨16, [1], [], [], _, false, [], []⟩, ⟨17, [], [], [], _, false, [], []⟩, ⟨18, [], [], [], _, false, [], []⟩, ⟨19, [4], [], [], _, false, [], []⟩, ⟨20, [3, 5], [], [], _, false, [], []⟩, ⟨21, [6], [], [], _, false, [], []⟩, ⟨22, [], [], [], _, false, [], []⟩, ⟨23, [], [], [], _, false, [], []⟩, ⟨24, [8, 9], [], [], _, false, [], []⟩, ⟨25, [10], [], [], _, false, [], []⟩, ⟨26, [7, 11], [], [], _, false, [], []⟩, ⟨27, [2, 12], [], [], _, false, [], []⟩]) [] [5, 3, 0, 4] [⟨14, [], [], false, [], []⟩, ⟨15, [0], [], false, [], []⟩, ⟨16, [1], [], false, [], []⟩, ⟨17, [], [], false, [], []⟩, ⟨18, [], [], false, [], []⟩, ⟨19, [4], [], false, [], []⟩, ⟨20, [3, 5], [], false, [], []⟩, ⟨21, [6], [], false, [], []⟩, ⟨22, [], [], false, [], []⟩, ⟨23, [], [], false, [], []⟩, ⟨24, [8, 9], [], false, [], []⟩, ⟨25, [10], [], false, [], []⟩, ⟨26, [7, 11], [], false, [], []⟩, ⟨27, [2, 12], [], false, [], []⟩] tMixj (by rfl) (by kernel_rfl) (by rfl) (by rfl)
            ⟨.plain rfl (by intro X; exact op_move rfl),
            ⟨.plain rfl (by intro X; rintro _ _ ⟨rfl, rfl⟩; exact op_gtr rfl rfl),
            ⟨.plain rfl (by intro X; rintro _ _ ⟨rfl, rfl⟩; exact op_move rfl),
            ⟨.wanted rfl rfl rfl (by rintro _ _ ⟨rfl, rfl⟩; first | rfl | (exact congrArg Value.bool (decide_eq_true (by omega))) | (exact congrArg Value.bool (decide_eq_false (by omega))) | (simp; done) | (simp; omega) | (simp [*]; done)) (by intro X; exact op_move rfl),
            ⟨.wanted rfl rfl rfl (by rintro _ _ ⟨rfl, rfl⟩; first | rfl | (exact congrArg Value.bool (decide_eq_true (by omega))) | (exact congrArg Value.bool (decide_eq_false (by omega))) | (simp; done) | (simp; omega) | (simp [*]; done)) (by intro X; exact op_move rfl),
            ⟨.wanted rfl rfl rfl (by rintro _ _ ⟨rfl, rfl⟩; first | rfl | (exact congrArg Value.bool (decide_eq_true (by omega))) | (exact congrArg Value.bool (decide_eq_false (by omega))) | (simp; done) | (simp; omega) | (simp [*]; done)) (by intro X; rintro _ _ ⟨rfl, rfl⟩; exact op_sub' rfl rfl (by omega)),
            ⟨.wanted rfl rfl rfl (by rintro _ _ ⟨rfl, rfl⟩; first | rfl | (exact congrArg Value.bool (decide_eq_true (by omega))) | (exact congrArg Value.bool (decide_eq_false (by omega))) | (simp; done) | (simp; omega) | (simp [*]; done)) (by intro X; rintro _ _ ⟨rfl, rfl⟩ _ _ ⟨rfl, rfl⟩; exact op_idxZ rfl rfl tS22j (Sl.ent (Sl.lab 3 rfl (by unfold maxLen; omega))) (by omega) (by omega)),
            ⟨.wanted rfl rfl rfl (by rintro _ _ ⟨rfl, rfl⟩; first | rfl | (exact congrArg Value.bool (decide_eq_true (by omega))) | (exact congrArg Value.bool (decide_eq_false (by omega))) | (simp; done) | (simp; omega) | (simp [*]; done)) (by intro X; rintro _ _ ⟨rfl, rfl⟩; exact op_ldx rfl tO3j (Sl.lab 3 rfl (by unfold maxLen; omega)) (by assumption) (by rfl)),
            ⟨.wanted rfl rfl rfl (by rintro _ _ ⟨rfl, rfl⟩; first | rfl | (exact congrArg Value.bool (decide_eq_true (by omega))) | (exact congrArg Value.bool (decide_eq_false (by omega))) | (simp; done) | (simp; omega) | (simp [*]; done)) (by intro X; exact op_move rfl),
            ⟨.wanted rfl rfl rfl (by rintro _ _ ⟨rfl, rfl⟩; first | rfl | (exact congrArg Value.bool (decide_eq_true (by omega))) | (exact congrArg Value.bool (decide_eq_false (by omega))) | (simp; done) | (simp; omega) | (simp [*]; done)) (by intro X; exact op_move rfl),
            ⟨.wanted rfl rfl rfl (by rintro _ _ ⟨rfl, rfl⟩; first | rfl | (exact congrArg Value.bool (decide_eq_true (by omega))) | (exact congrArg Value.bool (decide_eq_false (by omega))) | (simp; done) | (simp; omega) | (simp [*]; done)) (by intro X; rintro _ _ ⟨rfl, rfl⟩ _ _ ⟨rfl, rfl⟩; exact op_idx rfl rfl tS22j (Sl.ent (by first | exact Sl.app (by assumption) _ | exact Sl.app (Sl.app (by assumption) _) _)) (by omega)),
            ⟨.wanted rfl rfl rfl (by rintro _ _ ⟨rfl, rfl⟩; first | rfl | (exact congrArg Value.bool (decide_eq_true (by omega))) | (exact congrArg Value.bool (decide_eq_false (by omega))) | (simp; done) | (simp; omega) | (simp [*]; done)) (by intro X; rintro _ _ ⟨rfl, rfl⟩; exact op_ldx rfl tO3j (by first | exact Sl.app (by assumption) _ | exact Sl.app (Sl.app (by assumption) _) _) (by assumption) (by rfl)),
            ⟨.wanted rfl rfl rfl (by rintro _ _ ⟨rfl, rfl⟩; first | rfl | (exact congrArg Value.bool (decide_eq_true (by omega))) | (exact congrArg Value.bool (decide_eq_false (by omega))) | (simp; done) | (simp; omega) | (simp [*]; done)) (by intro X; rintro _ _ ⟨rfl, rfl⟩ _ _ ⟨rfl, rfl⟩; exact op_gtr rfl rfl),
            ⟨.plain rfl (by intro X; rintro _ _ ⟨rfl, rfl⟩ _ _ ⟨rfl, rfl⟩; exact op_pick_t (by first | rfl | (show some (Value.bool (decide _)) = _; rw [decide_eq_true (by omega)]) | (show some (Value.bool (decide _)) = _; rw [decide_eq_false (by omega)]) | (simp [ev, lk]; done) | (simp [ev, lk]; omega) | (simp [ev, lk, *]; done)) rfl),
            trivial⟩⟩⟩⟩⟩⟩⟩⟩⟩⟩⟩⟩⟩⟩ ?_
        rintro _ _ ⟨rfl, rfl⟩ _ _ ⟨rfl, rfl⟩ _ _ ⟨rfl, rfl⟩ _ _ ⟨rfl, rfl⟩ _ _ ⟨rfl, rfl⟩ _ _ ⟨rfl, rfl⟩ _ _ ⟨rfl, rfl⟩ _ _ ⟨rfl, rfl⟩ _ _ ⟨rfl, rfl⟩ _ _ ⟨rfl, rfl⟩ _ _ ⟨rfl, rfl⟩ _ _ ⟨rfl, rfl⟩ _ _ ⟨rfl, rfl⟩ _ _ ⟨rfl, rfl⟩
        refine wl_norm (e' := [(0, _), (3, _), (4, _), (5, _), (27, _)]) (.cons rfl (.cons rfl (.cons rfl (.cons rfl (.cons rfl (.nil _)))))) (by dsimp only [cond_false, cond_true, List.nil_append, List.cons_append]) ?_
        refine wl_nil ?_
        refine st_tn ?_
        exact cut_done1 [3] hK rfl (by first | (rw [decide_eq_decide]; omega) | (symm; rw [decide_eq_false_iff_not]; omega) | (symm; rw [decide_eq_true_iff]; omega) | (simp; done) | (simp; omega) | (simp [*]; done) | (simp [*]; omega)) (by rfl) rfl rfl
      · -- hq False
        refine w_draw (D := [⟨14, [], [], [], _, false, [], []⟩, ⟨15, [0], [], [], _, false, [], []⟩, ⟨16, [1], [], [], _, false, [], []⟩, ⟨17, [], [], [], Det undef, false, [], []⟩, ⟨18, [], [], [], Det undef, false, [], []⟩, ⟨19, [], [], [], Det undef, false, [], []⟩, ⟨20, [], [], [], Det undef, false, [], []⟩, ⟨21, [], [], [], Det undef, false, [], []⟩, ⟨22, [], [], [], Det undef, false, [], []⟩, ⟨23, [], [], [], Det undef, false, [], []⟩, ⟨24, [], [], [], Det undef, false, [], []⟩, ⟨25, [], [], [], Det undef, false, [], []⟩, ⟨26, [], [], [], Det undef, false, [], []⟩, ⟨27, [2, 12], [], [], _, false, [], []⟩]) [] [5, 3, 0, 4] [⟨14, [], [], false, [], []⟩, ⟨15, [0], [], false, [], []⟩, ⟨16, [1], [], false, [], []⟩, ⟨17, [], [], false, [], []⟩, ⟨18, [], [], false, [], []⟩, ⟨19, [], [], false, [], []⟩, ⟨20, [], [], false, [], []⟩, ⟨21, [], [], false, [], []⟩, ⟨22, [], [], false, [], []⟩, ⟨23, [], [], false, [], []⟩, ⟨24, [], [], false, [], []⟩, ⟨25, [], [], false, [], []⟩, ⟨26, [], [], false, [], []⟩, ⟨27, [2, 12], [], false, [], []⟩] tMixj (by rfl) (by kernel_rfl) (by rfl) (by rfl)
            ⟨.plain rfl (by intro X; exact op_move rfl),
            ⟨.plain rfl (by intro X; rintro _ _ ⟨rfl, rfl⟩; exact op_gtr rfl rfl),
            ⟨.plain rfl (by intro X; rintro _ _ ⟨rfl, rfl⟩; exact op_move rfl),
            ⟨.unwanted rfl rfl rfl (by rintro _ _ ⟨rfl, rfl⟩; exact congrArg (offB true) (by first | rfl | (exact congrArg Value.bool (decide_eq_true (by omega))) | (exact congrArg Value.bool (decide_eq_false (by omega))) | (simp; done) | (simp; omega) | (simp [*]; done) : _ = Value.bool false)) ⟨rfl, rfl⟩ rfl rfl,
            ⟨.unwanted rfl rfl rfl (by rintro _ _ ⟨rfl, rfl⟩; exact congrArg (offB true) (by first | rfl | (exact congrArg Value.bool (decide_eq_true (by omega))) | (exact congrArg Value.bool (decide_eq_false (by omega))) | (simp; done) | (simp; omega) | (simp [*]; done) : _ = Value.bool false)) ⟨rfl, rfl⟩ rfl rfl,
            ⟨.unwanted rfl rfl rfl (by rintro _ _ ⟨rfl, rfl⟩; exact congrArg (offB true) (by first | rfl | (exact congrArg Value.bool (decide_eq_true (by omega))) | (exact congrArg Value.bool (decide_eq_false (by omega))) | (simp; done) | (simp; omega) | (simp [*]; done) : _ = Value.bool false)) ⟨rfl, rfl⟩ rfl rfl,
            ⟨.unwanted rfl rfl rfl (by rintro _ _ ⟨rfl, rfl⟩; exact congrArg (offB true) (by first | rfl | (exact congrArg Value.bool (decide_eq_true (by omega))) | (exact congrArg Value.bool (decide_eq_false (by omega))) | (simp; done) | (simp; omega) | (simp [*]; done) : _ = Value.bool false)) ⟨rfl, rfl⟩ rfl rfl,
            ⟨.unwanted rfl rfl rfl (by rintro _ _ ⟨rfl, rfl⟩; exact congrArg (offB true) (by first | rfl | (exact congrArg Value.bool (decide_eq_true (by omega))) | (exact congrArg Value.bool (decide_eq_false (by omega))) | (simp; done) | (simp; omega) | (simp [*]; done) : _ = Value.bool false)) ⟨rfl, rfl⟩ rfl rfl,
            ⟨.unwanted rfl rfl rfl (by rintro _ _ ⟨rfl, rfl⟩; exact congrArg (offB true) (by first | rfl | (exact congrArg Value.bool (decide_eq_true (by omega))) | (exact congrArg Value.bool (decide_eq_false (by omega))) | (simp; done) | (simp; omega) | (simp [*]; done) : _ = Value.bool false)) ⟨rfl, rfl⟩ rfl rfl,
            ⟨.unwanted rfl rfl rfl (by rintro _ _ ⟨rfl, rfl⟩; exact congrArg (offB true) (by first | rfl | (exact congrArg Value.bool (decide_eq_true (by omega))) | (exact congrArg Value.bool (decide_eq_false (by omega))) | (simp; done) | (simp; omega) | (simp [*]; done) : _ = Value.bool false)) ⟨rfl, rfl⟩ rfl rfl,
            ⟨.unwanted rfl rfl rfl (by rintro _ _ ⟨rfl, rfl⟩; exact congrArg (offB true) (by first | rfl | (exact congrArg Value.bool (decide_eq_true (by omega))) | (exact congrArg Value.bool (decide_eq_false (by omega))) | (simp; done) | (simp; omega) | (simp [*]; done) : _ = Value.bool false)) ⟨rfl, rfl⟩ rfl rfl,
            ⟨.unwanted rfl rfl rfl (by rintro _ _ ⟨rfl, rfl⟩; exact congrArg (offB true) (by first | rfl | (exact congrArg Value.bool (decide_eq_true (by omega))) | (exact congrArg Value.bool (decide_eq_false (by omega))) | (simp; done) | (simp; omega) | (simp [*]; done) : _ = Value.bool false)) ⟨rfl, rfl⟩ rfl rfl,
            ⟨.unwanted rfl rfl rfl (by rintro _ _ ⟨rfl, rfl⟩; exact congrArg (offB true) (by first | rfl | (exact congrArg Value.bool (decide_eq_true (by omega))) | (exact congrArg Value.bool (decide_eq_false (by omega))) | (simp; done) | (simp; omega) | (simp [*]; done) : _ = Value.bool false)) ⟨rfl, rfl⟩ rfl rfl,
            ⟨.plain rfl (by intro X; rintro _ _ ⟨rfl, rfl⟩ _ _ ⟨rfl, rfl⟩; exact op_pick_f (by first | rfl | (show some (Value.bool (decide _)) = _; rw [decide_eq_true (by omega)]) | (show some (Value.bool (decide _)) = _; rw [decide_eq_false (by omega)]) | (simp [ev, lk]; done) | (simp [ev, lk]; omega) | (simp [ev, lk, *]; done)) rfl),
            trivial⟩⟩⟩⟩⟩⟩⟩⟩⟩⟩⟩⟩⟩⟩ ?_
        rintro _ _ ⟨rfl, rfl⟩ _ _ ⟨rfl, rfl⟩ _ _ ⟨rfl, rfl⟩ _ _ ⟨rfl, rfl⟩ _ _ ⟨rfl, rfl⟩ _ _ ⟨rfl, rfl⟩ _ _ ⟨rfl, rfl⟩ _ _ ⟨rfl, rfl⟩ _ _ ⟨rfl, rfl⟩ _ _ ⟨rfl, rfl⟩ _ _ ⟨rfl, rfl⟩ _ _ ⟨rfl, rfl⟩ _ _ ⟨rfl, rfl⟩ _ _ ⟨rfl, rfl⟩
        refine wl_norm (e' := [(0, _), (3, _), (4, _), (5, _), (27, _)]) (.cons rfl (.cons rfl (.cons rfl (.cons rfl (.cons rfl (.nil _)))))) (by dsimp only [cond_false, cond_true, List.nil_append, List.cons_append]) ?_
        refine wl_nil ?_
        refine st_tn ?_
        exact cut_done1 [3] hK rfl (by first | (rw [decide_eq_decide]; omega) | (symm; rw [decide_eq_false_iff_not]; omega) | (symm; rw [decide_eq_true_iff]; omega) | (simp; done) | (simp; omega) | (simp [*]; done) | (simp [*]; omega)) (by rfl) rfl rfl
    · -- behind r6
      show W _ _ _ _ _ [(27, _), (0, _), (3, _), (4, _), (5, _)] [(3, _)] _
      refine w_cond_d rfl (fun hc27 => ?_) (fun hc27 => ?_)
      · -- c27.t
        obtain ⟨z, hz⟩ := getE (l := S) (i := j - 1) (by omega)
        have hgd : S.getD (j - 1) 0 = z := by rw [List.getD_eq_getElem?_getD, hz]; rfl
        rw [hgd] at hc27
        have hj0 := hc27.1
        replace hc27 := hc27.2
        refine w_skip ?_
        refine st_tn ?_
        refine w_block ?_
        refine w_region ?_
        refine wl_det rfl rfl rfl (op_move rfl) ?_
        refine wl_det rfl rfl rfl (op_sub' rfl rfl (by omega)) ?_
        refine wl_det rfl rfl rfl (op_assign rfl) ?_
        refine wl_nil ?_
        refine st_bn ?_
        refine st_roundK (x := j) (j - 1) [3] (⟨by omega, fun x hx => by rw [List.drop_eq_getElem_cons (by omega : j - 1 < S.length)] at hx; rcases List.mem_cons.1 hx with rfl | hx; (· have := (List.getElem?_eq_some_iff.1 hz).2; rw [this]; exact hc27); (· rw [show j - 1 + 1 = j by omega] at hx; exact hgt x hx)⟩) (by omega) (.cons (by rw [show (((j - 1 : Nat) : Int)) = (j : Int) - 1 by omega]; rfl) (.nil _)) (.cons rfl (.cons rfl (.cons rfl (.nil _)))) rfl (rfl) 
      · -- c27.f
        refine w_exit ?_
        refine st_te ?_
        refine st_te ?_
        refine st_be ?_
        refine st_tn ?_
        refine w_seq ?_
        refine w_seq ?_
        refine w_cutL [(43, .bool (decide (0 < (j : Int) ∧ S.getD (j - 1) 0 = y)))] [0, 3, 4, 5] [3] rfl (fun K' hK => ?_) ?_
        · -- cut r8
          by_cases hq : (0 : Int) < (j : Int)
          · -- hq True
            obtain ⟨z, hz⟩ := getE (l := S) (i := j - 1) (by omega)
            have hz' : S[((j : Int) - 1).toNat]? = some z := by rw [show ((j : Int) - 1).toNat = j - 1 by omega]; exact hz
            have hgd : S.getD (j - 1) 0 = z := by rw [List.getD_eq_getElem?_getD, hz]; rfl
            refine w_draw (D := [⟨30, [], [], [], _, false, [], []⟩, ⟨31, [0], [], [], _, false, [], []⟩, ⟨32, [1], [], [], _, false, [], []⟩, ⟨33, [], [], [], _, false, [], []⟩, ⟨34, [], [], [], _, false, [], []⟩, ⟨35, [4], [], [], _, false, [], []⟩, ⟨36, [3, 5], [], [], _, false, [], []⟩, ⟨37, [6], [], [], _, false, [], []⟩, ⟨38, [], [], [], _, false, [], []⟩, ⟨39, [], [], [], _, false, [], []⟩, ⟨40, [8, 9], [], [], _, false, [], []⟩, ⟨41, [10], [], [], _, false, [], []⟩, ⟨42, [7, 11], [], [], _, false, [], []⟩, ⟨43, [2, 12], [], [], _, false, [], []⟩]) [] [5, 3, 0, 4] [⟨30, [], [], false, [], []⟩, ⟨31, [0], [], false, [], []⟩, ⟨32, [1], [], false, [], []⟩, ⟨33, [], [], false, [], []⟩, ⟨34, [], [], false, [], []⟩, ⟨35, [4], [], false, [], []⟩, ⟨36, [3, 5], [], false, [], []⟩, ⟨37, [6], [], false, [], []⟩, ⟨38, [], [], false, [], []⟩, ⟨39, [], [], false, [], []⟩, ⟨40, [8, 9], [], false, [], []⟩, ⟨41, [10], [], false, [], []⟩, ⟨42, [7, 11], [], false, [], []⟩, ⟨43, [2, 12], [], false, [], []⟩] tMixj (by rfl) (by kernel_rfl) (by rfl) (by rfl)
                ⟨.plain rfl (by intro X; exact op_move rfl),
                ⟨.plain rfl (by intro X; rintro _ _ ⟨rfl, rfl⟩; exact op_gtr rfl rfl),
                ⟨.plain rfl (by intro X; rintro _ _ ⟨rfl, rfl⟩; exact op_move rfl),
                ⟨.wanted rfl rfl rfl (by rintro _ _ ⟨rfl, rfl⟩; first | rfl | (exact congrArg Value.bool (decide_eq_true (by omega))) | (exact congrArg Value.bool (decide_eq_false (by omega))) | (simp; done) | (simp; omega) | (simp [*]; done)) (by intro X; exact op_move rfl),
                ⟨.wanted rfl rfl rfl (by rintro _ _ ⟨rfl, rfl⟩; first | rfl | (exact congrArg Value.bool (decide_eq_true (by omega))) | (exact congrArg Value.bool (decide_eq_false (by omega))) | (simp; done) | (simp; omega) | (simp [*]; done)) (by intro X; exact op_move rfl),
                ⟨.wanted rfl rfl rfl (by rintro _ _ ⟨rfl, rfl⟩; first | rfl | (exact congrArg Value.bool (decide_eq_true (by omega))) | (exact congrArg Value.bool (decide_eq_false (by omega))) | (simp; done) | (simp; omega) | (simp [*]; done)) (by intro X; rintro _ _ ⟨rfl, rfl⟩; exact op_sub' rfl rfl (by omega)),
                ⟨.wanted rfl rfl rfl (by rintro _ _ ⟨rfl, rfl⟩; first | rfl | (exact congrArg Value.bool (decide_eq_true (by omega))) | (exact congrArg Value.bool (decide_eq_false (by omega))) | (simp; done) | (simp; omega) | (simp [*]; done)) (by intro X; rintro _ _ ⟨rfl, rfl⟩ _ _ ⟨rfl, rfl⟩; exact op_idxZ rfl rfl tS22j (Sl.ent (Sl.lab 3 rfl (by unfold maxLen; omega))) (by omega) (by omega)),
                ⟨.wanted rfl rfl rfl (by rintro _ _ ⟨rfl, rfl⟩; first | rfl | (exact congrArg Value.bool (decide_eq_true (by omega))) | (exact congrArg Value.bool (decide_eq_false (by omega))) | (simp; done) | (simp; omega) | (simp [*]; done)) (by intro X; rintro _ _ ⟨rfl, rfl⟩; exact op_ldx rfl tO3j (Sl.lab 3 rfl (by unfold maxLen; omega)) (by assumption) (by rfl)),
                ⟨.wanted rfl rfl rfl (by rintro _ _ ⟨rfl, rfl⟩; first | rfl | (exact congrArg Value.bool (decide_eq_true (by omega))) | (exact congrArg Value.bool (decide_eq_false (by omega))) | (simp; done) | (simp; omega) | (simp [*]; done)) (by intro X; exact op_move rfl),
                ⟨.wanted rfl rfl rfl (by rintro _ _ ⟨rfl, rfl⟩; first | rfl | (exact congrArg Value.bool (decide_eq_true (by omega))) | (exact congrArg Value.bool (decide_eq_false (by omega))) | (simp; done) | (simp; omega) | (simp [*]; done)) (by intro X; exact op_move rfl),
                ⟨.wanted rfl rfl rfl (by rintro _ _ ⟨rfl, rfl⟩; first | rfl | (exact congrArg Value.bool (decide_eq_true (by omega))) | (exact congrArg Value.bool (decide_eq_false (by omega))) | (simp; done) | (simp; omega) | (simp [*]; done)) (by intro X; rintro _ _ ⟨rfl, rfl⟩ _ _ ⟨rfl, rfl⟩; exact op_idx rfl rfl tS22j (Sl.ent (by first | exact Sl.app (by assumption) _ | exact Sl.app (Sl.app (by assumption) _) _)) (by omega)),
                ⟨.wanted rfl rfl rfl (by rintro _ _ ⟨rfl, rfl⟩; first | rfl | (exact congrArg Value.bool (decide_eq_true (by omega))) | (exact congrArg Value.bool (decide_eq_false (by omega))) | (simp; done) | (simp; omega) | (simp [*]; done)) (by intro X; rintro _ _ ⟨rfl, rfl⟩; exact op_ldx rfl tO3j (by first | exact Sl.app (by assumption) _ | exact Sl.app (Sl.app (by assumption) _) _) (by assumption) (by rfl)),
                ⟨.wanted rfl rfl rfl (by rintro _ _ ⟨rfl, rfl⟩; first | rfl | (exact congrArg Value.bool (decide_eq_true (by omega))) | (exact congrArg Value.bool (decide_eq_false (by omega))) | (simp; done) | (simp; omega) | (simp [*]; done)) (by intro X; rintro _ _ ⟨rfl, rfl⟩ _ _ ⟨rfl, rfl⟩; exact op_eql rfl rfl),
                ⟨.plain rfl (by intro X; rintro _ _ ⟨rfl, rfl⟩ _ _ ⟨rfl, rfl⟩; exact op_pick_t (by first | rfl | (show some (Value.bool (decide _)) = _; rw [decide_eq_true (by omega)]) | (show some (Value.bool (decide _)) = _; rw [decide_eq_false (by omega)]) | (simp [ev, lk]; done) | (simp [ev, lk]; omega) | (simp [ev, lk, *]; done)) rfl),
                trivial⟩⟩⟩⟩⟩⟩⟩⟩⟩⟩⟩⟩⟩⟩ ?_
            rintro _ _ ⟨rfl, rfl⟩ _ _ ⟨rfl, rfl⟩ _ _ ⟨rfl, rfl⟩ _ _ ⟨rfl, rfl⟩ _ _ ⟨rfl, rfl⟩ _ _ ⟨rfl, rfl⟩ _ _ ⟨rfl, rfl⟩ _ _ ⟨rfl, rfl⟩ _ _ ⟨rfl, rfl⟩ _ _ ⟨rfl, rfl⟩ _ _ ⟨rfl, rfl⟩ _ _ ⟨rfl, rfl⟩ _ _ ⟨rfl, rfl⟩ _ _ ⟨rfl, rfl⟩
            refine wl_norm (e' := [(0, _), (3, _), (4, _), (5, _), (43, _)]) (.cons rfl (.cons rfl (.cons rfl (.cons rfl (.cons rfl (.nil _)))))) (by dsimp only [cond_false, cond_true, List.nil_append, List.cons_append]) ?_
            refine wl_nil ?_
            refine st_tn ?_
            exact cut_done1 [3] hK rfl (by first | (rw [decide_eq_decide]; omega) | (symm; rw [decide_eq_false_iff_not]; omega) | (symm; rw [decide_eq_true_iff]; omega) | (simp; done) | (simp; omega) | (simp [*]; done) | (simp [*]; omega)) (by rfl) rfl rfl
          · -- hq False
            refine w_draw (D := [⟨30, [], [], [], _, false, [], []⟩, ⟨31, [0], [], [], _, false, [], []⟩, ⟨32, [1], [], [], _, false, [], []⟩, ⟨33, [], [], [], Det undef, false, [], []⟩, ⟨34, [], [], [], Det undef, false, [], []⟩, ⟨35, [], [], [], Det undef, false, [], []⟩, ⟨36, [], [], [], Det undef, false, [], []⟩, ⟨37, [], [], [], Det undef, false, [], []⟩, ⟨38, [], [], [], Det undef, false, [], []⟩, ⟨39, [], [], [], Det undef, false, [], []⟩, ⟨40, [], [], [], Det undef, false, [], []⟩, ⟨41, [], [], [], Det undef, false, [], []⟩, ⟨42, [], [], [], Det undef, false, [], []⟩, ⟨43, [2, 12], [], [], _, false, [], []⟩]) [] [5, 3, 0, 4] [⟨30, [], [], false, [], []⟩, ⟨31, [0], [], false, [], []⟩, ⟨32, [1], [], false, [], []⟩, ⟨33, [], [], false, [], []⟩, ⟨34, [], [], false, [], []⟩, ⟨35, [], [], false, [], []⟩, ⟨36, [], [], false, [], []⟩, ⟨37, [], [], false, [], []⟩, ⟨38, [], [], false, [], []⟩, ⟨39, [], [], false, [], []⟩, ⟨40, [], [], false, [], []⟩, ⟨41, [], [], false, [], []⟩, ⟨42, [], [], false, [], []⟩, ⟨43, [2, 12], [], false, [], []⟩] tMixj (by rfl) (by kernel_rfl) (by rfl) (by rfl)
                ⟨.plain rfl (by intro X; exact op_move rfl),
                ⟨.plain rfl (by intro X; rintro _ _ ⟨rfl, rfl⟩; exact op_gtr rfl rfl),
                ⟨.plain rfl (by intro X; rintro _ _ ⟨rfl, rfl⟩; exact op_move rfl),
                ⟨.unwanted rfl rfl rfl (by rintro _ _ ⟨rfl, rfl⟩; exact congrArg (offB true) (by first | rfl | (exact congrArg Value.bool (decide_eq_true (by omega))) | (exact congrArg Value.bool (decide_eq_false (by omega))) | (simp; done) | (simp; omega) | (simp [*]; done) : _ = Value.bool false)) ⟨rfl, rfl⟩ rfl rfl,
                ⟨.unwanted rfl rfl rfl (by rintro _ _ ⟨rfl, rfl⟩; exact congrArg (offB true) (by first | rfl | (exact congrArg Value.bool (decide_eq_true (by omega))) | (exact congrArg Value.bool (decide_eq_false (by omega))) | (simp; done) | (simp; omega) | (simp [*]; done) : _ = Value.bool false)) ⟨rfl, rfl⟩ rfl rfl,
                ⟨.unwanted rfl rfl rfl (by rintro _ _ ⟨rfl, rfl⟩; exact congrArg (offB true) (by first | rfl | (exact congrArg Value.bool (decide_eq_true (by omega))) | (exact congrArg Value.bool (decide_eq_false (by omega))) | (simp; done) | (simp; omega) | (simp [*]; done) : _ = Value.bool false)) ⟨rfl, rfl⟩ rfl rfl,
                ⟨.unwanted rfl rfl rfl (by rintro _ _ ⟨rfl, rfl⟩; exact congrArg (offB true) (by first | rfl | (exact congrArg Value.bool (decide_eq_true (by omega))) | (exact congrArg Value.bool (decide_eq_false (by omega))) | (simp; done) | (simp; omega) | (simp [*]; done) : _ = Value.bool false)) ⟨rfl, rfl⟩ rfl rfl,
                ⟨.unwanted rfl rfl rfl (by rintro _ _ ⟨rfl, rfl⟩; exact congrArg (offB true) (by first | rfl | (exact congrArg Value.bool (decide_eq_true (by omega))) | (exact congrArg Value.bool (decide_eq_false (by omega))) | (simp; done) | (simp; omega) | (simp [*]; done) : _ = Value.bool false)) ⟨rfl, rfl⟩ rfl rfl,
                ⟨.unwanted rfl rfl rfl (by rintro _ _ ⟨rfl, rfl⟩; exact congrArg (offB true) (by first | rfl | (exact congrArg Value.bool (decide_eq_true (by omega))) | (exact congrArg Value.bool (decide_eq_false (by omega))) | (simp; done) | (simp; omega) | (simp [*]; done) : _ = Value.bool false)) ⟨rfl, rfl⟩ rfl rfl,
                ⟨.unwanted rfl rfl rfl (by rintro _ _ ⟨rfl, rfl⟩; exact congrArg (offB true) (by first | rfl | (exact congrArg Value.bool (decide_eq_true (by omega))) | (exact congrArg Value.bool (decide_eq_false (by omega))) | (simp; done) | (simp; omega) | (simp [*]; done) : _ = Value.bool false)) ⟨rfl, rfl⟩ rfl rfl,
                ⟨.unwanted rfl rfl rfl (by rintro _ _ ⟨rfl, rfl⟩; exact congrArg (offB true) (by first | rfl | (exact congrArg Value.bool (decide_eq_true (by omega))) | (exact congrArg Value.bool (decide_eq_false (by omega))) | (simp; done) | (simp; omega) | (simp [*]; done) : _ = Value.bool false)) ⟨rfl, rfl⟩ rfl rfl,
                ⟨.unwanted rfl rfl rfl (by rintro _ _ ⟨rfl, rfl⟩; exact congrArg (offB true) (by first | rfl | (exact congrArg Value.bool (decide_eq_true (by omega))) | (exact congrArg Value.bool (decide_eq_false (by omega))) | (simp; done) | (simp; omega) | (simp [*]; done) : _ = Value.bool false)) ⟨rfl, rfl⟩ rfl rfl,
                ⟨.unwanted rfl rfl rfl (by rintro _ _ ⟨rfl, rfl⟩; exact congrArg (offB true) (by first | rfl | (exact congrArg Value.bool (decide_eq_true (by omega))) | (exact congrArg Value.bool (decide_eq_false (by omega))) | (simp; done) | (simp; omega) | (simp [*]; done) : _ = Value.bool false)) ⟨rfl, rfl⟩ rfl rfl,
                ⟨.plain rfl (by intro X; rintro _ _ ⟨rfl, rfl⟩ _ _ ⟨rfl, rfl⟩; exact op_pick_f (by first | rfl | (show some (Value.bool (decide _)) = _; rw [decide_eq_true (by omega)]) | (show some (Value.bool (decide _)) = _; rw [decide_eq_false (by omega)]) | (simp [ev, lk]; done) | (simp [ev, lk]; omega) | (simp [ev, lk, *]; done)) rfl),
                trivial⟩⟩⟩⟩⟩⟩⟩⟩⟩⟩⟩⟩⟩⟩ ?_
            rintro _ _ ⟨rfl, rfl⟩ _ _ ⟨rfl, rfl⟩ _ _ ⟨rfl, rfl⟩ _ _ ⟨rfl, rfl⟩ _ _ ⟨rfl, rfl⟩ _ _ ⟨rfl, rfl⟩ _ _ ⟨rfl, rfl⟩ _ _ ⟨rfl, rfl⟩ _ _ ⟨rfl, rfl⟩ _ _ ⟨rfl, rfl⟩ _ _ ⟨rfl, rfl⟩ _ _ ⟨rfl, rfl⟩ _ _ ⟨rfl, rfl⟩ _ _ ⟨rfl, rfl⟩
            refine wl_norm (e' := [(0, _), (3, _), (4, _), (5, _), (43, _)]) (.cons rfl (.cons rfl (.cons rfl (.cons rfl (.cons rfl (.nil _)))))) (by dsimp only [cond_false, cond_true, List.nil_append, List.cons_append]) ?_
            refine wl_nil ?_
            refine st_tn ?_
            exact cut_done1 [3] hK rfl (by first | (rw [decide_eq_decide]; omega) | (symm; rw [decide_eq_false_iff_not]; omega) | (symm; rw [decide_eq_true_iff]; omega) | (simp; done) | (simp; omega) | (simp [*]; done) | (simp [*]; omega)) (by rfl) rfl rfl
        · -- behind r8
          show W _ _ _ _ _ [(43, _), (0, _), (3, _), (4, _), (5, _)] [(3, _)] _
          refine w_cond_d rfl (fun hc43 => ?_) (fun hc43 => ?_)
          · -- c43.t
            have hts : srtU (l.take (i + 1)) = S := by
              obtain ⟨z, hz⟩ := getE (l := S) (i := j - 1) (by omega)
              have hgd : S.getD (j - 1) 0 = z := by rw [List.getD_eq_getElem?_getD, hz]; rfl
              have hyS : y ∈ S := by rw [← hc43.2, hgd]; exact List.mem_of_getElem? hz
              refine srtU_eq hss fun x => ?_
              rw [take_snoc hy, List.mem_append, hsm]
              refine ⟨.inl, fun h => h.elim id fun h => ?_⟩
              rw [List.mem_singleton] at h; subst h; exact (hsm _).1 hyS
            refine w_exit ?_
            refine st_te ?_
            refine st_be ?_
            refine st_tn ?_
            refine w_region ?_
            refine wl_det rfl rfl rfl (op_move rfl) ?_
            refine wl_det rfl rfl rfl (op_add' rfl rfl (by omega)) ?_
            refine wl_det rfl rfl rfl (op_assign rfl) ?_
            refine wl_nil ?_
            refine st_roundK (x := (i, a3, c3)) ((i + 1, a3, c3)) [3] (by show i + 1 ≤ _; omega) (by show l.length - (i + 1) < l.length - i; omega) (.cons (by rw [hts]; rfl) (.cons rfl (.nil _))) (.cons rfl (.nil _)) rfl (by rw [hts]; rfl) 
          · -- c43.f
            have hlo : ∀ x ∈ S.take j, x < y := by
              intro x hx
              rcases Nat.eq_zero_or_pos j with h0 | h0
              · subst h0; simp at hx
              · obtain ⟨z, hz⟩ := getE (l := S) (i := j - 1) (by omega)
                have hgd : S.getD (j - 1) 0 = z := by rw [List.getD_eq_getElem?_getD, hz]; rfl
                rw [hgd] at hc43 hc27
                have hzy : z < y := by omega
                have hsn := take_snoc hz
                rw [show j - 1 + 1 = j by omega] at hsn
                rw [hsn] at hx
                rcases List.mem_append.1 hx with hx | hx
                · have hp := (hss.sublist (List.take_sublist j S)); rw [hsn] at hp
                  have := (List.pairwise_append.1 hp).2.2 x hx z (by simp); omega
                · rw [List.mem_singleton] at hx; omega
            have hts : srtU (l.take (i + 1)) = [] ++ List.drop 0 (S.take j) ++ [y] ++ List.drop j (S.take S.length) := by
              rw [List.drop_zero, List.nil_append, List.take_length]
              refine srtU_eq ?_ fun x => ?_
              · show List.Pairwise _ _
                rw [List.append_assoc, List.pairwise_append]
                refine ⟨hss.sublist (List.take_sublist _ _), ?_, ?_⟩
                · rw [List.singleton_append, List.pairwise_cons]; exact ⟨hgt, hss.sublist (List.drop_sublist _ _)⟩
                · intro u hu v hv
                  have h1 := hlo u hu
                  rcases List.mem_append.1 hv with h | h
                  · rw [List.mem_singleton] at h; omega
                  · have := hgt v h; omega
              · rw [take_snoc hy, List.mem_append, List.mem_append, List.mem_append, ← hsm]
                have : x ∈ S ↔ x ∈ S.take j ∨ x ∈ S.drop j := by rw [← List.mem_append, List.take_append_drop]
                rw [this, List.mem_singleton]
                constructor
                · rintro ((h | h) | h)
                  · exact .inl (.inl h)
                  · exact .inr h
                  · exact .inl (.inr h)
                · rintro ((h | h) | h)
                  · exact .inl (.inl h)
                  · exact .inr h
                  · exact .inl (.inr h)
            have hl1 : (List.drop 0 (S.take j)).length = j := by simp; omega
            have hl2 : (List.drop j (S.take S.length)).length = S.length - j := by simp
            refine w_skip ?_
            refine st_tn ?_
            refine w_draw (D := [⟨44, [], [], [], _, true, [], []⟩, ⟨45, [], [], [], _, false, [], []⟩, ⟨46, [], [], [], _, false, [], []⟩, ⟨47, [1, 2], [], [], _, false, [], []⟩, ⟨48, [3], [0], [], _, true, [], []⟩, ⟨49, [], [], [], _, false, [], []⟩, ⟨50, [], [], [], _, false, [], []⟩, ⟨51, [5, 6], [], [], _, false, [], []⟩, ⟨52, [7], [], [], _, false, [], []⟩, ⟨53, [8], [], [], _, false, [], []⟩, ⟨54, [9], [4], [], _, false, [], []⟩, ⟨55, [], [], [], _, false, [], []⟩, ⟨56, [], [], [], _, false, [], []⟩, ⟨57, [11, 12], [], [], _, false, [], []⟩]) [] [3, 5, 0, 4] [⟨44, [], [], true, [], []⟩, ⟨45, [], [], false, [], []⟩, ⟨46, [], [], false, [], []⟩, ⟨47, [1, 2], [], false, [], []⟩, ⟨48, [3], [0], true, [], []⟩, ⟨49, [], [], false, [], []⟩, ⟨50, [], [], false, [], []⟩, ⟨51, [5, 6], [], false, [], []⟩, ⟨52, [7], [], false, [], []⟩, ⟨53, [8], [], false, [], []⟩, ⟨54, [9], [4], false, [], []⟩, ⟨55, [], [], false, [], []⟩, ⟨56, [], [], false, [], []⟩, ⟨57, [11, 12], [], false, [], []⟩] tMixj (by rfl) (by kernel_rfl) (by rfl) (by rfl)
                ⟨.plain rfl (by intro X; exact op_lit0 (enc := SL.encZ) (lab := 44) tS22j),
                ⟨.plain rfl (by intro X; exact op_move rfl),
                ⟨.plain rfl (by intro X; exact op_move rfl),
                ⟨.plain rfl (by intro X; rintro _ _ ⟨rfl, rfl⟩ _ _ ⟨rfl, rfl⟩; exact op_sliceR rfl rfl tS22j (Sl.lab 3 rfl (by unfold maxLen; omega)) (by omega)),
                ⟨.plain rfl (by intro X; rintro _ _ ⟨rfl, rfl⟩ _ _ ⟨a44, c44, rfl, rfl⟩; show OpT _ _ _ _ _ _ [(_, _)] _; exact op_append (lab := 44) (lab' := 48) rfl rfl tP22j SL.enc1Z (Sl.sub (Sl.lab 3 rfl (by unfold maxLen; omega)) (Nat.zero_le _) hj) (by first | omega | (simp; omega) | (simp [*]; omega)) (by first | omega | (simp; omega) | (simp [*]; omega))),
                ⟨.plain rfl (by intro X; exact op_move rfl),
                ⟨.plain rfl (by intro X; exact op_move rfl),
                ⟨.plain rfl (by intro X; rintro _ _ ⟨rfl, rfl⟩ _ _ ⟨rfl, rfl⟩; exact op_idx rfl rfl tS22j (Sl.ent (by first | exact Sl.app (by assumption) _ | exact Sl.app (Sl.app (by assumption) _) _)) (by omega)),
                ⟨.plain rfl (by intro X; rintro _ _ ⟨rfl, rfl⟩; exact op_ldx rfl tO3j (by first | exact Sl.app (by assumption) _ | exact Sl.app (Sl.app (by assumption) _) _) (by assumption) (by rfl)),
                ⟨.plain rfl (by intro X; rintro _ _ ⟨rfl, rfl⟩; exact op_buildSlice (enc := SL.encZ) (l := [_]) (lab := 53) tL22_1j rfl rfl (fun _ => rfl) rfl),
                ⟨.plain rfl (by intro X; rintro _ _ ⟨a53, c53, rfl, rfl⟩ _ _ ⟨a48, c48, rfl, rfl⟩; show OpT _ _ _ _ _ _ [(_, _)] _; exact op_append (lab := 48) (lab' := 54) rfl rfl tP22j SL.enc1Z (Sl.lab 53 rfl (by simp [maxLen])) (by first | omega | (simp; omega) | (simp [*]; omega)) (by first | omega | (simp; omega) | (simp [*]; omega))),
                ⟨.plain rfl (by intro X; exact op_move rfl),
                ⟨.plain rfl (by intro X; exact op_move rfl),
                ⟨.plain rfl (by intro X; rintro _ _ ⟨rfl, rfl⟩ _ _ ⟨rfl, rfl⟩; exact op_sliceL rfl rfl tS22j (Sl.lab 3 rfl (by unfold maxLen; omega)) (by omega)),
                trivial⟩⟩⟩⟩⟩⟩⟩⟩⟩⟩⟩⟩⟩⟩ ?_
            rintro _ _ ⟨a44, c44, rfl, rfl⟩ _ _ ⟨rfl, rfl⟩ _ _ ⟨rfl, rfl⟩ _ _ ⟨rfl, rfl⟩ _ _ ⟨a48, c48, rfl, rfl⟩ _ _ ⟨rfl, rfl⟩ _ _ ⟨rfl, rfl⟩ _ _ ⟨rfl, rfl⟩ _ _ ⟨rfl, rfl⟩ _ _ ⟨a53, c53, rfl, rfl⟩ _ _ ⟨a54, c54, rfl, rfl⟩ _ _ ⟨rfl, rfl⟩ _ _ ⟨rfl, rfl⟩ _ _ ⟨rfl, rfl⟩
            refine wl_norm (e' := [(0, _), (4, _), (54, _), (57, _)]) (.cons rfl (.cons rfl (.cons rfl (.cons rfl (.nil _))))) (by dsimp only [cond_false, cond_true, List.nil_append, List.cons_append]) ?_
            refine wl_op [54] rfl rfl rfl rfl (op_append (lab := 54) (lab' := 58) rfl rfl tP22j SL.enc1Z (Sl.sub (Sl.lab 3 rfl (by unfold maxLen; omega)) hj (Nat.le_refl _)) (by first | omega | (simp; omega) | (simp [*]; omega)) (by first | omega | (simp; omega) | (simp [*]; omega))) ?_
            rintro _ _ ⟨a58, c58, rfl, rfl⟩
            refine wl_det rfl rfl rfl (op_assign rfl) ?_
            refine wl_nil ?_
            refine st_bn ?_
            refine st_tn ?_
            refine w_region ?_
            refine wl_det rfl rfl rfl (op_move rfl) ?_
            refine wl_det rfl rfl rfl (op_add' rfl rfl (by omega)) ?_
            refine wl_det rfl rfl rfl (op_assign rfl) ?_
            refine wl_nil ?_
            refine st_roundK (x := (i, a3, c3)) ((i + 1, a58, c58)) [58] (by show i + 1 ≤ _; omega) (by show l.length - (i + 1) < l.length - i; omega) (.cons (by rw [hts]; rfl) (.cons rfl (.nil _))) (.cons rfl (.nil _)) rfl (by rw [hts]; rfl) 
  · -- c9.f
    refine w_exit ?_
    refine st_te ?_
    refine st_te ?_
    refine st_be ?_
    refine st_tn ?_
    refine w_seq ?_
    refine w_region ?_
    refine wl_det rfl rfl rfl (op_move rfl) ?_
    refine wl_det rfl rfl rfl (op_assign rfl) ?_
    refine wl_nil ?_
    refine st_tn ?_
    refine w_ret ?_
    refine st_ret (vs := [_]) [3] Try.results17 ⟨rfl, trivial⟩ rfl ?_
    refine ⟨[(lab, _)], rfl, ?_⟩
    rw [take_all (by omega)]; exact ⟨_, _, rfl, rfl⟩

end Go.Proofs.Ytkknlfhncheflaa

