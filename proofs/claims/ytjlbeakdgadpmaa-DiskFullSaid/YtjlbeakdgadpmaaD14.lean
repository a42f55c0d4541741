/- Contracts: known (layer 26). Conditions: none. -/
import Derived.Test.YtjlbeakdgadpmaaD13
namespace Go.Proofs.Ytjlbeakdgadpmaa
open Go Go.SL Go.RowKit Go.DskM
set_option linter.unusedVariables false
set_option linter.unusedSimpArgs false
theorem tL41_1n : zerosB Try.prog 41 3 1 1 = some [Value.int .i64 0] := by kernel_rfl
theorem tO9n : oneB Try.prog 9 = true := by kernel_rfl
theorem tS48n : sliceB Try.prog 48 9 1 = true := by kernel_rfl

section
variable {σ : World} {F : List Res} {b m : Nat} {s s' : St} {l : Files}
theorem app_to {n d : Bs} {e : Int} (h : appO s n d = (e, s')) (hg : DskM.Good s) (hp : l.Perm s.fs) (hn : n.length ≤ maxLen) (hdl : d.length ≤ 1099511627776) :
    FnT Try.prog σ F 15 [.pointer (some ⟨b, 0, none⟩), .string (str n), .string (str d)] [(601, cel b (cellD s m) 65), (602, mp KL encF m l)] (fun u ρ => ∃ l', l'.Perm s'.fs ∧ u = .int .i64 e ∧ ρ = [(601, cel b (cellD s' m) 65), (602, mp KL encF m l')]) := by
  have := append_any (σ := σ) (F := F) (b := b) (m := m) n d hg hp hn hdl
  rw [h] at this; exact this
theorem syn_to {n : Bs} {e : Int} (h : synO s n = (e, s')) (hg : DskM.Good s) (hp : l.Perm s.fs) (hn : n.length ≤ maxLen) :
    FnT Try.prog σ F 21 [.pointer (some ⟨b, 0, none⟩), .string (str n)] [(601, cel b (cellD s m) 65), (602, mp KL encF m l)] (fun u ρ => ∃ l', l'.Perm s'.fs ∧ u = .int .i64 e ∧ ρ = [(601, cel b (cellD s' m) 65), (602, mp KL encF m l')]) := by
  have := sync_any (σ := σ) (F := F) (b := b) (m := m) n hg hp hn
  rw [h] at this; exact this
theorem ren_to {n o : Bs} {e : Int} (h : renO s n o = (e, s')) (hg : DskM.Good s) (hp : l.Perm s.fs) (hn : n.length ≤ maxLen) (ho : o.length ≤ maxLen) :
    FnT Try.prog σ F 22 [.pointer (some ⟨b, 0, none⟩), .string (str n), .string (str o)] [(601, cel b (cellD s m) 65), (602, mp KL encF m l)] (fun u ρ => ∃ l', l'.Perm s'.fs ∧ u = .int .i64 e ∧ ρ = [(601, cel b (cellD s' m) 65), (602, mp KL encF m l')]) := by
  have := rename_any (σ := σ) (F := F) (b := b) (m := m) n o hg hp hn ho
  rw [h] at this; exact this
theorem rem_to {n : Bs} {e : Int} (h : remO s n = (e, s')) (hg : DskM.Good s) (hp : l.Perm s.fs) (hn : n.length ≤ maxLen) :
    FnT Try.prog σ F 17 [.pointer (some ⟨b, 0, none⟩), .string (str n)] [(601, cel b (cellD s m) 65), (602, mp KL encF m l)] (fun u ρ => ∃ l', l'.Perm s'.fs ∧ u = .int .i64 e ∧ ρ = [(601, cel b (cellD s' m) 65), (602, mp KL encF m l')]) := by
  have := remove_any (σ := σ) (F := F) (b := b) (m := m) n hg hp hn
  rw [h] at this; exact this
theorem sta_to {a : Option Addr} {c : Nat} {sc : List Int} (h : staO s sc = s') (hg : DskM.Good s) (hp : l.Perm s.fs) (hsc : Sl σ F SL.encZ 1 (.slice a sc.length c) sc) :
    FnT Try.prog σ F 26 [.pointer (some ⟨b, 0, none⟩), .slice a sc.length c] [(601, cel b (cellD s m) 65), (602, mp KL encF m l)] (fun u ρ => ∃ l', l'.Perm s'.fs ∧ u = .tuple #[] ∧ ρ = [(601, cel b (cellD s' m) 65), (602, mp KL encF m l')]) := by
  have := start_any (σ := σ) (F := F) (b := b) (m := m) hg hp hsc
  rw [h] at this; exact this
theorem read_to {n v : Bs} {e : Int} (h : readO s n false = (v, e)) (hg : DskM.Good s) (hp : l.Perm s.fs) (hn : n.length ≤ maxLen) (hd : Ent σ F (At ⟨b, 0, none⟩ (cellD s m))) (hm' : Mr σ F KL encF (.map (some m)) l) :
    FnT Try.prog σ F 28 [.pointer (some ⟨b, 0, none⟩), .string (str n)] [] (fun u ρ => u = .tuple #[.string (str v), .int .i64 e] ∧ ρ = []) := by
  have := read_any (σ := σ) (F := F) (b := b) (m := m) n hg hp hn hd hm'
  rw [h] at this; exact this
theorem list_to {k : List Bs} (h : listO s = k) (lab : Nat) (hg : DskM.Good s) (hp : l.Perm s.fs) (hd : Ent σ F (At ⟨b, 0, none⟩ (cellD s m))) (hm' : Mr σ F KL encF (.map (some m)) l) :
    FnT Try.prog σ F 27 [.pointer (some ⟨b, 0, none⟩)] [] (fun u ρ => ∃ a c, u = .slice a k.length c ∧ ρ = [(lab, slW 9 encT 1 (.slice a k.length c) k)]) := by
  have := list_any (σ := σ) (F := F) (b := b) (m := m) lab hg hp hd hm'
  rw [h] at this; exact this
end
def k0 : St := newS 100
def k1 : St := ⟨100, [([97], ⟨[120, 121], 0, false⟩)], false, false, 0⟩
def k2 : St := ⟨100, [([97], ⟨[120, 121], 2, true⟩)], false, false, 0⟩
def k3 : St := ⟨100, [([97], ⟨[120, 121, 122, 119], 2, true⟩)], false, false, 0⟩
def k4 : St := ⟨100, [([97], ⟨[120, 121, 122, 119], 2, true⟩), ([98], ⟨[113], 0, false⟩)], false, false, 0⟩
def k6 : St := ⟨100, [([97], ⟨[120, 121, 122], 3, true⟩)], false, false, 0⟩
theorem e1 : appO k0 [97] [120, 121] = (0, k1) := by decide
theorem e2 : synO k1 [97] = (0, k2) := by decide
theorem e3 : appO k2 [97] [122, 119] = (0, k3) := by decide
theorem e4 : appO k3 [98] [113] = (0, k4) := by decide
theorem e6 : staO (craO k4) [1] = k6 := by decide
theorem e7 : readO k6 [97] false = ([120, 121, 122], 0) := by decide
theorem e8 : listO k6 = [[97]] := by decide
theorem g0 : DskM.Good k0 := good_new (by decide)
theorem g1 : DskM.Good k1 := by have := g0.app [97] [120, 121]; rwa [e1] at this
theorem g2 : DskM.Good k2 := by have := g1.syn_ [97]; rwa [e2] at this
theorem g3 : DskM.Good k3 := by have := g2.app [97] [122, 119]; rwa [e3] at this
theorem g4 : DskM.Good k4 := by have := g3.app [98] [113]; rwa [e4] at this
theorem g6 : DskM.Good k6 := by have := g4.cra.sta [1]; rwa [e6] at this
set_option maxHeartbeats 2000000 in
set_option maxRecDepth 100000 in
theorem known_any {σ : World} {F : List Res} : FnT Try.prog σ F 14 [] [] (fun u ρ => u = .bool true ∧ ρ = []) := by
  refine fn_of 61 Try.func14 rfl Try.ntmps14 rfl ?_
  refine w_seq ?_
  refine w_region ?_
  refine wl_det rfl rfl rfl (op_assign rfl) ?_
  refine wl_nil ?_
  refine st_tn ?_
  refine w_seq ?_
  refine w_region ?_
  refine wl_op [] rfl rfl rfl rfl (op_fn Try.func12 rfl rfl rfl (new_ok 100 601 602 (by decide))) ?_
  rintro _ _ ⟨b7, m7, rfl, rfl⟩
  refine wl_det rfl rfl rfl (op_move rfl) ?_
  refine wl_det rfl rfl rfl (op_extract rfl rfl) ?_
  refine wl_det rfl rfl rfl (op_extract rfl rfl) ?_
  refine wl_det rfl rfl rfl (op_assign rfl) ?_
  refine wl_det rfl rfl rfl (op_assign rfl) ?_
  refine wl_nil ?_
  refine st_tn ?_
  refine w_seq ?_
  refine w_seq ?_
  refine w_region ?_
  refine wl_det rfl rfl rfl (op_move rfl) ?_
  refine wl_det rfl rfl rfl (op_val (v' := .bool false) (by rfl) (op_neq rfl rfl)) ?_
  refine wl_det rfl rfl rfl (op_move rfl) ?_
  refine wl_wanted_det rfl rfl rfl rfl rfl rfl rfl (op_move rfl) ?_
  refine wl_wanted [601, 602] rfl rfl rfl rfl rfl rfl rfl rfl (op_fn Try.func15 rfl rfl rfl (app_to e1 g0 (List.Perm.refl _) (by decide) (by decide))) ?_
  rintro _ _ ⟨l14, hp14, rfl, rfl⟩
  refine wl_wanted_det rfl rfl rfl rfl rfl rfl rfl (op_val (v' := .bool false) (by rfl) (op_neq rfl rfl)) ?_
  refine wl_det rfl rfl rfl (op_pick_f rfl rfl) ?_
  refine wl_det rfl rfl rfl (op_move rfl) ?_
  refine wl_wanted_det rfl rfl rfl rfl rfl rfl rfl (op_move rfl) ?_
  refine wl_wanted [601, 602] rfl rfl rfl rfl rfl rfl rfl rfl (op_fn Try.func21 rfl rfl rfl (syn_to e2 g1 hp14 (by decide))) ?_
  rintro _ _ ⟨l19, hp19, rfl, rfl⟩
  refine wl_wanted_det rfl rfl rfl rfl rfl rfl rfl (op_val (v' := .bool false) (by rfl) (op_neq rfl rfl)) ?_
  refine wl_det rfl rfl rfl (op_pick_f rfl rfl) ?_
  refine wl_det rfl rfl rfl (op_move rfl) ?_
  refine wl_wanted_det rfl rfl rfl rfl rfl rfl rfl (op_move rfl) ?_
  refine wl_wanted [601, 602] rfl rfl rfl rfl rfl rfl rfl rfl (op_fn Try.func15 rfl rfl rfl (app_to e3 g2 hp19 (by decide) (by decide))) ?_
  rintro _ _ ⟨l24, hp24, rfl, rfl⟩
  refine wl_wanted_det rfl rfl rfl rfl rfl rfl rfl (op_val (v' := .bool false) (by rfl) (op_neq rfl rfl)) ?_
  refine wl_det rfl rfl rfl (op_pick_f rfl rfl) ?_
  refine wl_det rfl rfl rfl (op_move rfl) ?_
  refine wl_wanted_det rfl rfl rfl rfl rfl rfl rfl (op_move rfl) ?_
  refine wl_wanted [601, 602] rfl rfl rfl rfl rfl rfl rfl rfl (op_fn Try.func15 rfl rfl rfl (app_to e4 g3 hp24 (by decide) (by decide))) ?_
  rintro _ _ ⟨l29, hp29, rfl, rfl⟩
  refine wl_wanted_det rfl rfl rfl rfl rfl rfl rfl (op_val (v' := .bool false) (by rfl) (op_neq rfl rfl)) ?_
  refine wl_det rfl rfl rfl (op_pick_f rfl rfl) ?_
  refine wl_nil ?_
  refine st_tn ?_
  refine w_cond_f (rfl) ?_
  refine w_skip ?_
  refine st_tn ?_
  refine w_seq ?_
  refine w_region ?_
  refine wl_det rfl rfl rfl (op_move rfl) ?_
  refine wl_op [601] rfl rfl rfl rfl (op_fn Try.func25 rfl rfl rfl (crash_any k4)) ?_
  rintro _ _ ⟨rfl, rfl⟩
  refine wl_nil ?_
  refine st_tn ?_
  refine w_seq ?_
  refine w_region ?_
  refine wl_det rfl rfl rfl (op_move rfl) ?_
  refine wl_op [] rfl rfl rfl rfl (op_buildSlice (enc := SL.encZ) (l := [1]) (lab := 35) tL41_1n rfl rfl (fun _ => rfl) rfl) ?_
  rintro _ _ ⟨a35, c35, rfl, rfl⟩
  refine wl_op [601, 602] rfl rfl rfl rfl (op_fn Try.func26 rfl rfl rfl (sta_to (sc := [1]) e6 g4.cra hp29 (Sl.lab 35 rfl (by simp [maxLen])))) ?_
  rintro _ _ ⟨l36, hp36, rfl, rfl⟩
  refine wl_nil ?_
  refine st_tn ?_
  refine w_seq ?_
  refine w_region ?_
  refine wl_det rfl rfl rfl (op_move rfl) ?_
  refine wl_det rfl rfl rfl (op_fn Try.func28 rfl rfl rfl (read_to (m := m7) e7 g6 hp36 (by decide) (celD 601 rfl) (Mr.lab 602 rfl))) ?_
  refine wl_det rfl rfl rfl (op_move rfl) ?_
  refine wl_det rfl rfl rfl (op_extract rfl rfl) ?_
  refine wl_det rfl rfl rfl (op_extract rfl rfl) ?_
  refine wl_det rfl rfl rfl (op_assign rfl) ?_
  refine wl_det rfl rfl rfl (op_assign rfl) ?_
  refine wl_nil ?_
  refine st_tn ?_
  refine w_seq ?_
  refine w_region ?_
  refine wl_det rfl rfl rfl (op_move rfl) ?_
  refine wl_op [] rfl rfl rfl rfl (op_fn Try.func27 rfl rfl rfl (list_to (m := m7) e8 43 g6 hp36 (celD 601 rfl) (Mr.lab 602 rfl))) ?_
  rintro _ _ ⟨a43, c43, rfl, rfl⟩
  refine wl_det rfl rfl rfl (op_assign rfl) ?_
  refine wl_nil ?_
  refine st_tn ?_
  refine w_seq ?_
  refine w_region ?_
  refine wl_det rfl rfl rfl (op_move rfl) ?_
  refine wl_det rfl rfl rfl (op_val (v' := .bool true) (by simp) (op_eqBs rfl rfl)) ?_
  refine wl_det rfl rfl rfl (op_move rfl) ?_
  refine wl_wanted_det rfl rfl rfl rfl rfl rfl rfl (op_move rfl) ?_
  refine wl_wanted_det rfl rfl rfl rfl rfl rfl rfl (op_eql rfl rfl) ?_
  refine wl_det rfl rfl rfl (op_val (v' := .bool true) (by simp) (op_pick_t rfl rfl)) ?_
  refine wl_det rfl rfl rfl (op_move rfl) ?_
  refine wl_wanted_det rfl rfl rfl rfl rfl rfl rfl (op_move rfl) ?_
  refine wl_wanted_det rfl rfl rfl rfl rfl rfl rfl (op_lenT rfl tS48n (Sl.ent (Sl.lab 43 rfl (by simp [maxLen])))) ?_
  refine wl_wanted_det rfl rfl rfl rfl rfl rfl rfl (op_val (v' := .bool true) (by simp) (op_eql rfl rfl)) ?_
  refine wl_det rfl rfl rfl (op_pick_t rfl rfl) ?_
  refine wl_det rfl rfl rfl (op_move rfl) ?_
  refine wl_wanted_det rfl rfl rfl rfl rfl rfl rfl (op_move rfl) ?_
  refine wl_wanted_det rfl rfl rfl rfl rfl rfl rfl (op_idx (i := 0) rfl rfl tS48n (Sl.ent (Sl.lab 43 rfl (by simp [maxLen]))) (by simp)) ?_
  refine wl_wanted_det rfl rfl rfl rfl rfl rfl rfl (op_ldx rfl tO9n (Sl.lab 43 rfl (by simp [maxLen])) (i := 0) (a := [97]) rfl rfl) ?_
  refine wl_wanted_det rfl rfl rfl rfl rfl rfl rfl (op_val (v' := .bool true) (by simp) (op_eqBs rfl rfl)) ?_
  refine wl_det rfl rfl rfl (op_pick_t rfl rfl) ?_
  refine wl_det rfl rfl rfl (op_assign rfl) ?_
  refine wl_nil ?_
  refine st_tn ?_
  refine w_ret ?_
  refine st_ret (vs := [_]) [] Try.results14 ⟨rfl, trivial⟩ rfl ?_
  refine ⟨_, rfl, ?_⟩
  exact ⟨rfl, rfl⟩

end Go.Proofs.Ytjlbeakdgadpmaa
