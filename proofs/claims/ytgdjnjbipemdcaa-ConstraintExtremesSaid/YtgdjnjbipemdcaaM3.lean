/- The examples of the document, without a program. Conditions: none. -/
import Derived.Test.YtgdjnjbipemdcaaM2
namespace Go.ConM
open Go Go.SL
open Go.Proofs.Ytgdjnjbipemdcaa (srt length_srt mem_srt srt_perm I64 minL asg)
set_option linter.unusedVariables false
set_option linter.unusedSimpArgs false
theorem srt_id {l : List Int} (h : l.Pairwise (fun x y => x ≤ y)) : srt l = l := List.mergeSort_of_pairwise (h.imp fun h => by simpa using h)
def l2 : List Con := [⟨1, 2, 5⟩, ⟨2, 3, -3⟩]
def l3 : List Con := [⟨1, 2, 5⟩, ⟨2, 3, -3⟩, ⟨3, 1, -3⟩]
theorem nodes_l2 : nodes l2 = [1, 2, 3] := by
  unfold nodes; rw [show nodesM l2 = [(1, true), (2, true), (3, true)] by rfl]; exact srt_id (by decide)
theorem nodes_l3 : nodes l3 = [1, 2, 3] := by
  unfold nodes; rw [show nodesM l3 = [(1, true), (2, true), (3, true)] by rfl]; exact srt_id (by decide)
theorem search_l2 : search (fun _ => true) l2 [1, 2, 3] = (⟨[(1, 0), (2, 0), (3, -3)], [(3, 1)]⟩, -1) := by
  unfold search; rw [nodes_l2]; rfl
theorem dist_l2' : (search (fun _ => true) l2 [1]).1.L = [(1, 0), (2, 5), (3, 2)] := by
  unfold search; rw [nodes_l2]; rfl
theorem comp_l2 (k : Int) : k ∈ compX l2 1 ↔ k = 1 ∨ k = 2 ∨ k = 3 := by
  have hx := compX_spec l2 1
  have h1 : (1 : Int) ∈ compX l2 1 := hx.has
  have h2 : (2 : Int) ∈ compX l2 1 := (hx.closed ⟨1, 2, 5⟩ (by simp [l2])).1 h1
  have h3 : (3 : Int) ∈ compX l2 1 := (hx.closed ⟨2, 3, -3⟩ (by simp [l2])).1 h2
  constructor
  · intro hk
    exact hx.least (fun k => k = 1 ∨ k = 2 ∨ k = 3) (fun c hc => by simp [l2] at hc; rcases hc with rfl | rfl <;> simp) (.inl rfl) k hk
  · rintro (rfl | rfl | rfl) <;> assumption
theorem known_l2 : knownE l2 1 3 = 0 := by
  have hx := compX_spec l2 1
  have hs : (search (useC l2 (compX l2 1)) l2 (compX l2 1)).2 = -1 := by
    have := (search_eqv (use := useC l2 (compX l2 1)) (use' := fun _ => true) (l := l2) (fr := compX l2 1) (fr' := [1, 2, 3]) (fun i hi => ?_) (fun k => ?_) ?_).2
    · rw [this, search_l2]
    · have : i = 0 ∨ i = 1 := by simp [l2] at hi; omega
      unfold useC
      rcases this with rfl | rfl
      · exact decide_eq_true ((comp_l2 1).2 (by simp))
      · exact decide_eq_true ((comp_l2 2).2 (by simp))
    · rw [comp_l2]; simp
    · have h1 := nodup_le (a := compX l2 1) (b := [1, 2, 3]) hx.nod fun k hk => by have := (comp_l2 k).1 hk; simpa using this
      have h2 := nodup_le (a := [1, 2, 3]) (b := compX l2 1) (by decide) fun k hk => (comp_l2 k).2 (by simpa using hk)
      omega
  unfold knownE
  rw [nodes_l2, if_pos (by simp), hs, if_neg (by omega)]
theorem dist_l2 : dist l2 1 3 = (2, 0) := by
  unfold dist
  rw [known_l2, dist_l2']; rfl
theorem sol_l2 : solE l2 = 0 := by unfold solE; rw [nodes_l2, search_l2]; rfl
theorem asg_l2 : asg (search (fun _ => true) l2 (nodes l2)).1.L = [(1, 0), (2, 0), (3, -3)] := by
  rw [nodes_l2, search_l2]; unfold asg; rw [show ([(1, 0), (2, 0), (3, -3)] : ZM).map Prod.fst = [1, 2, 3] from rfl, srt_id (by decide)]; rfl
theorem search_l3 : search (fun _ => true) l3 [1, 2, 3] = (⟨[(1, -12), (2, -6), (3, -9)], [(3, 1), (1, 2), (2, 0)]⟩, 2) := by
  unfold search; rw [nodes_l3]; rfl
theorem sol_l3 : solE l3 = 21 := by unfold solE; rw [nodes_l3, search_l3]; rfl
theorem cnf_l3 : cnfL l3 = [0, 1, 2] := by
  have h : IsCyc l3 (search (fun _ => true) l3 (nodes l3)) [0, 1, 2] := by
    rw [nodes_l3, search_l3]
    constructor
    rw [nodes_l3]
    refine ⟨3, ⟨by omega, by decide, fun t h1 h2 => ?_⟩, by decide⟩
    have : t = 1 ∨ t = 2 := by omega
    rcases this with rfl | rfl <;> decide
  exact cnf_of (by rw [nodes_l3, search_l3]; decide) h
end Go.ConM
