/- Maps of one's own as the kit's owned maps, keys that are ints. Conditions: none. -/
import Derived.Test.YtgdjnjbipemdcaaSlM
import Derived.Lib.SlKeysI
import Derived.Maps.Own
import Derived.Maps.Range
namespace Go.SL
open Go Go.RowKit Go.MapKept Go.Maps
open Go.WideElems (Fit rd rg pl rd_key rd_val rg_of)
set_option linter.unusedSimpArgs false
set_option linter.unusedVariables false
/-- What nothing is asked of: an element. -/
def anyE : Value → Option (DataW Unit × List MemPlace) := fun _ => some (.nil, [])
theorem ents_key {κ ν : Type} {kt : KT κ} {encV : ν → Value} {l : List (κ × ν)} {bs : List Nat} (h : bs.length = l.length) : (ents kt encV l bs).map (·.key) = l.map (fun p => kt.enc p.1) := by
  have := congrArg (List.map Prod.fst) (ents_kv (kt := kt) (encV := encV) h)
  simpa [List.map_map, Function.comp_def] using this
theorem rg_int {P : Program} {k : TypeId} (hk : P.underlying k = some (.int .i64)) {ν : Type} {encV : ν → Value} {l : List (Int × ν)} {bs : List Nat} (h : bs.length = l.length) (hw : ∀ p ∈ l, (Lit.int .i64 p.1).wf = true) {x : MapEntry} (hx : x ∈ ents KZ encV l bs) :
    ∃ a : Int, x.key = .int .i64 a ∧ rd P k anyE x = some (.int .i64 a, .nil) := by
  have h1 : x.key ∈ (ents KZ encV l bs).map (·.key) := List.mem_map.2 ⟨x, hx, rfl⟩
  rw [ents_key h] at h1
  obtain ⟨p, hp, he⟩ := List.mem_map.1 h1
  have he' : x.key = .int .i64 p.1 := he.symm
  refine ⟨p.1, he', ?_⟩
  unfold rd
  rw [he']
  simp [keyOf, hk, mapKey, hw p hp, anyE]
theorem owns_of {P : Program} {k : TypeId} (hk : P.underlying k = some (.int .i64)) {ν : Type} {encV : ν → Value} {l : List (Int × ν)} {bs : List Nat} {clock : Nat} {w : World} {b : Nat} (hb : w.heap[b]? = some (.map (ents KZ encV l bs).toArray clock)) (h : WfM l bs clock)
    (hw : ∀ p ∈ l, (Lit.int .i64 p.1).wf = true) (hl : l.length ≤ maxLen) : ∃ D : DataW Unit, w.ownsMap P k anyE b l.length D ∧ Maps.size D = l.length ∧ (intKeys D).Perm (l.map Prod.fst) := by
  have hlen := ents_length (kt := KZ) (encV := encV) h.len
  have hrd : ∀ x ∈ ents KZ encV l bs, ∃ a : Int, x.key = .int .i64 a ∧ rd P k anyE x = some (.int .i64 a, .nil) := fun x hx => rg_int hk h.len hw hx
  refine ⟨.map (((ents KZ encV l bs).map (rg P k anyE)).foldr DataW.insert []), ⟨_, _, hb, ⟨by simpa [hlen] using hl, ?_, fun x hx => ?_⟩, by simp [hlen], rfl⟩, ?_, ?_⟩
  · rw [stamped_iff]
    refine ⟨fun x hx => ?_, ?_, ?_⟩
    · have : x.born ∈ (ents KZ encV l bs).map (·.born) := List.mem_map.2 ⟨x, hx, rfl⟩
      rw [ents_born h.len] at this; exact h.lt _ this
    · rw [List.toList_toArray, ents_born h.len]; exact h.born
    · rw [List.toList_toArray]
      have h1 : ((ents KZ encV l bs).map (·.key)).Nodup := by
        rw [ents_key h.len]
        have := h.nod
        rw [List.Nodup, List.pairwise_map] at this ⊢
        exact this.imp fun hne e => hne (by simpa [KZ] using e)
      rw [List.Nodup, List.pairwise_map] at h1
      exact h1
  · obtain ⟨a, _, h2⟩ := hrd x (by simpa using hx)
    exact ⟨_, h2⟩
  · show (List.foldr DataW.insert [] _).length = _
    rw [(Go.WideShapes.sorted_perm _).length_eq, List.length_map, hlen]
  · show (List.map (fun p : Lit × DataW Unit => intOf p.1) _).Perm _
    refine ((Go.WideShapes.sorted_perm _).map _).trans ?_
    rw [List.map_map]
    have : (ents KZ encV l bs).map ((fun p : Lit × DataW Unit => intOf p.1) ∘ rg P k anyE) = l.map Prod.fst := by
      have h3 : ∀ x ∈ ents KZ encV l bs, ((fun p : Lit × DataW Unit => intOf p.1) ∘ rg P k anyE) x = (match x.key with | .int _ a => a | _ => 0) := fun x hx => by
        obtain ⟨a, h4, h5⟩ := hrd x hx
        simp only [Function.comp, rg_of h5, h4, intOf]
      rw [List.map_congr_left h3]
      have h6 := congrArg (List.map (fun v : Value => match v with | .int _ a => a | _ => (0 : Int))) (ents_key (kt := KZ) (encV := encV) h.len)
      rw [List.map_map, List.map_map] at h6
      exact h6
    rw [this]
end Go.SL
