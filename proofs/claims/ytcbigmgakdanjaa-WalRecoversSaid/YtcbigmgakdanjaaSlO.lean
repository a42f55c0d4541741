/- Keys that are byte strings: owned maps, and their way to the kit's owned maps. Conditions: none. -/
import Derived.Test.YtcbigmgakdanjaaSlM
import Derived.Test.YtcbigmgakdanjaaSlT
import Derived.Sort.KeysCollected
import Derived.Maps.Own
import Derived.Maps.Range
namespace Go.SL
open Go Go.RowKit Go.MapKept Go.Maps
open Go.WideElems (Fit rd rg pl rd_key rd_val rg_of)
set_option linter.unusedSimpArgs false
set_option linter.unusedVariables false
/-- Keys that are byte strings. -/
def KL : KT (List UInt8) := ⟨fun x => .string (str x), .string, fun a b => decide (a = b), fun a b => by simp, fun a b => by
    have h : (str a == str b) = decide (a = b) := by
      rw [Bool.eq_iff_iff, ba_beq, decide_eq_true_eq]; exact str_eq
    show some (str a == str b) = _
    rw [h], fun a => by unfold Instr.sameBits; exact (ba_beq _ _).2 rfl, fun P T e a w h => by
  show (Instr.checkKey e (9999 + 1) T _).run P w = _
  unfold Instr.checkKey; rw [Sem.run_bind, run_underlying h]; rfl⟩
/-- What nothing is asked of: an element. -/
def anyS : Value → Option (DataW Unit × List MemPlace) := fun _ => some (.nil, [])
theorem entsS_key {κ ν : Type} {kt : KT κ} {encV : ν → Value} {l : List (κ × ν)} {bs : List Nat} (h : bs.length = l.length) : (ents kt encV l bs).map (·.key) = l.map (fun p => kt.enc p.1) := by
  have := congrArg (List.map Prod.fst) (ents_kv (kt := kt) (encV := encV) h)
  simpa [List.map_map, Function.comp_def] using this
theorem rg_strL {P : Program} {k : TypeId} (hk : P.underlying k = some .string) {ν : Type} {encV : ν → Value} {l : List (List UInt8 × ν)} {bs : List Nat} (h : bs.length = l.length) (hw : ∀ p ∈ l, p.1.length ≤ maxLen) {x : MapEntry} (hx : x ∈ ents KL encV l bs) :
    ∃ a : List UInt8, x.key = .string (str a) ∧ rd P k anyS x = some (.string a, .nil) := by
  have h1 : x.key ∈ (ents KL encV l bs).map (·.key) := List.mem_map.2 ⟨x, hx, rfl⟩
  rw [entsS_key h] at h1
  obtain ⟨p, hp, he⟩ := List.mem_map.1 h1
  have he' : x.key = .string (str p.1) := he.symm
  refine ⟨p.1, he', ?_⟩
  unfold rd
  rw [he']
  have h2 := hw p hp
  have h3 : (ByteArray.mk p.1.toArray).size ≤ maxLen := by simpa [ByteArray.size] using h2
  simp [keyOf, hk, mapKey, str, h3, anyS]
theorem ownsS_of {P : Program} {k : TypeId} (hk : P.underlying k = some .string) {ν : Type} {encV : ν → Value} {l : List (List UInt8 × ν)} {bs : List Nat} {clock : Nat} {w : World} {b : Nat} (hb : w.heap[b]? = some (.map (ents KL encV l bs).toArray clock)) (h : WfM l bs clock)
    (hw : ∀ p ∈ l, p.1.length ≤ maxLen) (hl : l.length ≤ maxLen) : ∃ D : DataW Unit, w.ownsMap P k anyS b l.length D ∧ Maps.size D = l.length ∧ (strKeys D).Perm (l.map Prod.fst) := by
  have hlen := ents_length (kt := KL) (encV := encV) h.len
  have hrd : ∀ x ∈ ents KL encV l bs, ∃ a : List UInt8, x.key = .string (str a) ∧ rd P k anyS x = some (.string a, .nil) := fun x hx => rg_strL hk h.len hw hx
  refine ⟨.map (((ents KL encV l bs).map (rg P k anyS)).foldr DataW.insert []), ⟨_, _, hb, ⟨by simpa [hlen] using hl, ?_, fun x hx => ?_⟩, by simp [hlen], rfl⟩, ?_, ?_⟩
  · rw [stamped_iff]
    refine ⟨fun x hx => ?_, ?_, ?_⟩
    · have : x.born ∈ (ents KL encV l bs).map (·.born) := List.mem_map.2 ⟨x, hx, rfl⟩
      rw [ents_born h.len] at this; exact h.lt _ this
    · rw [List.toList_toArray, ents_born h.len]; exact h.born
    · rw [List.toList_toArray]
      have h1 : ((ents KL encV l bs).map (·.key)).Nodup := by
        rw [entsS_key h.len]
        have := h.nod
        rw [List.Nodup, List.pairwise_map] at this ⊢
        refine this.imp fun hne e => hne ?_
        simp only [KL, Value.string.injEq] at e
        exact str_eq.1 e
      rw [List.Nodup, List.pairwise_map] at h1
      exact h1
  · obtain ⟨a, _, h2⟩ := hrd x (by simpa using hx)
    exact ⟨_, h2⟩
  · show (List.foldr DataW.insert [] _).length = _
    rw [(Go.WideShapes.sorted_perm _).length_eq, List.length_map, hlen]
  · show (List.map (fun p : Lit × DataW Unit => strOf p.1) _).Perm _
    refine ((Go.WideShapes.sorted_perm _).map _).trans ?_
    rw [List.map_map]
    have : (ents KL encV l bs).map ((fun p : Lit × DataW Unit => strOf p.1) ∘ rg P k anyS) = l.map Prod.fst := by
      have h3 : ∀ x ∈ ents KL encV l bs, ((fun p : Lit × DataW Unit => strOf p.1) ∘ rg P k anyS) x = (match x.key with | .string a => a.data.toList | _ => []) := fun x hx => by
        obtain ⟨a, h4, h5⟩ := hrd x hx
        simp only [Function.comp, rg_of h5, h4, strOf, str]
      rw [List.map_congr_left h3]
      have h6 := congrArg (List.map (fun v : Value => match v with | .string a => a.data.toList | _ => ([] : List UInt8))) (entsS_key (kt := KL) (encV := encV) h.len)
      rw [List.map_map, List.map_map] at h6
      refine h6.trans (List.map_congr_left fun p _ => ?_)
      simp [KL, str]
    rw [this]
theorem Mr.ofMe {κ ν : Type} {σ : World} {F : List Res} {kt : KT κ} {encV : ν → Value} {b : Nat} {l : List (κ × ν)} {bs : List Nat} {clock : Nat} (h : Me σ F kt encV b l bs clock) : Mr σ F kt encV (.map (some b)) l :=
  Ent.mono h fun w h => .inr ⟨b, bs, clock, rfl, h.1, h.2⟩
theorem str_nil : str [] = ByteArray.empty := rfl
end Go.SL
