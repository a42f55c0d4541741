/- Owned maps. Conditions: none. -/
import Derived.Test.YtecmigildpkigaaGreatSlI
import Derived.Test.YtecmigildpkigaaGreatSlJ
import Derived.Maps.RangeRun
namespace Go.SL
open Go Go.RowKit
set_option linter.unusedSimpArgs false
set_option linter.unusedVariables false
/-- A kind of keys. -/
structure KT (κ : Type) where
  enc : κ → Value
  desc : TypeDesc
  eq : κ → κ → Bool
  eq_iff : ∀ a b, eq a b = true ↔ a = b
  same : ∀ a b, Instr.sameNow desc (enc a) (enc b) = some (eq a b)
  bits : ∀ a, Instr.sameBits 10000 (enc a) (enc a) = true
  chk : ∀ (P : Program) (T : TypeId) (e : Bool) (a : κ) (w : World), P.underlying T = some desc → (Instr.checkKey e 10000 T (enc a)).run P w = .ok () w
def KZ : KT Int := ⟨fun x => .int .i64 x, .int .i64, fun a b => a == b, fun a b => by simp, fun a b => rfl, fun a => by unfold Instr.sameBits; simp, fun P T e a w h => by
  show (Instr.checkKey e (9999 + 1) T _).run P w = _
  unfold Instr.checkKey; rw [Sem.run_bind, run_underlying h]; rfl⟩
theorem ba_beq (a b : ByteArray) : (a == b) = true ↔ a = b := by
  show (a.data == b.data) = true ↔ a = b
  rw [beq_iff_eq]
  constructor
  · intro h; cases a; cases b; simp_all
  · rintro rfl; rfl
def KStr : KT ByteArray := ⟨fun x => .string x, .string, fun a b => a == b, ba_beq, fun a b => rfl, fun a => by unfold Instr.sameBits; exact (ba_beq a a).2 rfl, fun P T e a w h => by
  show (Instr.checkKey e (9999 + 1) T _).run P w = _
  unfold Instr.checkKey; rw [Sem.run_bind, run_underlying h]; rfl⟩
section
variable {κ ν : Type}
/-- The value of a key. -/
def lookK (kt : KT κ) : List (κ × ν) → κ → Option ν
  | [], _ => none
  | p :: l, k => bif kt.eq k p.1 then some p.2 else lookK kt l k
/-- A key's value is set: in its place, or at the end. -/
def setK (kt : KT κ) : List (κ × ν) → κ → ν → List (κ × ν)
  | [], k, v => [(k, v)]
  | p :: l, k, v => bif kt.eq k p.1 then (k, v) :: l else p :: setK kt l k v
def delK (kt : KT κ) : List (κ × ν) → κ → List (κ × ν)
  | [], _ => []
  | p :: l, k => bif kt.eq k p.1 then l else p :: delK kt l k
/-- The entries of a map: the pairs, each with its stamp. -/
def ents (kt : KT κ) (encV : ν → Value) : List (κ × ν) → List Nat → List MapEntry
  | p :: l, s :: bs => ⟨kt.enc p.1, encV p.2, s⟩ :: ents kt encV l bs
  | _, _ => []
structure WfM (l : List (κ × ν)) (bs : List Nat) (clock : Nat) : Prop where
  len : bs.length = l.length
  nod : (l.map Prod.fst).Nodup
  born : bs.Nodup
  lt : ∀ s ∈ bs, s < clock
theorem ents_kv {kt : KT κ} {encV : ν → Value} : ∀ {l : List (κ × ν)} {bs : List Nat}, bs.length = l.length → (ents kt encV l bs).map (fun e => (e.key, e.val)) = l.map (fun p => (kt.enc p.1, encV p.2))
  | [], [], _ => rfl
  | p :: l, [], h => by simp at h
  | [], s :: bs, h => by simp at h
  | p :: l, s :: bs, h => by simp only [ents, List.map_cons]; rw [ents_kv (by simpa using h)]
theorem ents_born {kt : KT κ} {encV : ν → Value} : ∀ {l : List (κ × ν)} {bs : List Nat}, bs.length = l.length → (ents kt encV l bs).map (·.born) = bs
  | [], [], _ => rfl
  | p :: l, [], h => by simp at h
  | [], s :: bs, h => by simp at h
  | p :: l, s :: bs, h => by simp only [ents, List.map_cons]; rw [ents_born (by simpa using h)]
theorem ents_length {kt : KT κ} {encV : ν → Value} {l : List (κ × ν)} {bs : List Nat} (h : bs.length = l.length) : (ents kt encV l bs).length = l.length := by
  have := congrArg List.length (ents_kv (kt := kt) (encV := encV) h)
  simpa using this
theorem ents_set {kt : KT κ} {encV : ν → Value} {q : κ × ν} : ∀ {l : List (κ × ν)} {bs : List Nat} {i : Nat}, bs.length = l.length → (ents kt encV l bs).modify i (fun e => ⟨kt.enc q.1, encV q.2, e.born⟩) = ents kt encV (l.set i q) bs
  | [], [], i, _ => by simp [ents]
  | p :: l, [], i, h => by simp at h
  | [], s :: bs, i, h => by simp at h
  | p :: l, s :: bs, 0, h => by simp [ents]
  | p :: l, s :: bs, i + 1, h => by simp [ents, ents_set (l := l) (bs := bs) (i := i) (by simpa using h)]
theorem ents_push {kt : KT κ} {encV : ν → Value} {q : κ × ν} {c : Nat} : ∀ {l : List (κ × ν)} {bs : List Nat}, bs.length = l.length → ents kt encV l bs ++ [⟨kt.enc q.1, encV q.2, c⟩] = ents kt encV (l ++ [q]) (bs ++ [c])
  | [], [], _ => by simp [ents]
  | p :: l, [], h => by simp at h
  | [], s :: bs, h => by simp at h
  | p :: l, s :: bs, h => by simp [ents, ents_push (l := l) (bs := bs) (by simpa using h)]
theorem ents_erase {kt : KT κ} {encV : ν → Value} : ∀ {l : List (κ × ν)} {bs : List Nat} {i : Nat}, bs.length = l.length → (ents kt encV l bs).eraseIdx i = ents kt encV (l.eraseIdx i) (bs.eraseIdx i)
  | [], [], i, _ => by simp [ents]
  | p :: l, [], i, h => by simp at h
  | [], s :: bs, i, h => by simp at h
  | p :: l, s :: bs, 0, h => by simp [ents]
  | p :: l, s :: bs, i + 1, h => by simp [ents, ents_erase (l := l) (bs := bs) (i := i) (by simpa using h)]
/-- A map of the call's own, with its stamps. -/
def mpE (kt : KT κ) (encV : ν → Value) (b : Nat) (l : List (κ × ν)) (bs : List Nat) (clock : Nat) : Res := fun m => m = single b (.map (ents kt encV l bs).toArray clock) ∧ WfM l bs clock
/-- A map of the call's own. -/
def mp (kt : KT κ) (encV : ν → Value) (b : Nat) (l : List (κ × ν)) : Res := fun m => ∃ bs clock, mpE kt encV b l bs clock m
/-- What a map reads as. -/
def mpR (kt : KT κ) (encV : ν → Value) (v : Value) (l : List (κ × ν)) (w : World) : Prop := (v = .map none ∧ l = []) ∨ ∃ b bs clock, v = .map (some b) ∧ w.heap[b]? = some (.map (ents kt encV l bs).toArray clock) ∧ WfM l bs clock
theorem says_mp {kt : KT κ} {encV : ν → Value} {b : Nat} {l : List (κ × ν)} : Says (mp kt encV b l) (mpR kt encV (.map (some b)) l) := fun m w h hs => by
  obtain ⟨bs, clock, rfl, he⟩ := h
  exact .inr ⟨b, bs, clock, rfl, hs.single, he⟩
theorem says_mpE {kt : KT κ} {encV : ν → Value} {b : Nat} {l : List (κ × ν)} {bs : List Nat} {clock : Nat} : Says (mpE kt encV b l bs clock) (mpR kt encV (.map (some b)) l) := fun m w h hs => says_mp m w ⟨bs, clock, h⟩ hs
def Mr (σ : World) (F : List Res) (kt : KT κ) (encV : ν → Value) (v : Value) (l : List (κ × ν)) : Prop := Ent σ F (mpR kt encV v l)
theorem Mr.app {σ : World} {F : List Res} {kt : KT κ} {encV : ν → Value} {v : Value} {l : List (κ × ν)} (h : Mr σ F kt encV v l) (X : List Res) : Mr σ (X ++ F) kt encV v l := Ent.app h X
theorem Mr.lab {σ : World} {F : List Res} {R : RL} {kt : KT κ} {encV : ν → Value} {b : Nat} {l : List (κ × ν)} (lab : Nat) (h : getL R lab = some (mp kt encV b l)) : Mr σ (rs R ++ F) kt encV (.map (some b)) l := Ent.lab h says_mp
theorem Mr.labE {σ : World} {F : List Res} {R : RL} {kt : KT κ} {encV : ν → Value} {b : Nat} {l : List (κ × ν)} {bs : List Nat} {clock : Nat} (lab : Nat) (h : getL R lab = some (mpE kt encV b l bs clock)) : Mr σ (rs R ++ F) kt encV (.map (some b)) l := Ent.lab h says_mpE
theorem Mr.nil {σ : World} {F : List Res} {kt : KT κ} {encV : ν → Value} : Mr σ F kt encV (.map none) [] := fun _ _ => .inl ⟨rfl, rfl⟩
/-- The place of a key. -/
def posK (kt : KT κ) : List (κ × ν) → κ → Nat → Option (Nat × ν)
  | [], _, _ => none
  | p :: l, k, i => bif kt.eq k p.1 then some (i, p.2) else posK kt l k (i + 1)
theorem posK_look {kt : KT κ} : ∀ {l : List (κ × ν)} {k : κ} {i : Nat}, (posK kt l k i).map Prod.snd = lookK kt l k
  | [], _, _ => rfl
  | p :: l, k, i => by
    unfold posK lookK
    cases kt.eq k p.1 with
    | true => rfl
    | false => exact posK_look
theorem find_posK {kt : KT κ} {encV : ν → Value} {k : κ} : ∀ {es : List MapEntry} {l : List (κ × ν)} {i : Nat}, es.map (fun e => (e.key, e.val)) = l.map (fun p => (kt.enc p.1, encV p.2)) → Instr.findNow kt.desc (kt.enc k) es i = some ((posK kt l k i).map fun q => (q.1, encV q.2))
  | [], [], i, _ => rfl
  | [], p :: l, i, h => by simp at h
  | e :: es, [], i, h => by simp at h
  | e :: es, p :: l, i, h => by
    simp only [List.map_cons, List.cons.injEq, Prod.mk.injEq] at h
    obtain ⟨⟨h1, h2⟩, h3⟩ := h
    unfold Instr.findNow posK
    rw [h1, kt.same]
    cases kt.eq k p.1 with
    | true => simp [h2]
    | false => exact find_posK h3
section
variable {P : Program} {σ : World} {n : Nat} {F : List Res} {e : Env} {R : RL} {dst : Option Tmp} {ty : TypeId} {pos : String} {after : Array Edge} {guard : Option (Nat × Bool)}
def mapB (P : Program) (T K E : Nat) (d : TypeDesc) : Prop := P.underlying T = some (.map K E) ∧ P.underlying K = some d
theorem op_makeMap {kt : KT κ} {encV : ν → Value} {T lab : Nat} :
    OpT P σ n F ⟨dst, .makeMap T none, ty, pos, after, guard⟩ e [] (fun v ρ => ∃ b, v = .map (some b) ∧ ρ = [(lab, mp kt encV b [])]) := by
  intro Q K a w hr ho kk
  unfold Oper.wp
  have hrun : (execOp a.eval ⟨dst, .makeMap T none, ty, pos, after, guard⟩).run P w = .ok (.value (.map (some w.heap.size))) (w.alloc (.map #[] 0)) := by
    simp [execOp, Instr.makeMap, Sem.run_bind]
  rw [hrun]
  exact kk _ _ _ ⟨_, rfl, rfl⟩ (ho.alloc ⟨[], 0, rfl, ⟨rfl, by simp, by simp, by simp⟩⟩)
theorem run_zero {w : World} {E : TypeId} {z : Value} (hz : (P.info? E).bind (·.zero) = some z) : (zeroValue E).run P w = .ok z w := by
  cases hi : P.info? E with
  | none => rw [hi] at hz; simp at hz
  | some i =>
    rw [hi] at hz
    simp only [Option.bind_some] at hz
    simp [zeroValue, typeInfo, hi, hz, Sem.run_bind]
theorem run_lookup {κ ν : Type} {kt : KT κ} {encV : ν → Value} {T K E : Nat} {z : Value} {v : Value} {l : List (κ × ν)} {w : World} {ok : Bool} (k : κ) (hT : mapB P T K E kt.desc) (hz : (P.info? E).bind (·.zero) = some z) (h : mpR kt encV v l w) :
    (Instr.lookup T v (kt.enc k) ok).run P w = .ok (if ok then .tuple #[((lookK kt l k).map encV).getD z, .bool (lookK kt l k).isSome] else ((lookK kt l k).map encV).getD z) w := by
  have hfin : ∀ es : List MapEntry, (es.map (fun e => (e.key, e.val)) = l.map (fun p => (kt.enc p.1, encV p.2))) → (Instr.findKey K (kt.enc k) es).run P w = .ok ((posK kt l k 0).map fun q => (q.1, encV q.2)) w := fun es he => by
    unfold Instr.findKey
    rw [Sem.run_bind, run_underlying hT.2]
    simp [find_posK he]
  have hp := posK_look (kt := kt) (l := l) (k := k) (i := 0)
  rcases h with ⟨rfl, rfl⟩ | ⟨b, bs, clock, rfl, hb, he⟩
  · have h1 := hfin [] rfl
    simp [Instr.lookup, Sem.run_bind, run_underlying hT.1, kt.chk P K _ k w hT.2, h1, posK, run_zero hz, lookK]
  · have h1 := hfin (ents kt encV l bs) (ents_kv he.len)
    have hg : (getObj b).run P w = .ok (.map (ents kt encV l bs).toArray clock) w := by simp [getObj, Sem.run, hb]
    rw [← hp]
    cases hq : posK kt l k 0 with
    | none =>
      rw [hq] at h1
      simp [Instr.lookup, Sem.run_bind, run_underlying hT.1, hg, kt.chk P K _ k w hT.2, h1, run_zero hz]
    | some q =>
      rw [hq] at h1
      simp [Instr.lookup, Sem.run_bind, run_underlying hT.1, hg, kt.chk P K _ k w hT.2, h1]
theorem op_lookup {κ ν : Type} {kt : KT κ} {encV : ν → Value} {T K E : Nat} {z : Value} {v : Value} {l : List (κ × ν)} {x y : Operand} {k : κ} (hx : ev e x = some v) (hy : ev e y = some (kt.enc k)) (hT : mapB P T K E kt.desc) (hz : (P.info? E).bind (·.zero) = some z) (h : Mr σ F kt encV v l) :
    OpT P σ n F ⟨dst, .lookup T x y false, ty, pos, after, guard⟩ e [] (Det (((lookK kt l k).map encV).getD z)) :=
  opt_run fun a w hr ho => by
    have := run_lookup (ok := false) k hT hz (h w ho)
    simp only [execOp, hr.ev hx, hr.ev hy, Sem.run_bind, this]; rfl
theorem op_lookup2 {κ ν : Type} {kt : KT κ} {encV : ν → Value} {T K E : Nat} {z : Value} {v : Value} {l : List (κ × ν)} {x y : Operand} {k : κ} (hx : ev e x = some v) (hy : ev e y = some (kt.enc k)) (hT : mapB P T K E kt.desc) (hz : (P.info? E).bind (·.zero) = some z) (h : Mr σ F kt encV v l) :
    OpT P σ n F ⟨dst, .lookup T x y true, ty, pos, after, guard⟩ e [] (Det (.tuple #[((lookK kt l k).map encV).getD z, .bool (lookK kt l k).isSome])) :=
  opt_run fun a w hr ho => by
    have := run_lookup (ok := true) k hT hz (h w ho)
    simp only [execOp, hr.ev hx, hr.ev hy, Sem.run_bind, this]; rfl
theorem run_setMap {w : World} {b : Nat} {es : Array MapEntry} {clock : Nat} (hb : w.heap[b]? = some (.map es clock)) (o' : Obj) : (setObj b o').run P w = .ok () (ChangeMaps.setBlock w b o') := by
  simp [setObj, Sem.run, hb, ChangeMaps.setBlock]
theorem own_setMap {σ : World} {F : List Res} {r : Res} {κ' ν' : Type} {kt' : KT κ'} {encV' : ν' → Value} {b : Nat} {l' : List (κ' × ν')} {w : World} {bs' : List Nat} {clock' : Nat} {o : Obj} (ho : Own σ (r :: F) w) (hr : ∀ m, r m → ∃ o, m b = some o) (hb : w.heap[b]? = some o) (he : WfM l' bs' clock') :
    Own σ (mpE kt' encV' b l' bs' clock' :: F) (ChangeMaps.setBlock w b (.map (ents kt' encV' l' bs').toArray clock')) := by
  have hlt := (Array.getElem?_eq_some_iff.1 hb).1
  refine ho.swap (b := b) (o' := .map (ents kt' encV' l' bs').toArray clock') hr ⟨rfl, he⟩ rfl rfl rfl ?_ (fun i hi o h => ?_)
  · simp [ChangeMaps.setBlock, hlt]
  · simp only [ChangeMaps.setBlock]; rw [Array.getElem?_setIfInBounds_ne (Ne.symm hi)]; exact h
theorem posK_set {κ ν : Type} {kt : KT κ} {k : κ} {v : ν} : ∀ {l : List (κ × ν)} {j i : Nat} {v0 : ν}, posK kt l k j = some (i, v0) → j ≤ i ∧ i - j < l.length ∧ l[i - j]? = some (k, v0) ∧ setK kt l k v = l.set (i - j) (k, v) ∧ delK kt l k = l.eraseIdx (i - j)
  | [], j, i, v0, h => by simp [posK] at h
  | p :: l, j, i, v0, h => by
    unfold posK at h
    unfold setK delK
    cases hq : kt.eq k p.1 with
    | true =>
      rw [hq] at h
      simp only [cond_true, Option.some.injEq, Prod.mk.injEq] at h
      obtain ⟨rfl, rfl⟩ := h
      have := (kt.eq_iff _ _).1 hq
      refine ⟨Nat.le_refl _, by simp, ?_, by simp, by simp⟩
      rw [Nat.sub_self, this]; rfl
    | false =>
      rw [hq] at h
      simp only [cond_false] at h
      obtain ⟨h1, h2, h3, h4, h5⟩ := posK_set (v := v) h
      have hs : i - j = (i - (j + 1)) + 1 := by omega
      refine ⟨by omega, by simp; omega, by rw [hs]; simpa using h3, by rw [hs]; simp [h4], by rw [hs]; simp [h5]⟩
theorem posK_none {κ ν : Type} {kt : KT κ} {k : κ} : ∀ {l : List (κ × ν)} {j : Nat}, posK kt l k j = none → (∀ p ∈ l, p.1 ≠ k) ∧ (∀ v, setK kt l k v = l ++ [(k, v)]) ∧ delK kt l k = l
  | [], j, _ => ⟨by simp, fun _ => rfl, rfl⟩
  | p :: l, j, h => by
    unfold posK at h
    cases hq : kt.eq k p.1 with
    | true => rw [hq] at h; simp at h
    | false =>
      rw [hq] at h
      simp only [cond_false] at h
      obtain ⟨h1, h2, h3⟩ := posK_none h
      refine ⟨fun q hq' => ?_, fun v => by unfold setK; rw [hq, h2]; rfl, by unfold delK; rw [hq, h3]; rfl⟩
      rcases List.mem_cons.1 hq' with rfl | hq'
      · intro e; rw [(kt.eq_iff k q.1).2 e.symm] at hq; simp at hq
      · exact h1 q hq'
theorem WfM.set {κ ν : Type} {l : List (κ × ν)} {bs : List Nat} {clock i : Nat} {k : κ} {v v0 : ν} (h : WfM l bs clock) (hi : l[i]? = some (k, v0)) : WfM (l.set i (k, v)) bs clock := by
  refine ⟨by simpa using h.len, ?_, h.born, h.lt⟩
  have : (l.set i (k, v)).map Prod.fst = l.map Prod.fst := by
    rw [List.map_set]
    apply List.ext_getElem?
    intro j
    rw [List.getElem?_set]
    split
    · rename_i hj; subst hj
      split
      · simp [hi]
      · rename_i hlt; rw [List.getElem?_eq_none (by omega)]
    · rfl
  rw [this]; exact h.nod
theorem WfM.push {κ ν : Type} {l : List (κ × ν)} {bs : List Nat} {clock : Nat} {k : κ} {v : ν} (h : WfM l bs clock) (hk : ∀ p ∈ l, p.1 ≠ k) : WfM (l ++ [(k, v)]) (bs ++ [clock]) (clock + 1) := by
  refine ⟨by simp [h.len], ?_, ?_, ?_⟩
  · rw [List.map_append, List.nodup_append]
    refine ⟨h.nod, by simp, ?_⟩
    intro a ha b hb e
    obtain ⟨p, hp, rfl⟩ := List.mem_map.1 ha
    simp at hb; subst hb
    exact hk p hp e
  · rw [List.nodup_append]
    refine ⟨h.born, by simp, ?_⟩
    intro a ha b hb e
    simp at hb; subst hb
    have := h.lt a ha; omega
  · intro s hs
    rcases List.mem_append.1 hs with hs | hs
    · have := h.lt s hs; omega
    · simp at hs; omega
theorem WfM.erase {κ ν : Type} {l : List (κ × ν)} {bs : List Nat} {clock i : Nat} (h : WfM l bs clock) : WfM (l.eraseIdx i) (bs.eraseIdx i) clock := by
  refine ⟨?_, ?_, ?_, fun s hs => h.lt s (List.mem_of_mem_eraseIdx hs)⟩
  · rw [List.length_eraseIdx, List.length_eraseIdx, h.len]
  · exact h.nod.sublist (List.Sublist.map _ (List.eraseIdx_sublist _ _))
  · exact h.born.sublist (List.eraseIdx_sublist _ _)
theorem own_mp {σ : World} {F : List Res} {κ ν : Type} {kt : KT κ} {encV : ν → Value} {b : Nat} {l : List (κ × ν)} {w : World} (ho : Own σ (mp kt encV b l :: F) w) : ∃ bs clock, w.heap[b]? = some (.map (ents kt encV l bs).toArray clock) ∧ WfM l bs clock := by
  obtain ⟨m, ⟨bs, clock, rfl, h⟩, hs⟩ := ho.mem_of (List.mem_cons_self)
  exact ⟨bs, clock, hs.single, h⟩
theorem mp_block {κ ν : Type} {kt : KT κ} {encV : ν → Value} {b : Nat} {l : List (κ × ν)} : ∀ m, mp kt encV b l m → ∃ o, m b = some o := fun m ⟨bs, clock, h, _⟩ => by rw [h]; exact ⟨_, by simp [single]; rfl⟩
theorem mpE_block {κ ν : Type} {kt : KT κ} {encV : ν → Value} {b : Nat} {l : List (κ × ν)} {bs : List Nat} {clock : Nat} : ∀ m, mpE kt encV b l bs clock m → ∃ o, m b = some o := fun m ⟨h, _⟩ => by rw [h]; exact ⟨_, by simp [single]; rfl⟩
theorem own_close {σ : World} {F : List Res} {κ ν : Type} {kt : KT κ} {encV : ν → Value} {b : Nat} {l : List (κ × ν)} {bs : List Nat} {clock : Nat} {w : World} (ho : Own σ (mpE kt encV b l bs clock :: F) w) : Own σ (mp kt encV b l :: F) w := Own.imp ho fun m h => ⟨bs, clock, h⟩
theorem run_findKey {κ ν : Type} {kt : KT κ} {encV : ν → Value} {K : TypeId} {k : κ} {l : List (κ × ν)} {bs : List Nat} {w : World} (hK : P.underlying K = some kt.desc) (hl : bs.length = l.length) :
    (Instr.findKey K (kt.enc k) (ents kt encV l bs)).run P w = .ok ((posK kt l k 0).map fun q => (q.1, encV q.2)) w := by
  unfold Instr.findKey
  rw [Sem.run_bind, run_underlying hK]
  simp [find_posK (ents_kv hl)]
theorem run_mapUpdate {κ ν : Type} {kt : KT κ} {encV : ν → Value} {T K E b : Nat} {l : List (κ × ν)} {w : World} {bs : List Nat} {clock : Nat} (k : κ) (v : ν) (hT : mapB P T K E kt.desc) (hb : w.heap[b]? = some (.map (ents kt encV l bs).toArray clock)) (h : WfM l bs clock) :
    ∃ bs' clock', WfM (setK kt l k v) bs' clock' ∧ (Instr.mapUpdate T (.map (some b)) (kt.enc k) (encV v)).run P w = .ok () (ChangeMaps.setBlock w b (.map (ents kt encV (setK kt l k v) bs').toArray clock')) := by
  have hg : (getObj b).run P w = .ok (.map (ents kt encV l bs).toArray clock) w := by simp [getObj, Sem.run, hb]
  have h1 := run_findKey (kt := kt) (encV := encV) (k := k) (w := w) hT.2 h.len
  cases hq : posK kt l k 0 with
  | none =>
    rw [hq] at h1
    obtain ⟨h2, h3', _⟩ := posK_none hq
    have h3 := h3' v
    refine ⟨bs ++ [clock], clock + 1, h3 ▸ h.push h2, ?_⟩
    have h4 : ((ents kt encV l bs).toArray.push ⟨kt.enc k, encV v, clock⟩) = (ents kt encV (setK kt l k v) (bs ++ [clock])).toArray := by
      rw [h3, ← ents_push (q := (k, v)) h.len]; simp
    simp only [Instr.mapUpdate, Sem.run_bind, run_underlying hT.1, Result.andThen_ok, hg, kt.chk P K _ k w hT.2, h1, Option.map_none, run_setMap hb, h4]
  | some q =>
    obtain ⟨i, v0⟩ := q
    rw [hq] at h1
    obtain ⟨_, h2, h3, h4, _⟩ := posK_set (v := v) hq
    simp only [Nat.sub_zero] at h2 h3 h4
    refine ⟨bs, clock, h4 ▸ h.set h3, ?_⟩
    have h6 : (ents kt encV l bs)[i]? = some ⟨kt.enc k, encV v0, bs.getD i 0⟩ := by
      have a1 := congrArg (fun z => z[i]?) (ents_kv (kt := kt) (encV := encV) h.len)
      have a2 := congrArg (fun z => z[i]?) (ents_born (kt := kt) (encV := encV) h.len)
      simp only [List.getElem?_map, h3, Option.map_some] at a1 a2
      cases hx : (ents kt encV l bs)[i]? with
      | none => rw [hx] at a1; simp at a1
      | some x =>
        rw [hx] at a1 a2
        simp only [Option.map_some, Option.some.injEq, Prod.mk.injEq] at a1 a2
        obtain ⟨kx, vx, bx⟩ := x
        simp only at a1 a2
        rw [List.getD_eq_getElem?_getD, ← a2, a1.1, a1.2]; rfl
    have h5 : ((ents kt encV l bs).toArray.modify i fun e => { e with key := kt.enc k, val := encV v }) = (ents kt encV (setK kt l k v) bs).toArray := by
      rw [h4, ← ents_set (q := (k, v)) h.len]; simp
    have h7 : (((ents kt encV l bs).toArray[i]?).map (·.key)).getD (kt.enc k) = kt.enc k := by simp [h6]
    have h8 : (Instr.keyThatStays (kt.enc k) (kt.enc k)).run P w = .ok (kt.enc k) w := by simp [Instr.keyThatStays, kt.bits]
    simp only [Instr.mapUpdate, Sem.run_bind, run_underlying hT.1, Result.andThen_ok, hg, kt.chk P K _ k w hT.2, h1, Option.map_some, h7, h8, run_setMap hb, h5]
theorem op_mapUpdate {κ ν : Type} {kt : KT κ} {encV : ν → Value} {T K E lab b : Nat} {l : List (κ × ν)} {x y z : Operand} {k : κ} {v : ν} (hx : ev e x = some (.map (some b))) (hy : ev e y = some (kt.enc k)) (hz : ev e z = some (encV v)) (hT : mapB P T K E kt.desc) :
    OpT P σ n F ⟨dst, .mapUpdate T x y z, ty, pos, after, guard⟩ e [(lab, mp kt encV b l)] (fun u ρ => u = undef ∧ ρ = [(lab, mp kt encV b (setK kt l k v))]) := by
  intro Q K a w hr ho kk
  obtain ⟨bs, clock, hb, h⟩ := own_mp ho
  obtain ⟨bs', clock', h', hrun⟩ := run_mapUpdate k v hT hb h
  unfold Oper.wp
  have : (execOp a.eval ⟨dst, .mapUpdate T x y z, ty, pos, after, guard⟩).run P w = .ok .skip (ChangeMaps.setBlock w b (.map (ents kt encV (setK kt l k v) bs').toArray clock')) := by
    simp only [execOp, hr.ev hx, hr.ev hy, hr.ev hz, Sem.run_bind, hrun]; rfl
  rw [this]
  exact kk undef _ _ ⟨rfl, rfl⟩ (own_close (own_setMap ho mp_block hb h'))
theorem op_insert {κ ν : Type} {kt : KT κ} {encV : ν → Value} {T K E lab b : Nat} {l : List (κ × ν)} {x y z : Operand} {k : κ} {v : ν} (hx : ev e x = some (.map (some b))) (hy : ev e y = some (kt.enc k)) (hz : ev e z = some (encV v)) (hT : mapB P T K E kt.desc) :
    OpT P σ n F ⟨dst, .insert T x y z, ty, pos, after, guard⟩ e [(lab, mp kt encV b l)] (fun u ρ => u = undef ∧ ρ = [(lab, mp kt encV b (setK kt l k v))]) := by
  intro Q K a w hr ho kk
  obtain ⟨bs, clock, hb, h⟩ := own_mp ho
  obtain ⟨bs', clock', h', hrun⟩ := run_mapUpdate k v hT hb h
  unfold Oper.wp
  have : (execOp a.eval ⟨dst, .insert T x y z, ty, pos, after, guard⟩).run P w = .ok .skip (ChangeMaps.setBlock w b (.map (ents kt encV (setK kt l k v) bs').toArray clock')) := by
    simp only [execOp, hr.ev hx, hr.ev hy, hr.ev hz, Sem.run_bind, hrun]; rfl
  rw [this]
  exact kk undef _ _ ⟨rfl, rfl⟩ (own_close (own_setMap ho mp_block hb h'))
theorem op_lenM {κ ν : Type} {kt : KT κ} {encV : ν → Value} {T K E : Nat} {x : Operand} {v : Value} {l : List (κ × ν)} {ats : TypeId} (hx : ev e x = some v) (hT : mapB P T K E kt.desc) (h : Mr σ F kt encV v l) (ha : ats = T := by rfl) :
    OpT P σ n F ⟨dst, .call ⟨.builtin .len, #[x], #[ats]⟩, ty, pos, after, guard⟩ e [] (Det (.int .i64 l.length)) :=
  opt_run fun a w hr ho => by
    subst ha
    rcases h w ho with ⟨rfl, rfl⟩ | ⟨b, bs, clock, rfl, hb, hm⟩
    · simp [execOp, resolve, hr.ev hx, invoke, builtin, Builtin.len_, run_underlying hT.1, Sem.run_bind, goInt]
    · have hg : (getObj b).run P w = .ok (.map (ents kt encV l bs).toArray clock) w := by simp [getObj, Sem.run, hb]
      simp [execOp, resolve, hr.ev hx, invoke, builtin, Builtin.len_, run_underlying hT.1, Sem.run_bind, goInt, hg, ents_length hm.len]
theorem op_delete {κ ν : Type} {kt : KT κ} {encV : ν → Value} {T K E lab b : Nat} {l : List (κ × ν)} {x y : Operand} {ats ats2 : TypeId} {k : κ} (hx : ev e x = some (.map (some b))) (hy : ev e y = some (kt.enc k)) (hT : mapB P T K E kt.desc) (ha : ats = T := by rfl) :
    OpT P σ n F ⟨dst, .call ⟨.builtin .delete, #[x, y], #[ats, ats2]⟩, ty, pos, after, guard⟩ e [(lab, mp kt encV b l)] (fun u ρ => u = .tuple #[] ∧ ρ = [(lab, mp kt encV b (delK kt l k))]) := by
  subst ha
  intro Q KK a w hr ho kk
  obtain ⟨bs, clock, hb, h⟩ := own_mp ho
  have hg : (getObj b).run P w = .ok (.map (ents kt encV l bs).toArray clock) w := by simp [getObj, Sem.run, hb]
  have h1 := run_findKey (kt := kt) (encV := encV) (k := k) (w := w) hT.2 h.len
  have hrun : ∃ bs', WfM (delK kt l k) bs' clock ∧ (Builtin.delete_ #[ats, ats2] ty #[.map (some b), kt.enc k]).run P w = .ok (.tuple #[]) (ChangeMaps.setBlock w b (.map (ents kt encV (delK kt l k) bs').toArray clock)) := by
    cases hq : posK kt l k 0 with
    | none =>
      rw [hq] at h1
      obtain ⟨h2, _, h3⟩ := posK_none hq
      exact ⟨bs, by rw [h3]; exact h, by rw [h3]; simp [Builtin.delete_, Sem.run_bind, run_underlying hT.1, hg, kt.chk P K _ k w hT.2, h1, run_setMap hb]⟩
    | some q =>
      obtain ⟨i, v0⟩ := q
      rw [hq] at h1
      obtain ⟨_, h2, h3, _, h4⟩ := posK_set (v := v0) hq
      simp only [Nat.sub_zero] at h2 h3 h4
      refine ⟨bs.eraseIdx i, by rw [h4]; exact h.erase, ?_⟩
      have h5 : (ents kt encV l bs).toArray.eraseIdxIfInBounds i = (ents kt encV (delK kt l k) (bs.eraseIdx i)).toArray := by
        rw [h4, ← ents_erase h.len]; simp
      have hz : ∀ A : Array MapEntry, (setObj b (.map A clock)).run P w = .ok () (ChangeMaps.setBlock w b (.map A clock)) := fun A => run_setMap hb _
      have h9 : (#[ats, ats2] : Array TypeId)[0]? = some ats := rfl
      have h10 : (#[Value.map (some b), kt.enc k] : Array Value)[0]? = some (.map (some b)) := rfl
      have h11 : (#[Value.map (some b), kt.enc k] : Array Value)[1]? = some (kt.enc k) := rfl
      simp only [Builtin.delete_, h9, h10, h11, Sem.run_bind, run_underlying hT.1, Result.andThen_ok, hg, kt.chk P K _ k w hT.2, h1, Option.map_some, hz, h5]
      rfl
  obtain ⟨bs', h', hrun⟩ := hrun
  unfold Oper.wp
  have : (execOp a.eval ⟨dst, .call ⟨.builtin .delete, #[x, y], #[ats, ats2]⟩, ty, pos, after, guard⟩).run P w = .ok (.value (.tuple #[])) (ChangeMaps.setBlock w b (.map (ents kt encV (delK kt l k) bs').toArray clock)) := by
    simp [execOp, resolve, hr.ev hx, hr.ev hy, invoke, builtin, hrun, Sem.run_bind]
  rw [this]
  exact kk _ _ _ ⟨rfl, rfl⟩ (own_close (own_setMap ho mp_block hb h'))
/-! ### Iteration -/
theorem ents_zip {κ ν : Type} {kt : KT κ} {encV : ν → Value} : ∀ {l : List (κ × ν)} {bs : List Nat}, ents kt encV l bs = (l.zip bs).map fun q => ⟨kt.enc q.1.1, encV q.1.2, q.2⟩
  | [], bs => by cases bs <;> rfl
  | p :: l, [] => rfl
  | p :: l, s :: bs => by simp only [ents, List.zip_cons_cons, List.map_cons]; rw [ents_zip]
theorem perm_strike {α : Type} {q : α × Nat} : ∀ {l : List (α × Nat)}, (l.map Prod.snd).Nodup → q ∈ l → l.Perm (q :: l.filter fun x => !(x.2 == q.2))
  | [], _, h => by simp at h
  | x :: l, hn, h => by
    have hn' := List.nodup_cons.1 hn
    by_cases hx : x.2 = q.2
    · have hq : x = q := by
        rcases List.mem_cons.1 h with h | h
        · exact h.symm
        · exact absurd (List.mem_map.2 ⟨q, h, hx.symm⟩) hn'.1
      subst hq
      have : l.filter (fun y => !(y.2 == x.2)) = l := List.filter_eq_self.2 fun y hy => by
        have : y.2 ≠ x.2 := fun e => hn'.1 (List.mem_map.2 ⟨y, hy, e⟩)
        simpa using this
      rw [List.filter_cons, this]; simp
    · have hq : q ∈ l := by
        rcases List.mem_cons.1 h with h | h
        · subst h; exact absurd rfl hx
        · exact h
      rw [List.filter_cons, if_pos (by simpa using hx)]
      exact ((perm_strike hn'.2 hq).cons x).trans (List.Perm.swap _ _ _)
/-- An iterator over a map that stays as it is: what it has handed out (the last one first), what is to come. -/
def itR {κ ν : Type} (r b : Nat) (l : List (κ × ν)) (bs : List Nat) (clock : Nat) (done todo : List (κ × ν)) : Res := fun m => ∃ seen : Array Nat, m = single r (.mapIter (some b) clock seen clock) ∧
  todo = ((l.zip bs).filter fun q => !seen.contains q.2).map Prod.fst ∧ ∀ p, done.head? = some p → ∃ s, seen.back? = some s ∧ (p, s) ∈ l.zip bs
/-- A map with its stamps lies in block b. -/
def Me {κ ν : Type} (σ : World) (F : List Res) (kt : KT κ) (encV : ν → Value) (b : Nat) (l : List (κ × ν)) (bs : List Nat) (clock : Nat) : Prop := Ent σ F fun w => w.heap[b]? = some (.map (ents kt encV l bs).toArray clock) ∧ WfM l bs clock
theorem Me.lab {σ : World} {F : List Res} {R : RL} {κ ν : Type} {kt : KT κ} {encV : ν → Value} {b : Nat} {l : List (κ × ν)} {bs : List Nat} {clock : Nat} (lab : Nat) (h : getL R lab = some (mpE kt encV b l bs clock)) : Me σ (rs R ++ F) kt encV b l bs clock := Ent.lab h fun m w h hs => by obtain ⟨rfl, h⟩ := h; exact ⟨hs.single, h⟩
def nextV {κ ν : Type} (kt : KT κ) (encV : ν → Value) : Option (κ × ν) → Array Value
  | none => #[.bool false]
  | some p => #[.bool true, kt.enc p.1, encV p.2]
def NextS {κ ν : Type} (done todo : List (κ × ν)) (o : Option (κ × ν)) (done' todo' : List (κ × ν)) : Prop := match o with
  | none => todo = [] ∧ done' = done ∧ todo' = []
  | some p => done' = p :: done ∧ todo.Perm (p :: todo')
theorem op_range {κ ν : Type} {kt : KT κ} {encV : ν → Value} {T K E lab b : Nat} {l : List (κ × ν)} {bs : List Nat} {clock : Nat} {x : Operand} (hx : ev e x = some (.map (some b))) (hT : mapB P T K E kt.desc) (h : Me σ F kt encV b l bs clock) :
    OpT P σ n F ⟨dst, .range T x, ty, pos, after, guard⟩ e [] (fun v ρ => ∃ r, v = .pointer (some ⟨r, 0, none⟩) ∧ ρ = [(lab, itR r b l bs clock [] l)]) := by
  intro Q KK a w hr ho kk
  obtain ⟨hb, hm⟩ := h w (by simpa [rs] using ho)
  unfold Oper.wp
  have : (execOp a.eval ⟨dst, .range T x, ty, pos, after, guard⟩).run P w = .ok (.value (.pointer (some ⟨w.heap.size, 0, none⟩))) (w.alloc (.mapIter (some b) clock #[] clock)) := by
    simp only [execOp, hr.ev hx, Sem.run_bind, run_range_map w T K E b _ clock hT.1 hb]; rfl
  rw [this]
  refine kk _ _ _ ⟨_, rfl, rfl⟩ (ho.alloc ⟨#[], rfl, ?_, by simp⟩)
  rw [List.filter_eq_self.2 (by simp), List.map_fst_zip (by rw [hm.len]; exact Nat.le_refl _)]
theorem op_next {κ ν : Type} {kt : KT κ} {encV : ν → Value} {lab b r : Nat} {l : List (κ × ν)} {bs : List Nat} {clock : Nat} {done todo : List (κ × ν)} {x : Operand} (hx : ev e x = some (.pointer (some ⟨r, 0, none⟩))) (h : Me σ F kt encV b l bs clock) :
    OpT P σ n F ⟨dst, .next x false, ty, pos, after, guard⟩ e [(lab, itR r b l bs clock done todo)] (fun v ρ => ∃ o done' todo', v = .tuple (nextV kt encV o) ∧ ρ = [(lab, itR r b l bs clock done' todo')] ∧ NextS done todo o done' todo') := by
  intro Q KK a w hr ho kk
  obtain ⟨hb, hm⟩ := h w ho.tail
  obtain ⟨m, ⟨seen, rfl, htodo, hback⟩, hs⟩ := ho.mem_of (List.mem_cons_self)
  have hit := hs.single
  have hold : ∀ x ∈ (ents kt encV l bs).toArray.toList, x.born < clock := fun x hx => by
    have h1 : x.born ∈ (ents kt encV l bs).map (·.born) := List.mem_map.2 ⟨x, by simpa using hx, rfl⟩
    rw [ents_born hm.len] at h1; exact hm.lt _ h1
  have hleft : (leftOf (ents kt encV l bs).toArray seen).toList = ((l.zip bs).filter fun q => !seen.contains q.2).map fun q => ⟨kt.enc q.1.1, encV q.1.2, q.2⟩ := by
    unfold leftOf
    rw [Array.toList_filter, ents_zip, List.filter_map]; rfl
  unfold Oper.wp
  rcases run_next_at (P := P) w ty r b clock clock seen (ents kt encV l bs).toArray clock hit hb hold (Nat.le_refl _) with ⟨h0, hrun⟩ | ⟨q, hq, w1, hal, hrun⟩
  · have : (execOp a.eval ⟨dst, .next x false, ty, pos, after, guard⟩).run P w = .ok (.value (.tuple #[.bool false])) w := by
      simp only [execOp, hr.ev hx, Sem.run_bind, hrun]; rfl
    rw [this]
    have h1 : ((l.zip bs).filter fun q => !seen.contains q.2) = [] := by
      have := congrArg List.length hleft
      rw [Array.length_toList, h0, List.length_map] at this
      exact List.length_eq_zero_iff.1 this.symm
    have h2 : todo = [] := by rw [htodo, h1]; rfl
    exact kk _ _ _ ⟨none, done, todo, rfl, rfl, h2, rfl, h2⟩ ho
  · have : (execOp a.eval ⟨dst, .next x false, ty, pos, after, guard⟩).run P w = .ok (.value (.tuple #[.bool true, q.key, q.val])) (ChangeMaps.setBlock w1 r (.mapIter (some b) clock (seen.push q.born) clock)) := by
      simp only [execOp, hr.ev hx, Sem.run_bind, hrun]; rfl
    rw [this]
    rw [hleft] at hq
    obtain ⟨⟨p, s⟩, hps, rfl⟩ := List.mem_map.1 hq
    have hmem := (List.mem_filter.1 hps).1
    have hnod : (((l.zip bs).filter fun q => !seen.contains q.2).map Prod.snd).Nodup := by
      refine List.Nodup.sublist (List.Sublist.map _ List.filter_sublist) ?_
      rw [List.map_snd_zip (by rw [hm.len]; exact Nat.le_refl _)]; exact hm.born
    have hperm := perm_strike hnod hps
    have hfil : ((l.zip bs).filter fun q => !seen.contains q.2).filter (fun x => !(x.2 == s)) = (l.zip bs).filter fun q => !(seen.push s).contains q.2 := by
      rw [List.filter_filter]
      congr 1
      funext x
      rw [contains_push]
      cases seen.contains x.2 <;> cases x.2 == s <;> rfl
    have ho1 : Own σ (itR r b l bs clock done todo :: F) w1 := by rcases hal with rfl | rfl <;> first | exact ho | exact ho.ext rfl rfl rfl (fun _ _ h => h)
    have hit1 : w1.heap[r]? = some (.mapIter (some b) clock seen clock) := by rcases hal with rfl | rfl <;> exact hit
    refine kk _ _ _ ⟨some p, p :: done, ((l.zip bs).filter fun q => !(seen.push s).contains q.2).map Prod.fst, rfl, rfl, rfl, ?_⟩ ?_
    · have := hperm.map Prod.fst
      rw [hfil] at this
      rw [htodo]; simpa using this
    · have hlt := (Array.getElem?_eq_some_iff.1 hit1).1
      refine ho1.swap (b := r) (o' := .mapIter (some b) clock (seen.push s) clock) (fun m hm => by obtain ⟨sn, rfl, _⟩ := hm; exact ⟨_, by simp [single]; rfl⟩) ⟨seen.push s, rfl, rfl, fun p' hp' => ⟨s, by simp, by simp at hp'; subst hp'; exact hmem⟩⟩ rfl rfl rfl ?_ (fun i hi o h => ?_)
      · simp [ChangeMaps.setBlock, hlt]
      · simp only [ChangeMaps.setBlock]; rw [Array.getElem?_setIfInBounds_ne (Ne.symm hi)]; exact h
theorem op_nextOk {κ ν : Type} {kt : KT κ} {encV : ν → Value} {o : Option (κ × ν)} {x : Operand} (hx : ev e x = some (.tuple (nextV kt encV o))) : OpT P σ n F ⟨dst, .extract x 0, ty, pos, after, guard⟩ e [] (Det (.bool o.isSome)) := op_extract hx (by cases o <;> rfl)
/-- An iterator's last pair. -/
def It {κ ν : Type} (σ : World) (F : List Res) (r b : Nat) (l : List (κ × ν)) (bs : List Nat) (clock : Nat) (p : κ × ν) : Prop := Ent σ F fun w => ∃ seen s, w.heap[r]? = some (.mapIter (some b) clock seen clock) ∧ seen.back? = some s ∧ (p, s) ∈ l.zip bs
theorem It.lab {σ : World} {F : List Res} {R : RL} {κ ν : Type} {r b : Nat} {l : List (κ × ν)} {bs : List Nat} {clock : Nat} {p : κ × ν} {done todo : List (κ × ν)} (lab : Nat) (h : getL R lab = some (itR r b l bs clock (p :: done) todo)) : It σ (rs R ++ F) r b l bs clock p := Ent.lab h fun m w h hs => by
  obtain ⟨seen, rfl, _, h⟩ := h
  obtain ⟨s, h1, h2⟩ := h p rfl
  exact ⟨seen, s, hs.single, h1, h2⟩
theorem op_entry {κ ν : Type} {kt : KT κ} {encV : ν → Value} {b r : Nat} {l : List (κ × ν)} {bs : List Nat} {clock : Nat} {p : κ × ν} {x : Operand} (hx : ev e x = some (.pointer (some ⟨r, 0, none⟩))) (h : Me σ F kt encV b l bs clock) (hi : It σ F r b l bs clock p) :
    OpT P σ n F ⟨dst, .entry x, ty, pos, after, guard⟩ e [] (Det (.tuple #[kt.enc p.1, encV p.2])) :=
  opt_run fun a w hr ho => by
    obtain ⟨hb, hm⟩ := h w ho
    obtain ⟨seen, s, hit, hbk, hmem⟩ := hi w ho
    have hpush : seen = seen.pop.push s := by
      have h0 : 0 < seen.size := by
        rcases Nat.eq_zero_or_pos seen.size with h | h
        · rw [Array.eq_empty_of_size_eq_zero h] at hbk; simp at hbk
        · exact h
      have h1 : seen[seen.size - 1]? = some s := by rw [← hbk, Array.back?_eq_getElem?]
      apply Array.ext'
      rw [Array.toList_push, Array.toList_pop]
      have h2 : seen.toList ≠ [] := fun e => by rw [← Array.length_toList, e] at h0; simp at h0
      have h3 := List.dropLast_concat_getLast h2
      have h4 : seen.toList.getLast h2 = s := by
        rw [List.getLast_eq_getElem]
        have := (Array.getElem?_eq_some_iff.1 h1).2
        simpa using this
      rw [h4] at h3; exact h3.symm
    rw [hpush] at hit
    have hf := run_entry_at (P := P) w r b clock seen.pop (ents kt encV l bs).toArray clock ⟨kt.enc p.1, encV p.2, s⟩ hit hb (by rw [List.toList_toArray, ents_zip]; exact List.mem_map.2 ⟨(p, s), hmem, rfl⟩) (by rw [List.toList_toArray, ents_born hm.len]; exact hm.born)
    simp only [execOp, hr.ev hx, Sem.run_bind, hf]; rfl
theorem perm_next {κ ν : Type} {done todo l : List (κ × ν)} {p : κ × ν} {todo' : List (κ × ν)} (h : (done ++ todo).Perm l) (h2 : todo.Perm (p :: todo')) : ((p :: done) ++ todo').Perm l :=
  (List.perm_middle.symm.trans (h2.symm.append_left done)).trans h
variable {c : Code} {Q : Exit → Act → World → Prop} {A B : RL}
theorem w_openM {κ ν : Type} {kt : KT κ} {encV : ν → Value} {b : Nat} {l : List (κ × ν)} (lab : Nat) (ht : takeL R [lab] = some ([(lab, mp kt encV b l)], B)) (k : ∀ bs clock, WfM l bs clock → W P σ n c Q e ((lab, mpE kt encV b l bs clock) :: B) F) : W P σ n c Q e R F := fun a w hr ho => by
  have h1 : Own σ (mp kt encV b l :: (rs B ++ F)) w := by simpa [rs] using ho.take ht
  obtain ⟨h2, h3, h4, ll, hl, hm, hd⟩ := h1
  cases ll with
  | nil => simp at hl
  | cons p ll =>
    obtain ⟨q, m⟩ := p
    simp only [List.map_cons, List.cons.injEq] at hl
    obtain ⟨rfl, hl⟩ := hl
    obtain ⟨⟨bs, clock, hmE⟩, hsub⟩ := hm (_, m) (List.mem_cons_self)
    refine k bs clock hmE.2 a w hr ⟨h2, h3, h4, (mpE kt encV b l bs clock, m) :: ll, by simp [rs, hl], fun p hp => ?_, ?_⟩
    · rcases List.mem_cons.1 hp with rfl | hp
      · exact ⟨hmE, hsub⟩
      · exact hm p (List.mem_cons_of_mem _ hp)
    · rw [List.pairwise_cons] at hd ⊢; exact hd
theorem mpE_mp {κ ν : Type} {kt : KT κ} {encV : ν → Value} {b : Nat} {l : List (κ × ν)} {bs : List Nat} {clock : Nat} : ∀ m, mpE kt encV b l bs clock m → mp kt encV b l m := fun m h => ⟨bs, clock, h⟩
/-! ### What a map says -/
theorem look_set {κ ν : Type} {kt : KT κ} {k k' : κ} {v : ν} : ∀ {l : List (κ × ν)}, lookK kt (setK kt l k v) k' = bif kt.eq k' k then some v else lookK kt l k'
  | [] => by unfold setK lookK; cases kt.eq k' k <;> rfl
  | p :: l => by
    unfold setK
    cases hq : kt.eq k p.1 with
    | true =>
      have := (kt.eq_iff _ _).1 hq
      simp only [cond_true]
      unfold lookK
      cases hk : kt.eq k' k with
      | true => rfl
      | false => rw [← this, hk]; rfl
    | false =>
      simp only [cond_false]
      unfold lookK
      cases hk : kt.eq k' p.1 with
      | true =>
        have h1 := (kt.eq_iff _ _).1 hk
        have h2 : kt.eq k' k = false := by
          cases h3 : kt.eq k' k with
          | false => rfl
          | true => rw [← h1, (kt.eq_iff _ _).1 h3, (kt.eq_iff _ _).2 rfl] at hq; simp at hq
        rw [h2]; rfl
      | false => simp only [cond_false]; rw [look_set]
theorem look_mem {κ ν : Type} {kt : KT κ} {k : κ} : ∀ {l : List (κ × ν)}, (lookK kt l k).isSome = true ↔ k ∈ l.map Prod.fst
  | [] => by simp [lookK]
  | p :: l => by
    unfold lookK
    cases hk : kt.eq k p.1 with
    | true => have := (kt.eq_iff _ _).1 hk; simp [this]
    | false =>
      have : k ≠ p.1 := fun h => by rw [(kt.eq_iff _ _).2 h] at hk; simp at hk
      simp only [cond_false, List.map_cons, List.mem_cons, this, false_or]; exact look_mem
theorem look_del {κ ν : Type} {kt : KT κ} {k k' : κ} : ∀ {l : List (κ × ν)}, (l.map Prod.fst).Nodup → lookK kt (delK kt l k) k' = bif kt.eq k' k then none else lookK kt l k'
  | [], _ => by unfold delK lookK; cases kt.eq k' k <;> rfl
  | p :: l, hn => by
    obtain ⟨hn1, hn2⟩ := List.nodup_cons.1 hn
    unfold delK
    cases hq : kt.eq k p.1 with
    | true =>
      have h0 := (kt.eq_iff _ _).1 hq
      simp only [cond_true]
      cases hk : kt.eq k' k with
      | true =>
        have h1 := (kt.eq_iff _ _).1 hk
        have : ¬ (lookK kt l k').isSome = true := fun h => hn1 (by rw [← h0, ← h1]; exact look_mem.1 h)
        simpa using this
      | false => conv => rhs; unfold lookK
                 rw [← h0, hk]; rfl
    | false =>
      simp only [cond_false]
      unfold lookK
      cases hk : kt.eq k' p.1 with
      | true =>
        have h1 := (kt.eq_iff _ _).1 hk
        have h2 : kt.eq k' k = false := by
          cases h3 : kt.eq k' k with
          | false => rfl
          | true => rw [← h1, (kt.eq_iff _ _).1 h3, (kt.eq_iff _ _).2 rfl] at hq; simp at hq
        rw [h2]; rfl
      | false => simp only [cond_false]; rw [look_del hn2]
theorem look_get {κ ν : Type} {kt : KT κ} {p : κ × ν} : ∀ {l : List (κ × ν)}, (l.map Prod.fst).Nodup → p ∈ l → lookK kt l p.1 = some p.2
  | [], _, h => by simp at h
  | q :: l, hn, h => by
    obtain ⟨hn1, hn2⟩ := List.nodup_cons.1 hn
    unfold lookK
    rcases List.mem_cons.1 h with rfl | h
    · rw [(kt.eq_iff _ _).2 rfl]; rfl
    · cases hk : kt.eq p.1 q.1 with
      | true => exact absurd (by rw [← (kt.eq_iff _ _).1 hk]; exact List.mem_map.2 ⟨p, h, rfl⟩) hn1
      | false => exact look_get hn2 h
theorem look_of {κ ν : Type} {kt : KT κ} {k : κ} {v : ν} : ∀ {l : List (κ × ν)}, lookK kt l k = some v → (k, v) ∈ l
  | [], h => by simp [lookK] at h
  | p :: l, h => by
    unfold lookK at h
    cases hk : kt.eq k p.1 with
    | true => rw [hk] at h; simp at h; rw [(kt.eq_iff _ _).1 hk, ← h]; exact List.mem_cons_self
    | false => rw [hk] at h; exact List.mem_cons_of_mem _ (look_of h)
def encVB (b : Bool) : Value := .bool b
def encVZ (x : Int) : Value := .int .i64 x
end
end
end Go.SL
