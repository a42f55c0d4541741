/- Arguments of any nested type (numbers, bools, strings, slices, structs, arrays), opened at once. Conditions: none. -/
import Derived.Test.YtecmigildpkigaaGreatSlB
import Derived.Deep.Slices
namespace Go.SL
open Go.RowKit Go.Deep
set_option linter.unusedVariables false
set_option linter.unusedSimpArgs false
/-- A datum with its addresses. -/
inductive D where
  | z (k : IntKind) (x : Int)
  | b (x : Bool)
  | s (x : ByteArray)
  | sl (k : Nat) (a : Option Addr) (cap : Nat) (l : List D)
  | row (l : List D)
mutual
def encD : D → List Value
  | .z k x => [.int k x]
  | .b x => [.bool x]
  | .s x => [.string x]
  | .sl _ a c l => [.slice a l.length c]
  | .row l => encDs l
def encDs : List D → List Value
  | [] => []
  | d :: l => encD d ++ encDs l
end
mutual
def deepD (w : World) : D → Prop
  | .z _ _ => True
  | .b _ => True
  | .s _ => True
  | .sl k a c l => slR k (.slice a l.length c) (l.map encD) w ∧ deepDs w l
  | .row l => deepDs w l
def deepDs (w : World) : List D → Prop
  | [] => True
  | d :: l => deepD w d ∧ deepDs w l
end
theorem deepDs_iff {w : World} {l : List D} : deepDs w l ↔ ∀ d ∈ l, deepD w d := by
  induction l with
  | nil => simp [deepDs]
  | cons d l ih => simp [deepDs, ih]
/-- The shape of a type. -/
inductive Sh where
  | int (k : IntKind)
  | bool
  | str
  | slice (k : Nat) (e : Sh)
  | row (l : List Sh)
mutual
def hasD : Sh → D → Prop
  | .int k, .z k' x => k' = k ∧ (Lit.int k x).wf = true
  | .bool, .b _ => True
  | .str, .s x => x.size ≤ maxLen
  | .slice k e, .sl k' _ _ l => k' = k ∧ ∀ d ∈ l, hasD e d
  | .row ss, .row ds => hasDs ss ds
  | _, _ => False
def hasDs : List Sh → List D → Prop
  | [], [] => True
  | s :: ss, d :: ds => hasD s d ∧ hasDs ss ds
  | _, _ => False
end
mutual
def szS : Sh → Nat
  | .int _ => 1
  | .bool => 1
  | .str => 1
  | .slice _ _ => 1
  | .row l => szSs l
def szSs : List Sh → Nat
  | [] => 0
  | s :: l => szS s + szSs l
end
mutual
def shB (P : Program) : Sh → TypeId → Bool
  | .int k, t => match P.underlying t with | some (.int k') => decide (k' = k) | _ => false
  | .bool, t => match P.underlying t with | some .bool => true | _ => false
  | .str, t => match P.underlying t with | some .string => true | _ => false
  | .slice k e, t => match P.underlying t with | some (.slice e') => Nat.beq (P.cellsOf e') k && Nat.ble 1 k && shB P e e' | _ => false
  | .row ss, t => match P.underlying t with
    | some (.struct fs) => Nat.beq (P.cellsOf t) (szSs ss) && shFs P ss fs.toList 0
    | some (.array n e) => Nat.beq (P.cellsOf t) (szSs ss) && Nat.beq n ss.length && shAs P ss e 0
    | _ => false
def shFs (P : Program) : List Sh → List Field → Nat → Bool
  | [], [], _ => true
  | s :: ss, f :: fs, off => Nat.beq f.offset off && Nat.beq (P.cellsOf f.type) (szS s) && shB P s f.type && shFs P ss fs (off + szS s)
  | _, _, _ => false
def shAs (P : Program) : List Sh → TypeId → Nat → Bool
  | [], _, _ => true
  | s :: ss, e, i => Nat.beq (P.cellsOf e) (szS s) && shB P s e && shAs P ss e (i + 1)
end
theorem flatten_at {k : Nat} : ∀ {xs : List (List Value)} {i : Nat} {v : Value}, (∀ c ∈ xs, c.length = k) → xs.flatten[i]? = some v → ∃ q c r, xs[q]? = some c ∧ c[r]? = some v ∧ i = q * k + r
  | [], i, v, _, h => by simp at h
  | x :: xs, i, v, hk, h => by
    have hx := hk x (by simp)
    rw [List.flatten_cons] at h
    rcases Nat.lt_or_ge i x.length with hi | hi
    · rw [List.getElem?_append_left hi] at h
      exact ⟨0, x, i, by simp, h, by omega⟩
    · rw [List.getElem?_append_right hi] at h
      obtain ⟨q, c, r, h1, h2, h3⟩ := flatten_at (fun c hc => hk c (by simp [hc])) h
      exact ⟨q + 1, c, r, by simpa using h1, h2, by rw [Nat.succ_mul]; omega⟩
theorem spot_none {w : World} {a : Addr} {v : Value} (h : w.cell? a = some v) : a.spot = none := by
  unfold World.cell? at h
  split at h
  · by_cases hx : a.spot.isSome
    · simp [hx] at h
    · simpa using hx
  · simp at h
theorem add0 (a : Addr) : a.add 0 = a := by unfold Addr.add; rfl
theorem slR_of {w : World} {k len cap : Nat} {a : Addr} {xs : List (List Value)} (hl : xs.length = len) (hlc : len ≤ cap) (hm : cap ≤ maxLen) (hk0 : 1 ≤ k) (hk : ∀ c ∈ xs, c.length = k)
    (h : ∀ i c j v, xs[i]? = some c → c[j]? = some v → w.cell? ((a.add (i * k)).add j) = some v) : slR k (.slice (some a) len cap) xs w := by
  refine ⟨hk, by omega, ?_⟩
  rcases Nat.eq_zero_or_pos len with h0 | h0
  · exact .inl ⟨some a, cap, by rw [h0], List.eq_nil_of_length_eq_zero (by omega)⟩
  · obtain ⟨b, o, s⟩ := a
    have hs : s = none := by
      obtain ⟨c, hc⟩ : ∃ c, xs[0]? = some c := ⟨xs[0], List.getElem?_eq_getElem (by omega)⟩
      have hcl := hk c (List.mem_of_getElem? hc)
      obtain ⟨v, hv⟩ : ∃ v, c[0]? = some v := ⟨c[0], List.getElem?_eq_getElem (by omega)⟩
      have h1 := h 0 c 0 v hc hv
      rw [add_add, Nat.zero_mul, add0] at h1
      exact spot_none h1
    subst hs
    refine .inr ⟨b, o, cap, by rw [hl], by omega, fun i v hi => ?_⟩
    obtain ⟨q, c, r, h1, h2, rfl⟩ := flatten_at hk hi
    have h3 := h q c r v h1 h2
    rw [add_add, Addr.add_mid] at h3
    exact h3
theorem hasD_len : ∀ (s : Sh) (d : D), hasD s d → (encD d).length = szS s := by
  intro s
  refine Sh.rec (motive_1 := fun s => ∀ d, hasD s d → (encD d).length = szS s) (motive_2 := fun ss => ∀ ds, hasDs ss ds → (encDs ds).length = szSs ss) ?_ ?_ ?_ ?_ ?_ ?_ ?_ s
  · intro k d h; cases d <;> simp_all [hasD, encD, szS]
  · intro d h; cases d <;> simp_all [hasD, encD, szS]
  · intro d h; cases d <;> simp_all [hasD, encD, szS]
  · intro k e _ d h; cases d <;> simp_all [hasD, encD, szS]
  · intro l ih d h
    cases d with
    | row ds => simp only [hasD] at h; simp only [encD, szS]; exact ih ds h
    | _ => simp [hasD] at h
  · intro ds h; cases ds <;> simp_all [hasDs, encDs, szSs]
  · intro s ss h1 h2 ds h
    cases ds with
    | nil => simp [hasDs] at h
    | cons d ds => simp only [hasDs] at h; simp only [encDs, szSs, List.length_append]; rw [h1 d h.1, h2 ds h.2]
section
variable {H : Type} {enc : TypeId × Value → H} {P : Program} {w : World} {base : Nat} {spare : Nat → Bool} {held : Bool}
theorem open_trod : ∀ (s : Sh) (t : TypeId) (fuel : Nat) (cs : List Value) (x : DataW H × List MemPlace), shB P s t = true → DataW.trod enc P w base spare held fuel t cs = some x → ∃ d, hasD s d ∧ cs = encD d ∧ deepD w d := by
  intro s
  refine Sh.rec (motive_1 := fun s => ∀ (t : TypeId) (fuel : Nat) (cs : List Value) (x : DataW H × List MemPlace), shB P s t = true → DataW.trod enc P w base spare held fuel t cs = some x → ∃ d, hasD s d ∧ cs = encD d ∧ deepD w d)
    (motive_2 := fun ss => (∀ (fs : List Field) (off n : Nat) (cs : List Value), shFs P ss fs off = true → cs.length = off + szSs ss → (∀ f ∈ fs, ∃ x, DataW.trod enc P w base spare held n f.type ((cs.drop f.offset).take (P.cellsOf f.type)) = some x) → ∃ ds, hasDs ss ds ∧ cs.drop off = encDs ds ∧ deepDs w ds) ∧
      (∀ (e : TypeId) (i0 k n : Nat) (cs : List Value), P.cellsOf e = k → shAs P ss e i0 = true → cs.length = i0 * k + szSs ss → (∀ i, i0 ≤ i → i < i0 + ss.length → ∃ x, DataW.trod enc P w base spare held n e ((cs.drop (i * k)).take k) = some x) → ∃ ds, hasDs ss ds ∧ cs.drop (i0 * k) = encDs ds ∧ deepDs w ds)) ?_ ?_ ?_ ?_ ?_ ?_ ?_ s
  · intro k t fuel cs x hs h
    simp only [shB] at hs
    split at hs
    · rename_i k' hu
      simp at hs; subst hs
      obtain ⟨n, rfl, _, hw⟩ := DataW.trod_int hu h
      exact ⟨.z k' n, ⟨rfl, hw⟩, rfl, trivial⟩
    · simp at hs
  · intro t fuel cs x hs h
    simp only [shB] at hs
    split at hs
    · rename_i hu
      obtain ⟨n, rfl, _⟩ := DataW.trod_bool hu h
      exact ⟨.b n, trivial, rfl, trivial⟩
    · simp at hs
  · intro t fuel cs x hs h
    simp only [shB] at hs
    split at hs
    · rename_i hu
      obtain ⟨n, rfl, _, hw⟩ := DataW.trod_string hu h
      exact ⟨.s n, hw, rfl, trivial⟩
    · simp at hs
  · intro k e ih t fuel cs x hs h
    simp only [shB] at hs
    split at hs
    · rename_i e' hu
      simp only [Bool.and_eq_true, Nat.ble_eq] at hs
      obtain ⟨⟨hc, hk1⟩, hs⟩ := hs
      have hc := Nat.eq_of_beq_eq_true hc
      rcases open_slice hu h with ⟨rfl, _⟩ | ⟨a, len, cap, m, n, Dt, Pl, rfl, _, hl, hm, hmm, _, hx⟩
      · exact ⟨.sl k none 0 [], ⟨rfl, by simp⟩, rfl, ⟨by simp, by simp, .inl ⟨_, _, rfl, rfl⟩⟩, trivial⟩
      · have hlm : len ≤ m := by rw [hmm]; split <;> omega
        have each : ∀ i, i < len → ∃ d : D, hasD e d ∧ w.cells? base (a.add (i * k)) k = some (encD d) ∧ deepD w d := fun i hi => by
          obtain ⟨cs', h1, h2⟩ := hx i (by omega)
          obtain ⟨d, h3, rfl, h4⟩ := ih e' n cs' _ hs h2
          rw [hc] at h1
          exact ⟨d, h3, h1, h4⟩
        have : ∃ l : List D, l.length = len ∧ ∀ (i : Nat) (d : D), l[i]? = some d → hasD e d ∧ w.cells? base (a.add (i * k)) k = some (encD d) ∧ deepD w d := by
          have key : ∀ q, q ≤ len → ∃ l : List D, l.length = q ∧ ∀ (i : Nat) (d : D), l[i]? = some d → hasD e d ∧ w.cells? base (a.add (i * k)) k = some (encD d) ∧ deepD w d := by
            intro q
            induction q with
            | zero => exact fun _ => ⟨[], rfl, by simp⟩
            | succ q ihq =>
              intro hq
              obtain ⟨l, h1, h2⟩ := ihq (by omega)
              obtain ⟨d, hd⟩ := each q (by omega)
              refine ⟨l ++ [d], by simp [h1], fun i d' hi => ?_⟩
              rcases Nat.lt_or_ge i l.length with h | h
              · rw [List.getElem?_append_left h] at hi; exact h2 i d' hi
              · rw [List.getElem?_append_right h] at hi
                have : i - l.length = 0 := by
                  rcases Nat.eq_zero_or_pos (i - l.length) with h0 | h0
                  · exact h0
                  · rw [List.getElem?_eq_none (by simp; omega)] at hi; simp at hi
                rw [this] at hi; simp at hi; subst hi
                have hiq : i = q := by omega
                subst hiq; exact hd
          exact key len (Nat.le_refl _)
        obtain ⟨l, hll, hall⟩ := this
        have hmem : ∀ d ∈ l, hasD e d ∧ (encD d).length = k ∧ deepD w d := fun d hd => by
          obtain ⟨i, hi⟩ := List.getElem?_of_mem hd
          obtain ⟨h1, h2, h3⟩ := hall i d hi
          exact ⟨h1, (World.cells?_some h2).2.1, h3⟩
        refine ⟨.sl k (some a) cap l, ⟨rfl, fun d hd => (hmem d hd).1⟩, by simp [encD, hll], ?_, deepDs_iff.2 fun d hd => (hmem d hd).2.2⟩
        rw [hll]
        refine slR_of (by simp [hll]) hl hm hk1 (fun c hc => by obtain ⟨d, hd, rfl⟩ := List.mem_map.1 hc; exact (hmem d hd).2.1) (fun i c j v hi hj => ?_)
        rw [List.getElem?_map] at hi
        cases hli : l[i]? with
        | none => rw [hli] at hi; simp at hi
        | some d =>
          rw [hli] at hi; simp at hi; subst hi
          have h2 := (hall i d hli).2.1
          obtain ⟨_, h3, h4⟩ := World.cells?_some h2
          have hjl := (List.getElem?_eq_some_iff.1 hj).1
          rw [h4 j (by omega)]; exact hj
    · simp at hs
  · intro ss ih t fuel cs x hs h
    simp only [shB] at hs
    split at hs
    · rename_i fs hu
      simp only [Bool.and_eq_true] at hs
      have hc := Nat.eq_of_beq_eq_true hs.1
      obtain ⟨xs, n, _, _, hl, hxl, hf⟩ := DataW.trod_struct hu h
      obtain ⟨ds, h1, h2, h3⟩ := ih.1 fs.toList 0 n cs hs.2 (by omega) (fun f hf' => by
        obtain ⟨i, hi⟩ := List.getElem?_of_mem hf'
        have hlt := (List.getElem?_eq_some_iff.1 hi).1
        have := hf i f (by simpa using hi)
        simp at hlt
        rw [List.getElem?_eq_getElem (by omega)] at this
        exact ⟨_, this⟩)
      exact ⟨.row ds, h1, by simpa [encD] using h2, h3⟩
    · rename_i n e hu
      simp only [Bool.and_eq_true] at hs
      have hc := Nat.eq_of_beq_eq_true hs.1.1
      have hn := Nat.eq_of_beq_eq_true hs.1.2
      obtain ⟨xs, m, _, _, hl, hxl, hf⟩ := DataW.trod_array hu h
      obtain ⟨ds, h1, h2, h3⟩ := ih.2 e 0 _ m cs rfl hs.2 (by omega) (fun i _ hi => by
        have := hf i (by omega)
        rw [List.getElem?_eq_getElem (by omega)] at this
        exact ⟨_, this⟩)
      exact ⟨.row ds, h1, by simpa [encD] using h2, h3⟩
    · simp at hs
  · refine ⟨fun fs off n cs hs hl _ => ?_, fun e i0 k n cs _ hs hl _ => ⟨[], trivial, ?_, trivial⟩⟩
    · exact ⟨[], trivial, by simp only [szSs, Nat.add_zero] at hl; simp [encDs, hl], trivial⟩
    · simp only [szSs, Nat.add_zero] at hl; simp [encDs, hl]
  · intro s ss h1 h2
    refine ⟨fun fs off n cs hs hl hf => ?_, fun e i0 k n cs hk hs hl hf => ?_⟩
    · cases fs with
      | nil => simp [shFs] at hs
      | cons f fs =>
        simp only [shFs, Bool.and_eq_true] at hs
        obtain ⟨⟨⟨ho, hc⟩, hb⟩, hr⟩ := hs
        have ho := Nat.eq_of_beq_eq_true ho
        have hc := Nat.eq_of_beq_eq_true hc
        simp only [szSs] at hl
        obtain ⟨x, hx⟩ := hf f (by simp)
        obtain ⟨d, a1, a2, a3⟩ := h1 f.type n _ x hb hx
        obtain ⟨ds, b1, b2, b3⟩ := h2.1 fs (off + szS s) n cs hr (by omega) (fun g hg => hf g (by simp [hg]))
        refine ⟨d :: ds, ⟨a1, b1⟩, ?_, a3, b3⟩
        simp only [encDs]
        rw [← a2, ← b2, ho, hc, ← List.drop_drop]
        exact (List.take_append_drop (szS s) (cs.drop off)).symm
    · simp only [shAs, Bool.and_eq_true] at hs
      obtain ⟨⟨hc, hb⟩, hr⟩ := hs
      have hc := Nat.eq_of_beq_eq_true hc
      simp only [szSs] at hl
      obtain ⟨x, hx⟩ := hf i0 (Nat.le_refl _) (by simp)
      obtain ⟨d, a1, a2, a3⟩ := h1 e n _ x hb hx
      have hks : k = szS s := by omega
      obtain ⟨ds, b1, b2, b3⟩ := h2.2 e (i0 + 1) k n cs hk hr (by rw [Nat.succ_mul]; omega) (fun i h3 h4 => hf i (by omega) (by simp only [List.length_cons]; omega))
      refine ⟨d :: ds, ⟨a1, b1⟩, ?_, a3, b3⟩
      simp only [encDs]
      rw [← a2, ← b2, Nat.succ_mul, ← List.drop_drop]
      exact (List.take_append_drop k (cs.drop (i0 * k))).symm
theorem open_Trod {s : Sh} {t : TypeId} {v : Value} {d : DataW H} {ps : List MemPlace} (hs : shB P s t = true) (h : DataW.Trod enc P w base spare held t v d ps) : ∃ d, hasD s d ∧ v.cells.toList = encD d ∧ deepD w d := by
  obtain ⟨fuel, h⟩ := h
  exact open_trod s t fuel _ _ hs h
end
theorem okWide_agg {P : Program} {w : World} {r : Reach} {base : Nat} {t : TypeId} {v : Value} {ss : List Sh} (hs : shB P (.row ss) t = true) (h : Value.okWide P w r base t v) : ∃ cs, v = .agg cs := by
  unfold Value.okWide at h
  simp only [shB] at hs
  split at hs
  · rename_i fs hu; rw [hu] at h; obtain ⟨cs, h, _⟩ := h; exact ⟨cs, h⟩
  · rename_i n e hu; rw [hu] at h; obtain ⟨cs, h, _⟩ := h; exact ⟨cs, h⟩
  · simp at hs
/-- What held at the start holds as long as its memory is as it was. -/
theorem deep_old {W w : World} (hb : Below W.heap.size W w) : ∀ (d : D), deepD W d → deepD w d := by
  intro d
  refine D.rec (motive_1 := fun d => deepD W d → deepD w d) (motive_2 := fun ds => deepDs W ds → deepDs w ds) ?_ ?_ ?_ ?_ ?_ ?_ ?_ d
  · intros; trivial
  · intros; trivial
  · intros; trivial
  · intro k a cap l ih h
    refine ⟨?_, ih h.2⟩
    obtain ⟨h1, h2, h3⟩ := h.1
    refine ⟨h1, h2, ?_⟩
    rcases h3 with h3 | ⟨b, o, cap, h4, h5, h6⟩
    · exact .inl h3
    · exact .inr ⟨b, o, cap, h4, h5, range_old hb h6⟩
  · intro l ih h; exact ih h
  · intro _; trivial
  · intro d l h1 h2 h; exact ⟨h1 h.1, h2 h.2⟩
theorem deep_sl {W : World} {k cap : Nat} {a : Option Addr} {l : List D} (h : deepD W (.sl k a cap l)) : Sl W [whole W] encD k (.slice a l.length cap) l :=
  ⟨ent_old fun w hb => (deep_old hb _ h).1, by have := h.1.2.1; simpa using this⟩
/-- The same list, told by other data. -/
theorem Sl.conv {σ : World} {F : List Res} {α : Type} {enc : α → List Value} {toD : α → D} {k cap : Nat} {a : Option Addr} {l : List α} (h : Sl σ F encD k (.slice a (l.map toD).length cap) (l.map toD)) (he : ∀ x, encD (toD x) = enc x) : Sl σ F enc k (.slice a l.length cap) l := by
  obtain ⟨h1, h2⟩ := h
  rw [List.length_map] at h1 h2
  refine ⟨h1.mono fun w h => ?_, h2⟩
  have : (l.map toD).map encD = l.map enc := by rw [List.map_map]; exact List.map_congr_left fun x _ => he x
  unfold slT at h ⊢
  rw [← this]; exact h
theorem of_all {α : Type} (toD : α → D) (wf : α → Prop) : ∀ (l : List D), (∀ d ∈ l, ∃ x, d = toD x ∧ wf x) → ∃ l' : List α, l = l'.map toD ∧ ∀ x ∈ l', wf x
  | [], _ => ⟨[], rfl, by simp⟩
  | d :: l, h => by
    obtain ⟨x, rfl, hx⟩ := h d (by simp)
    obtain ⟨l', rfl, h2⟩ := of_all toD wf l fun d hd => h d (by simp [hd])
    exact ⟨x :: l', rfl, fun y hy => by rcases List.mem_cons.1 hy with rfl | hy; (· exact hx); (· exact h2 y hy)⟩
theorem wf_u8 {x : Int} (h : (Lit.int .u8 x).wf = true) : 0 ≤ x ∧ x ≤ 255 := by simpa [Lit.wf, IntKind.min, IntKind.max, IntKind.signed, IntKind.bits] using h
theorem wf_u16 {x : Int} (h : (Lit.int .u16 x).wf = true) : 0 ≤ x ∧ x ≤ 65535 := by simpa [Lit.wf, IntKind.min, IntKind.max, IntKind.signed, IntKind.bits] using h
theorem wf_i8 {x : Int} (h : (Lit.int .i8 x).wf = true) : -128 ≤ x ∧ x ≤ 127 := by simpa [Lit.wf, IntKind.min, IntKind.max, IntKind.signed, IntKind.bits] using h
theorem wf_i64 {x : Int} (h : (Lit.int .i64 x).wf = true) : -9223372036854775808 ≤ x ∧ x ≤ 9223372036854775807 := i64_bd h
/-! inversion, one shape at a time -/
theorem has_int {k : IntKind} {d : D} (h : hasD (.int k) d) : ∃ x, d = .z k x ∧ (Lit.int k x).wf = true := by
  cases d with
  | z k' x => simp only [hasD] at h; obtain ⟨rfl, h⟩ := h; exact ⟨x, rfl, h⟩
  | _ => simp [hasD] at h
theorem has_bool {d : D} (h : hasD .bool d) : ∃ x, d = .b x := by cases d <;> simp_all [hasD]
theorem has_str {d : D} (h : hasD .str d) : ∃ x, d = .s x ∧ x.size ≤ maxLen := by cases d <;> simp_all [hasD]
theorem has_slice {k : Nat} {e : Sh} {d : D} (h : hasD (.slice k e) d) : ∃ a c l, d = .sl k a c l ∧ ∀ x ∈ l, hasD e x := by
  cases d with
  | sl k' a c l => simp only [hasD] at h; obtain ⟨rfl, h⟩ := h; exact ⟨a, c, l, rfl, h⟩
  | _ => simp [hasD] at h
theorem has_row {ss : List Sh} {d : D} (h : hasD (.row ss) d) : ∃ ds, d = .row ds ∧ hasDs ss ds := by cases d <;> simp_all [hasD]
theorem has_nil {ds : List D} (h : hasDs [] ds) : ds = [] := by cases ds <;> simp_all [hasDs]
theorem has_cons {s : Sh} {ss : List Sh} {ds : List D} (h : hasDs (s :: ss) ds) : ∃ d r, ds = d :: r ∧ hasD s d ∧ hasDs ss r := by
  cases ds with
  | nil => simp [hasDs] at h
  | cons d r => simp only [hasDs] at h; exact ⟨d, r, rfl, h.1, h.2⟩
end Go.SL
