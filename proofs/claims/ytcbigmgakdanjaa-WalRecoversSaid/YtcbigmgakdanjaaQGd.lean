/- do on a disk that may fail; agrees where the log is another one (layer 27). The law Recovers (layer 27): what the loop over the cuts needs. Conditions: none. -/
import Derived.Test.YtcbigmgakdanjaaSlZ
import Derived.Test.YtcbigmgakdanjaaQGc
namespace Go.Proofs.Ytcbigmgakdanjaa
open Go Go.SL Go.RowKit Go.RdM Go.WalM
set_option linter.unusedVariables false
set_option linter.unusedSimpArgs false
theorem tA52xq : aggB Try.prog 52 4 = true := by kernel_rfl
theorem tF52_1xq : fieldB Try.prog 52 1 1 = true := by kernel_rfl
theorem tMixxq : Try.prog.follows .mixedOrders = true := by kernel_rfl
theorem tO3xq : oneB Try.prog 3 = true := by kernel_rfl
theorem ms_mono {P1 P1' : PS} {P2 P2' : PX} {v : Value} {L : Lg} (h : MS P1 P2 v L) (h1 : P1 ⊆ P1') (h2 : P2 ⊆ P2') : MS P1' P2' v L := by
  obtain ⟨a, c, p, cp, Y, hm⟩ := h
  refine ⟨a, c, p, cp, Y, hm.val, ?_, fun x hx => (hm.ins x hx).mono h1, hm.inp.mono h1, hm.rel⟩
  have key : ∀ {a c Y}, InX P2 a c Y → InX P2' a c Y := by
    intro a c Y h
    induction h with
    | nil => exact .nil
    | base h => exact .base (h2 h)
    | sub j h hj ih => exact .sub j ih hj
  exact key hm.inx
def runQ (nm : RdM.Bs) (d b i : Nat) (v : Value) : Res := fun mem => ∃ x : RnT, (Rn nm i x.2.2.1 (qt x.2.2.2) ∧ MS x.1 x.2.1 (st4 v) x.2.2.1) ∧ star (dkR d x.2.2.2) (star (lgR b d nm x.2.2.1) (star (poolS x.1) (poolX x.2.1))) mem
abbrev RnQ' (nm : RdM.Bs) (i : Nat) (v : Value) := {x : RnT // Rn nm i x.2.2.1 (qt x.2.2.2) ∧ MS x.1 x.2.1 (st4 v) x.2.2.1}
theorem runQ_opens {σ : World} (nm : RdM.Bs) (d b i : Nat) (v : Value) : Opens σ [runQ nm d b i v] (RnQ' nm i v) (fun x => rs (cR nm d b x.1)) := fun F w h => by
  obtain ⟨x, h1⟩ := own_ex h
  obtain ⟨h2, h3⟩ := own_and h1
  exact ⟨⟨x, h2⟩, own_un4 h3⟩
theorem runQ_closes {σ : World} {nm : RdM.Bs} {d b i : Nat} {v : Value} (x : RnT) (h : Rn nm i x.2.2.1 (qt x.2.2.2) ∧ MS x.1 x.2.1 (st4 v) x.2.2.1) : Closes σ (rs (cR nm d b x)) [runQ nm d b i v] := fun F w hw => (own_st4 hw).imp fun mem hm => ⟨x, h, hm⟩
theorem runQ_new {σ : World} {nm : RdM.Bs} {d b : Nat} : Closes σ (rs (cR nm d b ([], [], newL, newS 262144))) [runQ nm d b 0 (.agg #[.slice none 0 0, .int .i64 1, .slice none 0 0, .bool true])] := runQ_closes _ ⟨rn_new _, ms_begin⟩
theorem limQ_c {σ : World} {F : List Res} {b d i : Nat} {nm : RdM.Bs} {v : Value} (lab : Nat) (k : Int) (hk : 0 ≤ k ∧ k ≤ 255) :
    FnT Try.prog σ F 36 [.pointer (some ⟨d, 0, none⟩), .int .i64 k] [(lab, runQ nm d b i v)] (fun u ρ => u = .tuple #[] ∧ ρ = [(lab, runQ nm d b i v)]) :=
  fn_oc (ι := RnQ' nm i v) (runQ_opens nm d b i v) rfl (R := fun y => cR nm d b y.1) (fun y => rfl) (fun y => fn_fr [(601, dkR d y.1.2.2.2)] [(611, lgR b d nm y.1.2.2.1), (605, poolS y.1.1), (606, poolX y.1.2.1)] (dlimit_c 601 k))
    fun y u ρ ⟨ρ0, h1, h2⟩ => ⟨_, ⟨h1.1, rfl⟩, by
      rw [h2, h1.2]
      exact runQ_closes (y.1.1, y.1.2.1, y.1.2.2.1, DskM.limO y.1.2.2.2 k) ⟨y.2.1.st rfl rfl y.2.1.dn rfl (by show 0 ≤ max k 0 ∧ max k 0 ≤ _; omega), y.2.2⟩⟩
def DoneQ (x : OpL) (nm : RdM.Bs) (i : Nat) (v v' : Value) (e : Int) (y z : RnT) : Prop :=
  (e ≠ 27 ∧ z.2.2.2.down = false ∧ Rn nm (i + 1) z.2.2.1 (qt z.2.2.2) ∧ MS z.1 z.2.1 (st4 v') z.2.2.1) ∨
  (e = 27 ∧ MS z.1 z.2.1 (st4 v) y.2.2.1 ∧ Rn nm i y.2.2.1 (qt y.2.2.2) ∧ OkL z.2.2.1 ∧ nextN z.2.2.1.segs z.2.2.1.fresh ≤ 999999 ∧ z.2.2.1.broken = true ∧ z.2.2.2.down = true ∧ DskM.Good z.2.2.2 ∧
    ((x.k % 8 ≠ 6 ∧ y.2.2.1.pend ≠ [] ∧ MS z.1 z.2.1 (st4 v') (commitL y.2.2.1) ∧ ∀ sc, ∃ M, (M = y.2.2.1 ∨ M = commitL y.2.2.1) ∧ Rn nm (i + 1) (openL M) (DskM.staO z.2.2.2 sc))
    ∨ (x.k % 8 = 6 ∧ ∀ sc, ∃ j, j ≤ trS y.2.2.1.first y.2.2.1.segs (y.2.2.1.first + x.n % 12 - 2) y.2.2.1.segs.length ∧ Rn nm (i + 1) (openL (dropL y.2.2.1 j)) (DskM.staO z.2.2.2 sc))))
def DoQ (x : OpL) (nm : RdM.Bs) (d i : Nat) (v : Value) (y : RnT) (u : Value) (ρ : RL) : Prop := ∃ (b : Nat) (v' : Value) (e : Int) (z : RnT), DoneQ x nm i v v' e y z ∧ u = .tuple #[.pointer (some ⟨b, 0, none⟩), st4 v', .bool true, .bool (decide (e = 27))] ∧ ρ = cR nm d b z
theorem do_runQ {σ : World} {F : List Res} {b d i : Nat} {nm : RdM.Bs} {v : Value} {y : RnT} (x : OpL) (hx : (0 ≤ x.k ∧ x.k ≤ 255) ∧ (0 ≤ x.z ∧ x.z ≤ 255) ∧ (0 ≤ x.n ∧ x.n ≤ 255)) (h : Rn nm i y.2.2.1 (qt y.2.2.2)) (hi : i ≤ 90) (hM : MS y.1 y.2.1 (st4 v) y.2.2.1) (hok : DskM.nameB nm = true ∧ nm.length ≤ 48) :
    FnT Try.prog σ F 27 [.pointer (some ⟨d, 0, none⟩), .pointer (some ⟨b, 0, none⟩), st4 v, .agg (encOpL x).toArray, .string (str nm)] (cR nm d b y) (DoQ x nm d i v y) := by
  obtain ⟨P1, P2, L, s⟩ := y
  dsimp only at h hM
  have hS := h.sm (by omega)
  have hmod : x.k % 8 ≤ 2 ∨ (x.k % 8 = 3 ∨ x.k % 8 = 4) ∨ x.k % 8 = 5 ∨ x.k % 8 = 6 ∨ x.k % 8 = 7 := by omega
  rcases hmod with hk | hk | hk | hk | hk
  · refine fn_imp (do_app x hx hk hS hM) ?_
    rintro u ρ ⟨v', P1', hM', h1, h2⟩
    rw [hM'.eq4] at h1
    exact ⟨b, v', 0, (P1', P2, _, s), .inl ⟨by decide, h.dn, h.app (by omega) (recB_len' _ _), hM'.st4⟩, h1, h2⟩
  · have hnx : nextN L.segs L.fresh ≤ 999999 := by have := nextN_lt' (fr := L.fresh) h.num; omega
    rcases com_gen h (by omega) hok with ⟨s', hc, hR⟩ | ⟨hp, s', hc, hd, hf, hcap, hg⟩
    · refine fn_imp (do_com x hx.1 hk hS hM hc (.inr ⟨rfl, rfl⟩) (good_qt.1 h.good) hok.2 hnx) ?_
      rintro u ρ ⟨v', P1', P2', _, _, hM', h1, h2⟩
      rw [hM'.eq4] at h1
      exact ⟨b, v', 0, (P1', P2', _, s'), .inl ⟨by decide, hR.dn, hR, hM'.st4⟩, h1, h2⟩
    · refine fn_imp (do_com x hx.1 hk hS hM hc (.inl rfl) (good_qt.1 h.good) hok.2 hnx) ?_
      rintro u ρ ⟨v', P1', P2', hs1, hs2, hM', h1, h2⟩
      rw [hM'.eq4] at h1
      exact ⟨b, v', 27, (P1', P2', { L with broken := true }, s'), .inr ⟨rfl, ms_mono hM hs1 hs2, h, ⟨h.ok.seg, h.ok.pc, h.ok.pl, h.ok.sz⟩, hnx, rfl, hd, hg, .inl ⟨by omega, hp, hM'.st4, fun sc => start_com h (by omega) hok hp hd hf hcap hg sc⟩⟩, h1, h2⟩
  · refine fn_imp (do_dis x hx.1 hk hS hM) ?_
    rintro u ρ ⟨v', hM', h1, h2⟩
    rw [hM'.eq4] at h1
    exact ⟨b, v', 0, (P1, P2, _, s), .inl ⟨by decide, h.dn, h.dis, hM'.st4⟩, h1, h2⟩
  · obtain ⟨e, j, s', hcs, hc, hg, hokD, hR⟩ := tru_gen h hok (L.first + x.n % 12 - 2)
    refine fn_imp (do_tru x ⟨hx.1, hx.2.2⟩ hk hS hM hc (by rcases hcs with ⟨c, _⟩ | ⟨c, _⟩; (· exact .inr c); (· exact .inl c)) (good_qt.1 h.good) hok.2) ?_
    rintro u ρ ⟨v', hM', h1, h2⟩
    rw [hM'.eq4] at h1
    rcases hcs with ⟨c1, c2, c3⟩ | ⟨c1, c2, c3⟩
    · subst c1
      refine ⟨b, v', 0, (P1, P2, { dropL L j with broken := decide ((0 : Int) = 27) }, s'), .inl ⟨by decide, c3, ?_, ?_⟩, h1, h2⟩
      · have e1 : ({ dropL L j with broken := decide ((0 : Int) = 27) } : Lg) = dropL L j := by
          have hb := h.br
          obtain ⟨f0, S0, p0, fr0, b0⟩ := L
          dsimp only at hb
          subst hb; rfl
        dsimp only
        rw [e1]
        exact hR.st rfl rfl c3 rfl ⟨hg.lo, hg.hi⟩
      · have e1 : ({ dropL L j with broken := decide ((0 : Int) = 27) } : Lg) = dropL L j := by
          have hb := h.br
          obtain ⟨f0, S0, p0, fr0, b0⟩ := L
          dsimp only at hb
          subst hb; rfl
        dsimp only
        rw [e1, c2]
        exact hM'.st4
    · subst c1
      refine ⟨b, v', 27, (P1, P2, { dropL L j with broken := decide ((27 : Int) = 27) }, s'), .inr ⟨rfl, hM, h, ⟨hokD.seg, hokD.pc, hokD.pl, hokD.sz⟩, by have h9 := nextN_lt' (fr := L.fresh) hR.num; show nextN (dropL L j).segs L.fresh ≤ _; omega, by simp, c3, hg, .inr ⟨hk, fun sc => ⟨j, c2, ?_⟩⟩⟩, h1, h2⟩
      have hst := sta_down (s := s') (sc := sc) c3
      have hcl : DskM.startF s'.fs sc = s'.fs := start_clean sc hR.cl
      rw [hcl] at hst
      exact hR.opn0.st (by rw [hst]) (by rw [hst]) (by rw [hst]) (by rw [hst]) (by rw [hst]; exact ⟨Int.le_refl 0, by show (0 : Int) ≤ _; omega⟩)
  · refine fn_imp (do_open x hx.1 hk hS hM hok h.dn (good_qt.1 h.good) ⟨h.on.holds, h.on.tail⟩) ?_
    rintro u ρ ⟨b', v', hM', h1, h2⟩
    rw [hM'.eq4] at h1
    exact ⟨b', v', 0, (P1, P2, _, s), .inl ⟨by decide, h.dn, h.opn, hM'.st4⟩, h1, h2⟩
def doQ (x : OpL) (nm : RdM.Bs) (d b i : Nat) (v v' : Value) (e : Int) : Res := fun mem => ∃ z : RnT × RnT, DoneQ x nm i v v' e z.1 z.2 ∧ star (dkR d z.2.2.2.2) (star (lgR b d nm z.2.2.2.1) (star (poolS z.2.1) (poolX z.2.2.1))) mem
abbrev DnQ (x : OpL) (nm : RdM.Bs) (i : Nat) (v v' : Value) (e : Int) := {z : RnT × RnT // DoneQ x nm i v v' e z.1 z.2}
theorem doQ_opens {σ : World} (x : OpL) (nm : RdM.Bs) (d b i : Nat) (v v' : Value) (e : Int) : Opens σ [doQ x nm d b i v v' e] (DnQ x nm i v v' e) (fun z => rs (cR nm d b z.1.2)) := fun F w h => by
  obtain ⟨z, h1⟩ := own_ex h
  obtain ⟨h2, h3⟩ := own_and h1
  exact ⟨⟨z, h2⟩, own_un4 h3⟩
theorem doQ_closes {σ : World} {x : OpL} {nm : RdM.Bs} {d b i : Nat} {v v' : Value} {e : Int} (z : RnT × RnT) (h : DoneQ x nm i v v' e z.1 z.2) : Closes σ (rs (cR nm d b z.2)) [doQ x nm d b i v v' e] := fun F w hw => (own_st4 hw).imp fun mem hm => ⟨z, h, hm⟩
theorem doQ_c {σ : World} {F : List Res} {b d i : Nat} {nm : RdM.Bs} {v : Value} (lab : Nat) (x : OpL) (hx : (0 ≤ x.k ∧ x.k ≤ 255) ∧ (0 ≤ x.z ∧ x.z ≤ 255) ∧ (0 ≤ x.n ∧ x.n ≤ 255)) (hi : i ≤ 90) (hok : DskM.nameB nm = true ∧ nm.length ≤ 48) :
    FnT Try.prog σ F 27 [.pointer (some ⟨d, 0, none⟩), .pointer (some ⟨b, 0, none⟩), st4 v, .agg (encOpL x).toArray, .string (str nm)] [(lab, runQ nm d b i v)] (fun u ρ => ∃ (b' : Nat) (v' : Value) (e : Int), u = .tuple #[.pointer (some ⟨b', 0, none⟩), st4 v', .bool true, .bool (decide (e = 27))] ∧ ρ = [(lab, doQ x nm d b' i v v' e)]) :=
  fn_oc (ι := RnQ' nm i v) (runQ_opens nm d b i v) rfl (R := fun y => cR nm d b y.1) (fun y => rfl) (fun y => do_runQ x hx y.2.1 hi y.2.2 hok)
    fun y u ρ ⟨b', v', e, z, hD, h1, h2⟩ => ⟨_, ⟨b', v', e, h1, rfl⟩, by rw [h2]; exact doQ_closes (y.1, z) hD⟩
set_option maxHeartbeats 400000 in
set_option maxRecDepth 100000 in
theorem agreesF_any {σ : World} {F : List Res} {b d m c0 cp0 : Nat} {a0 p0 : Option Addr} {l : List (Int × List UInt8)} {nm : RdM.Bs} {L M : Lg} {P1 : PS} {P2 : PX} {v : Value} (hS : Sm L) (hSM : Sm M) (hM : MS P1 P2 v M) (hne : M.first ≠ L.first ∨ lastN M ≠ lastN L) :
    FnT Try.prog σ F 31 [v, .pointer (some ⟨b, 0, none⟩), .string (str nm)] [(611, cel b (cellL d nm (rawL L) m a0 c0 p0 cp0) 76), (612, slW 87 encRow 4 (.slice a0 (rowsOf L.first L.segs).length c0) (rowsOf L.first L.segs)), (613, mp KZ encSV m l), (614, slW 9 encT 1 (.slice p0 L.pend.length cp0) L.pend), (605, poolS P1), (606, poolX P2)]
      (fun u ρ => u = .bool false ∧ ρ = [(611, cel b (cellL d nm (rawL L) m a0 c0 p0 cp0) 76), (612, slW 87 encRow 4 (.slice a0 (rowsOf L.first L.segs).length c0) (rowsOf L.first L.segs)), (613, mp KZ encSV m l), (614, slW 9 encT 1 (.slice p0 L.pend.length cp0) L.pend), (605, poolS P1), (606, poolX P2)]) := by
  refine fn_of 80 Try.func31 rfl Try.ntmps31 rfl ?_
  obtain ⟨a, c, p, cp, Y, hm⟩ := hM
  have hval := hm.val
  subst hval
  have hb := hS.br
  have hbf : ¬ L.broken = true := by simp [hb]
  have hal := hS.all
  have hfs := hS.fst
  have hsg := hS.segl
  have halM := hSM.all
  have hfsM := hSM.fst
  have hsgM := hSM.segl
  have hposM := hSM.ok.seg.pos
  have hrl := congrArg List.length hm.rel.recs
  have hpos := hS.ok.seg.pos
  have hrw := hS.ok.rowl
  have hlv := lastV_raw hS.ok.seg
  have hfv := firstV_raw hS.ok.seg
  rw [if_neg hbf] at hlv hfv
  refine w_seq (w_region (wl_op [] rfl rfl rfl rfl (op_box (T := 52) (l := 3) rfl) ?_))
  rintro _ _ ⟨b3, rfl, rfl⟩
  refine za rfl (wl_nil (st_tn (w_seq (w_seq ?_))))
  by_cases hf : M.first = L.first
  · -- hf+
    refine w_drawW (fun β => [⟨11, [], [], [], noW (_), false, [], []⟩, ⟨12, [0], [], [], noW (_), false, [], []⟩, ⟨13, [1], [], [], noW (_), false, [], []⟩, ⟨14, [], [], [], noW (_), false, [], []⟩, ⟨15, [3], [], [], noW (_), false, [], []⟩, ⟨16, [], [], [], noW (_), false, [], []⟩, ⟨17, [5], [], [], noW (_), false, [], []⟩, ⟨18, [4, 6], [], [], noW (_), false, [], []⟩, ⟨19, [2, 7], [], [], noW (_), false, [], []⟩, ⟨20, [8], [], [], noW (_), false, [], []⟩, ⟨21, [], [], [], noW (_), false, [], []⟩, ⟨22, [10], [], [], noW (_), false, [], []⟩, ⟨23, [], [], [], noW (_), false, [], []⟩, ⟨24, [12], [], [], noW (_), false, [], []⟩, ⟨25, [11, 13], [], [], noW (_), false, [], []⟩, ⟨26, [9, 14], [], [], noW (_), false, [], []⟩, ⟨27, [15], [], [], noW (_), false, [], []⟩, ⟨28, [], [], [], noW (Det undef), false, [], []⟩, ⟨29, [], [], [], noW (Det undef), false, [], []⟩, ⟨30, [], [], [], noW (Det undef), false, [], []⟩, ⟨31, [], [], [], noW (Det undef), false, [], []⟩, ⟨32, [], [], [], noW (Det undef), false, [], []⟩, ⟨33, [], [], [], noW (Det undef), false, [], []⟩, ⟨34, [16, 22], [], [], noW (_), false, [], []⟩]) [] [1, 3] [⟨11, [], [], false, [], []⟩, ⟨12, [0], [], false, [], []⟩, ⟨13, [1], [], false, [], []⟩, ⟨14, [], [], false, [], []⟩, ⟨15, [3], [], false, [], []⟩, ⟨16, [], [], false, [], []⟩, ⟨17, [5], [], false, [], []⟩, ⟨18, [4, 6], [], false, [], []⟩, ⟨19, [2, 7], [], false, [], []⟩, ⟨20, [8], [], false, [], []⟩, ⟨21, [], [], false, [], []⟩, ⟨22, [10], [], false, [], []⟩, ⟨23, [], [], false, [], []⟩, ⟨24, [12], [], false, [], []⟩, ⟨25, [11, 13], [], false, [], []⟩, ⟨26, [9, 14], [], false, [], []⟩, ⟨27, [15], [], false, [], []⟩, ⟨28, [], [], false, [], []⟩, ⟨29, [], [], false, [], []⟩, ⟨30, [], [], false, [], []⟩, ⟨31, [], [], false, [], []⟩, ⟨32, [], [], false, [], []⟩, ⟨33, [], [], false, [], []⟩, ⟨34, [16, 22], [], false, [], []⟩] [[], [], [], [], [], [], [], [], [], [], [], [], [], [], [], [], [], [], [], [], [], [], [], []] [[], [], [], [], [], [], [], [], [], [], [], [], [], [], [], [], [], [], [], [], [], [], [], []] tMixxq (fun _ => by rfl) (fun _ => by rfl) (by kernel_rfl) (by kernel_rfl) (by rfl) (by rfl)
        (fun β => ⟨.p rfl (by intro X; exact op_move rfl),
        ⟨.p rfl (by intro X; rintro _ _ ⟨rfl, rfl⟩; exact op_val (v' := .bool false) (by rfl) (op_eqPtr rfl Try.underlying23)),
        ⟨.p rfl (by intro X; rintro _ _ ⟨rfl, rfl⟩; exact op_move rfl),
        ⟨.w rfl rfl rfl (by rintro _ _ ⟨rfl, rfl⟩; rfl) (by intro X; exact op_move rfl),
        ⟨.w rfl rfl rfl (by rintro _ _ ⟨rfl, rfl⟩; rfl) (by intro X; rintro _ _ ⟨rfl, rfl⟩; exact op_fn Try.func35 rfl rfl rfl (first_any (v := rawL L) (celLg 611 rfl) (Sl.lab 612 rfl (by show (rowsOf L.first L.segs).length ≤ _; unfold maxLen; omega)))),
        ⟨.w rfl rfl rfl (by rintro _ _ ⟨rfl, rfl⟩; rfl) (by intro X; exact op_fieldAddr (off := 1) rfl tF52_1xq),
        ⟨.w rfl rfl rfl (by rintro _ _ ⟨rfl, rfl⟩; rfl) (by intro X; rintro _ _ ⟨rfl, rfl⟩; exact op_load1 rfl tO3xq (Ent.lab (l := 3) rfl (says_cel 1))),
        ⟨.w rfl rfl rfl (by rintro _ _ ⟨rfl, rfl⟩; rfl) (by intro X; rintro _ _ ⟨rfl, rfl⟩ _ _ ⟨rfl, rfl⟩; exact op_val (v' := .bool false) (by rw [hfv, decide_eq_false]; omega) (op_neq rfl rfl)),
        ⟨.p rfl (by intro X; rintro _ _ ⟨rfl, rfl⟩ _ _ ⟨rfl, rfl⟩; exact op_pick_f rfl rfl),
        ⟨.p rfl (by intro X; rintro _ _ ⟨rfl, rfl⟩; exact op_move rfl),
        ⟨.w rfl rfl rfl (by rintro _ _ ⟨rfl, rfl⟩; rfl) (by intro X; exact op_move rfl),
        ⟨.w rfl rfl rfl (by rintro _ _ ⟨rfl, rfl⟩; rfl) (by intro X; rintro _ _ ⟨rfl, rfl⟩; exact op_fn Try.func17 rfl rfl rfl (last_any (v := rawL L) (celLg 611 rfl) (Sl.lab 612 rfl (by show (rowsOf L.first L.segs).length ≤ _; unfold maxLen; omega)))),
        ⟨.w rfl rfl rfl (by rintro _ _ ⟨rfl, rfl⟩; rfl) (by intro X; exact op_loadA rfl tA52xq (Ent.lab (l := 3) rfl (says_cel 0)) (Nat.le_of_ble_eq_true rfl)),
        ⟨.w rfl rfl rfl (by rintro _ _ ⟨rfl, rfl⟩; rfl) (by intro X; rintro _ _ ⟨rfl, rfl⟩; exact op_fn Try.func29 rfl rfl rfl (mlast_any (hm.slx rfl (by omega)) (hm.slr rfl (by omega)) (by omega) (by omega))),
        ⟨.w rfl rfl rfl (by rintro _ _ ⟨rfl, rfl⟩; rfl) (by intro X; rintro _ _ ⟨rfl, rfl⟩ _ _ ⟨rfl, rfl⟩; exact op_val (v' := .bool true) (by rw [hlv, decide_eq_true]; have h2 := hne.resolve_left (fun h => h hf); unfold lastN at *; omega) (op_neq rfl rfl)),
        ⟨.p rfl (by intro X; rintro _ _ ⟨rfl, rfl⟩ _ _ ⟨rfl, rfl⟩; exact op_pick_f rfl rfl),
        ⟨.p rfl (by intro X; rintro _ _ ⟨rfl, rfl⟩; exact op_move rfl),
        ⟨.u rfl rfl rfl (by rintro _ _ ⟨rfl, rfl⟩; exact congrArg (offB false) (by rfl : _ = Value.bool true)) ⟨rfl, rfl⟩ rfl rfl,
        ⟨.u rfl rfl rfl (by rintro _ _ ⟨rfl, rfl⟩; exact congrArg (offB false) (by rfl : _ = Value.bool true)) ⟨rfl, rfl⟩ rfl rfl,
        ⟨.u rfl rfl rfl (by rintro _ _ ⟨rfl, rfl⟩; exact congrArg (offB false) (by rfl : _ = Value.bool true)) ⟨rfl, rfl⟩ rfl rfl,
        ⟨.u rfl rfl rfl (by rintro _ _ ⟨rfl, rfl⟩; exact congrArg (offB false) (by rfl : _ = Value.bool true)) ⟨rfl, rfl⟩ rfl rfl,
        ⟨.u rfl rfl rfl (by rintro _ _ ⟨rfl, rfl⟩; exact congrArg (offB false) (by rfl : _ = Value.bool true)) ⟨rfl, rfl⟩ rfl rfl,
        ⟨.u rfl rfl rfl (by rintro _ _ ⟨rfl, rfl⟩; exact congrArg (offB false) (by rfl : _ = Value.bool true)) ⟨rfl, rfl⟩ rfl rfl,
        ⟨.p rfl (by intro X; rintro _ _ ⟨rfl, rfl⟩ _ _ ⟨rfl, rfl⟩; exact op_pick_t rfl rfl),
        trivial⟩⟩⟩⟩⟩⟩⟩⟩⟩⟩⟩⟩⟩⟩⟩⟩⟩⟩⟩⟩⟩⟩⟩⟩)
        (fun β β' => ⟨fun _ => by rfl, ⟨fun _ => by rfl, ⟨fun _ => by rfl, ⟨fun _ => by rfl, ⟨fun _ => by rfl, ⟨fun _ => by rfl, ⟨fun _ => by rfl, ⟨fun _ => by rfl, ⟨fun _ => by rfl, ⟨fun _ => by rfl, ⟨fun _ => by rfl, ⟨fun _ => by rfl, ⟨fun _ => by rfl, ⟨fun _ => by rfl, ⟨fun _ => by rfl, ⟨fun _ => by rfl, ⟨fun _ => by rfl, ⟨fun _ => by rfl, ⟨fun _ => by rfl, ⟨fun _ => by rfl, ⟨fun _ => by rfl, ⟨fun _ => by rfl, ⟨fun _ => by rfl, ⟨fun _ => by rfl, trivial⟩⟩⟩⟩⟩⟩⟩⟩⟩⟩⟩⟩⟩⟩⟩⟩⟩⟩⟩⟩⟩⟩⟩⟩) ?_
    intro β
    rintro _ _ ⟨rfl, rfl⟩ _ _ ⟨rfl, rfl⟩ _ _ ⟨rfl, rfl⟩ _ _ ⟨rfl, rfl⟩ _ _ ⟨rfl, rfl⟩ _ _ ⟨rfl, rfl⟩ _ _ ⟨rfl, rfl⟩ _ _ ⟨rfl, rfl⟩ _ _ ⟨rfl, rfl⟩ _ _ ⟨rfl, rfl⟩ _ _ ⟨rfl, rfl⟩ _ _ ⟨rfl, rfl⟩ _ _ ⟨rfl, rfl⟩ _ _ ⟨rfl, rfl⟩ _ _ ⟨rfl, rfl⟩ _ _ ⟨rfl, rfl⟩ _ _ ⟨rfl, rfl⟩ _ _ ⟨rfl, rfl⟩ _ _ ⟨rfl, rfl⟩ _ _ ⟨rfl, rfl⟩ _ _ ⟨rfl, rfl⟩ _ _ ⟨rfl, rfl⟩ _ _ ⟨rfl, rfl⟩ _ _ ⟨rfl, rfl⟩
    refine wl_norm (e' := [(1, _), (2, _), (3, _), (34, _)]) (.cons rfl (.cons rfl (.cons rfl (.cons rfl (.nil _))))) (by dsimp only [cond_false, cond_true, List.nil_append, List.cons_append]) ?_
    refine wl_nil (st_tn (w_cond_t (rfl) ?_))
    refine w_seq (w_region (za rfl (wl_nil (st_tn (w_ret (st_tr (st_ret (vs := [_]) [611, 612, 613, 614, 605, 606] Try.results31 ⟨rfl, trivial⟩ rfl ?_)))))))
    refine ⟨[(611, _), (612, _), (613, _), (614, _), (605, _), (606, _)], rfl, ?_⟩
    exact ⟨rfl, rfl⟩
  · -- hf-
    refine w_drawW (fun β => [⟨11, [], [], [], noW (_), false, [], []⟩, ⟨12, [0], [], [], noW (_), false, [], []⟩, ⟨13, [1], [], [], noW (_), false, [], []⟩, ⟨14, [], [], [], noW (_), false, [], []⟩, ⟨15, [3], [], [], noW (_), false, [], []⟩, ⟨16, [], [], [], noW (_), false, [], []⟩, ⟨17, [5], [], [], noW (_), false, [], []⟩, ⟨18, [4, 6], [], [], noW (_), false, [], []⟩, ⟨19, [2, 7], [], [], noW (_), false, [], []⟩, ⟨20, [8], [], [], noW (_), false, [], []⟩, ⟨21, [], [], [], noW (Det undef), false, [], []⟩, ⟨22, [], [], [], noW (Det undef), false, [], []⟩, ⟨23, [], [], [], noW (Det undef), false, [], []⟩, ⟨24, [], [], [], noW (Det undef), false, [], []⟩, ⟨25, [], [], [], noW (Det undef), false, [], []⟩, ⟨26, [9, 14], [], [], noW (_), false, [], []⟩, ⟨27, [15], [], [], noW (_), false, [], []⟩, ⟨28, [], [], [], noW (Det undef), false, [], []⟩, ⟨29, [], [], [], noW (Det undef), false, [], []⟩, ⟨30, [], [], [], noW (Det undef), false, [], []⟩, ⟨31, [], [], [], noW (Det undef), false, [], []⟩, ⟨32, [], [], [], noW (Det undef), false, [], []⟩, ⟨33, [], [], [], noW (Det undef), false, [], []⟩, ⟨34, [16, 22], [], [], noW (_), false, [], []⟩]) [] [1, 3] [⟨11, [], [], false, [], []⟩, ⟨12, [0], [], false, [], []⟩, ⟨13, [1], [], false, [], []⟩, ⟨14, [], [], false, [], []⟩, ⟨15, [3], [], false, [], []⟩, ⟨16, [], [], false, [], []⟩, ⟨17, [5], [], false, [], []⟩, ⟨18, [4, 6], [], false, [], []⟩, ⟨19, [2, 7], [], false, [], []⟩, ⟨20, [8], [], false, [], []⟩, ⟨21, [], [], false, [], []⟩, ⟨22, [], [], false, [], []⟩, ⟨23, [], [], false, [], []⟩, ⟨24, [], [], false, [], []⟩, ⟨25, [], [], false, [], []⟩, ⟨26, [9, 14], [], false, [], []⟩, ⟨27, [15], [], false, [], []⟩, ⟨28, [], [], false, [], []⟩, ⟨29, [], [], false, [], []⟩, ⟨30, [], [], false, [], []⟩, ⟨31, [], [], false, [], []⟩, ⟨32, [], [], false, [], []⟩, ⟨33, [], [], false, [], []⟩, ⟨34, [16, 22], [], false, [], []⟩] [[], [], [], [], [], [], [], [], [], [], [], [], [], [], [], [], [], [], [], [], [], [], [], []] [[], [], [], [], [], [], [], [], [], [], [], [], [], [], [], [], [], [], [], [], [], [], [], []] tMixxq (fun _ => by rfl) (fun _ => by rfl) (by kernel_rfl) (by kernel_rfl) (by rfl) (by rfl)
        (fun β => ⟨.p rfl (by intro X; exact op_move rfl),
        ⟨.p rfl (by intro X; rintro _ _ ⟨rfl, rfl⟩; exact op_val (v' := .bool false) (by rfl) (op_eqPtr rfl Try.underlying23)),
        ⟨.p rfl (by intro X; rintro _ _ ⟨rfl, rfl⟩; exact op_move rfl),
        ⟨.w rfl rfl rfl (by rintro _ _ ⟨rfl, rfl⟩; rfl) (by intro X; exact op_move rfl),
        ⟨.w rfl rfl rfl (by rintro _ _ ⟨rfl, rfl⟩; rfl) (by intro X; rintro _ _ ⟨rfl, rfl⟩; exact op_fn Try.func35 rfl rfl rfl (first_any (v := rawL L) (celLg 611 rfl) (Sl.lab 612 rfl (by show (rowsOf L.first L.segs).length ≤ _; unfold maxLen; omega)))),
        ⟨.w rfl rfl rfl (by rintro _ _ ⟨rfl, rfl⟩; rfl) (by intro X; exact op_fieldAddr (off := 1) rfl tF52_1xq),
        ⟨.w rfl rfl rfl (by rintro _ _ ⟨rfl, rfl⟩; rfl) (by intro X; rintro _ _ ⟨rfl, rfl⟩; exact op_load1 rfl tO3xq (Ent.lab (l := 3) rfl (says_cel 1))),
        ⟨.w rfl rfl rfl (by rintro _ _ ⟨rfl, rfl⟩; rfl) (by intro X; rintro _ _ ⟨rfl, rfl⟩ _ _ ⟨rfl, rfl⟩; exact op_val (v' := .bool true) (by rw [hfv, decide_eq_true]; omega) (op_neq rfl rfl)),
        ⟨.p rfl (by intro X; rintro _ _ ⟨rfl, rfl⟩ _ _ ⟨rfl, rfl⟩; exact op_pick_f rfl rfl),
        ⟨.p rfl (by intro X; rintro _ _ ⟨rfl, rfl⟩; exact op_move rfl),
        ⟨.u rfl rfl rfl (by rintro _ _ ⟨rfl, rfl⟩; exact congrArg (offB false) (by rfl : _ = Value.bool true)) ⟨rfl, rfl⟩ rfl rfl,
        ⟨.u rfl rfl rfl (by rintro _ _ ⟨rfl, rfl⟩; exact congrArg (offB false) (by rfl : _ = Value.bool true)) ⟨rfl, rfl⟩ rfl rfl,
        ⟨.u rfl rfl rfl (by rintro _ _ ⟨rfl, rfl⟩; exact congrArg (offB false) (by rfl : _ = Value.bool true)) ⟨rfl, rfl⟩ rfl rfl,
        ⟨.u rfl rfl rfl (by rintro _ _ ⟨rfl, rfl⟩; exact congrArg (offB false) (by rfl : _ = Value.bool true)) ⟨rfl, rfl⟩ rfl rfl,
        ⟨.u rfl rfl rfl (by rintro _ _ ⟨rfl, rfl⟩; exact congrArg (offB false) (by rfl : _ = Value.bool true)) ⟨rfl, rfl⟩ rfl rfl,
        ⟨.p rfl (by intro X; rintro _ _ ⟨rfl, rfl⟩ _ _ ⟨rfl, rfl⟩; exact op_pick_t rfl rfl),
        ⟨.p rfl (by intro X; rintro _ _ ⟨rfl, rfl⟩; exact op_move rfl),
        ⟨.u rfl rfl rfl (by rintro _ _ ⟨rfl, rfl⟩; exact congrArg (offB false) (by rfl : _ = Value.bool true)) ⟨rfl, rfl⟩ rfl rfl,
        ⟨.u rfl rfl rfl (by rintro _ _ ⟨rfl, rfl⟩; exact congrArg (offB false) (by rfl : _ = Value.bool true)) ⟨rfl, rfl⟩ rfl rfl,
        ⟨.u rfl rfl rfl (by rintro _ _ ⟨rfl, rfl⟩; exact congrArg (offB false) (by rfl : _ = Value.bool true)) ⟨rfl, rfl⟩ rfl rfl,
        ⟨.u rfl rfl rfl (by rintro _ _ ⟨rfl, rfl⟩; exact congrArg (offB false) (by rfl : _ = Value.bool true)) ⟨rfl, rfl⟩ rfl rfl,
        ⟨.u rfl rfl rfl (by rintro _ _ ⟨rfl, rfl⟩; exact congrArg (offB false) (by rfl : _ = Value.bool true)) ⟨rfl, rfl⟩ rfl rfl,
        ⟨.u rfl rfl rfl (by rintro _ _ ⟨rfl, rfl⟩; exact congrArg (offB false) (by rfl : _ = Value.bool true)) ⟨rfl, rfl⟩ rfl rfl,
        ⟨.p rfl (by intro X; rintro _ _ ⟨rfl, rfl⟩ _ _ ⟨rfl, rfl⟩; exact op_pick_t rfl rfl),
        trivial⟩⟩⟩⟩⟩⟩⟩⟩⟩⟩⟩⟩⟩⟩⟩⟩⟩⟩⟩⟩⟩⟩⟩⟩)
        (fun β β' => ⟨fun _ => by rfl, ⟨fun _ => by rfl, ⟨fun _ => by rfl, ⟨fun _ => by rfl, ⟨fun _ => by rfl, ⟨fun _ => by rfl, ⟨fun _ => by rfl, ⟨fun _ => by rfl, ⟨fun _ => by rfl, ⟨fun _ => by rfl, ⟨fun _ => by rfl, ⟨fun _ => by rfl, ⟨fun _ => by rfl, ⟨fun _ => by rfl, ⟨fun _ => by rfl, ⟨fun _ => by rfl, ⟨fun _ => by rfl, ⟨fun _ => by rfl, ⟨fun _ => by rfl, ⟨fun _ => by rfl, ⟨fun _ => by rfl, ⟨fun _ => by rfl, ⟨fun _ => by rfl, ⟨fun _ => by rfl, trivial⟩⟩⟩⟩⟩⟩⟩⟩⟩⟩⟩⟩⟩⟩⟩⟩⟩⟩⟩⟩⟩⟩⟩⟩) ?_
    intro β
    rintro _ _ ⟨rfl, rfl⟩ _ _ ⟨rfl, rfl⟩ _ _ ⟨rfl, rfl⟩ _ _ ⟨rfl, rfl⟩ _ _ ⟨rfl, rfl⟩ _ _ ⟨rfl, rfl⟩ _ _ ⟨rfl, rfl⟩ _ _ ⟨rfl, rfl⟩ _ _ ⟨rfl, rfl⟩ _ _ ⟨rfl, rfl⟩ _ _ ⟨rfl, rfl⟩ _ _ ⟨rfl, rfl⟩ _ _ ⟨rfl, rfl⟩ _ _ ⟨rfl, rfl⟩ _ _ ⟨rfl, rfl⟩ _ _ ⟨rfl, rfl⟩ _ _ ⟨rfl, rfl⟩ _ _ ⟨rfl, rfl⟩ _ _ ⟨rfl, rfl⟩ _ _ ⟨rfl, rfl⟩ _ _ ⟨rfl, rfl⟩ _ _ ⟨rfl, rfl⟩ _ _ ⟨rfl, rfl⟩ _ _ ⟨rfl, rfl⟩
    refine wl_norm (e' := [(1, _), (2, _), (3, _), (34, _)]) (.cons rfl (.cons rfl (.cons rfl (.cons rfl (.nil _))))) (by dsimp only [cond_false, cond_true, List.nil_append, List.cons_append]) ?_
    refine wl_nil (st_tn (w_cond_t (rfl) ?_))
    refine w_seq (w_region (za rfl (wl_nil (st_tn (w_ret (st_tr (st_ret (vs := [_]) [611, 612, 613, 614, 605, 606] Try.results31 ⟨rfl, trivial⟩ rfl ?_)))))))
    refine ⟨[(611, _), (612, _), (613, _), (614, _), (605, _), (606, _)], rfl, ?_⟩
    exact ⟨rfl, rfl⟩
theorem agreesF_c {σ : World} {F : List Res} {b d : Nat} {nm : RdM.Bs} {L M : Lg} {P1 : PS} {P2 : PX} {v : Value} (lab : Nat) (hS : Sm L) (hSM : Sm M) (hM : MS P1 P2 v M) (hne : M.first ≠ L.first ∨ lastN M ≠ lastN L) :
    FnT Try.prog σ F 31 [v, .pointer (some ⟨b, 0, none⟩), .string (str nm)] [(lab, lgR b d nm L), (605, poolS P1), (606, poolX P2)] (fun u ρ => u = .bool false ∧ ρ = [(lab, lgR b d nm L), (605, poolS P1), (606, poolX P2)]) :=
  fn_oc ((lg_opens b d nm L).app (opens_id [poolS P1, poolX P2])) rfl (R := fun i => cL b d nm L i.1.1 ++ [(605, poolS P1), (606, poolX P2)]) (fun i => rfl) (fun i => agreesF_any (d := d) (m := i.1.1.1) (a0 := i.1.1.2.1) (c0 := i.1.1.2.2.1) (p0 := i.1.1.2.2.2.1) (cp0 := i.1.1.2.2.2.2.1) hS hSM hM hne)
    fun i u ρ ⟨h1, h2⟩ => ⟨[(lab, lgR b d nm L), (605, poolS P1), (606, poolX P2)], ⟨h1, rfl⟩, by rw [h2]; exact Closes.app (lg_closes i.1.1 i.1.2) (Closes.refl [poolS P1, poolX P2])⟩
end Go.Proofs.Ytcbigmgakdanjaa
namespace Go.Proofs.Ytcbigmgakdanjaa
open Go Go.SL Go.RowKit Go.RdM Go.WalM
set_option linter.unusedVariables false
set_option linter.unusedSimpArgs false
theorem tA41xr : aggB Try.prog 41 3 = true := by kernel_rfl
theorem tA52xr : aggB Try.prog 52 4 = true := by kernel_rfl
theorem tF41_0xr : fieldB Try.prog 41 0 0 = true := by kernel_rfl
theorem tF52_0xr : fieldB Try.prog 52 0 0 = true := by kernel_rfl
theorem tMixxr : Try.prog.follows .mixedOrders = true := by kernel_rfl
theorem tN52xr : (Try.prog.info? 52).bind (·.zero) = some (Value.agg #[Value.slice none 0 0, Value.int .i64 0, Value.slice none 0 0, Value.bool false]) := by kernel_rfl
theorem tO5xr : oneB Try.prog 5 = true := by kernel_rfl
theorem tO50xr : oneB Try.prog 50 = true := by kernel_rfl
theorem tS27xr : sliceB Try.prog 27 5 1 = true := by kernel_rfl
theorem tS35xr : sliceB Try.prog 35 9 1 = true := by kernel_rfl
theorem tS49xr : sliceB Try.prog 49 41 3 = true := by kernel_rfl
theorem tS50xr : sliceB Try.prog 50 96 3 = true := by kernel_rfl
theorem tS66xr : sliceB Try.prog 66 3 1 = true := by kernel_rfl
theorem tZ52xr : (Try.prog.info? 52).map (·.size) = some 4 := by kernel_rfl
section
variable {P : Program} {σ : World} {n : Nat} {F : List Res} {e : Env} {R : RL} {dst : Option Tmp} {ty : TypeId} {pos : String} {after : Array Edge} {guard : Option (Nat × Bool)}
theorem wrap_u8' {z : Int} (h : 0 ≤ z ∧ z ≤ 255) : IntKind.u8.wrap z = z := by simp [IntKind.bits, IntKind.wrap, IntKind.signed]; omega
theorem op_quo8 {x y : Operand} {a b : Int} {t t2 : TypeId} (hx : ev e x = some (.int .u8 a)) (hy : ev e y = some (.int .u8 b)) (ha : 0 ≤ a) (hb : 0 < b) (hm : a ≤ 255) : OpT P σ n F ⟨dst, .binOp .quo t x y t2, ty, pos, after, guard⟩ e [] (Det (.int .u8 (a / b))) := by
  have := op_quo (P := P) (σ := σ) (n := n) (F := F) (dst := dst) (t := t) (t2 := t2) (ty := ty) (pos := pos) (after := after) (guard := guard) hx hy (by omega)
  rw [Int.tdiv_eq_ediv_of_nonneg ha, wrap_u8' ⟨by have := Int.ediv_nonneg ha (by omega : 0 ≤ b); omega, by have := Int.ediv_le_self b ha; omega⟩] at this
  exact this
end
theorem trS_zero {f : Nat} {n : Int} : ∀ S : List Sg, trS f S n 0 = 0
  | [] => rfl
  | [x] => rfl
  | x :: y :: l => rfl
theorem trS_at {n : Int} : ∀ {k f j : Nat} {S : List Sg}, j ≤ trS f S n k → trS f S n j = j
  | k, f, 0, S, _ => trS_zero S
  | k, f, j + 1, [], h => by cases k <;> simp [trS] at h
  | k, f, j + 1, [x], h => by cases k <;> simp [trS] at h
  | 0, f, j + 1, x :: y :: l, h => by simp [trS] at h
  | k + 1, f, j + 1, x :: y :: l, h => by
    rw [trS] at h ⊢
    by_cases hc : (f : Int) + x.recs.length - 1 ≤ n
    · rw [if_pos hc] at h ⊢
      rw [trS_at (k := k) (by omega)]
    · rw [if_neg hc] at h; omega
theorem trS_lt : ∀ (k f : Nat) (S : List Sg) (n : Int), trS f S n k = 0 ∨ trS f S n k < S.length
  | 0, f, S, n => .inl (trS_zero S)
  | k + 1, f, [], n => .inl rfl
  | k + 1, f, [x], n => .inl rfl
  | k + 1, f, x :: y :: l, n => by
    rw [trS]
    by_cases hc : (f : Int) + x.recs.length - 1 ≤ n
    · rw [if_pos hc]
      have := trS_lt k (f + x.recs.length) (y :: l) n
      simp only [List.length_cons] at this ⊢
      omega
    · rw [if_neg hc]; exact .inl rfl
theorem sm_drop {L : Lg} {j : Nat} (h : Sm L) (ht : L.first + (allR L.segs).length ≤ 100000) (hj : j = 0 ∨ j < L.segs.length) : Sm (openL (dropL L j)) := by
  have h1 : (allR (L.segs.take j)).length + (allR (L.segs.drop j)).length = (allR L.segs).length := by
    rw [← List.length_append, ← allR_app, List.take_append_drop]
  have h2 := h.ok.seg.pos
  have h3 := h.ok.sz
  have h4 := h.all
  have h5 := h.fst
  have h6 := allR_take_le L.segs j
  refine ⟨⟨⟨?_, fun hn => ?_, h.ok.seg.inc.sublist (List.drop_sublist _ _), fun x hx => h.ok.seg.num x (List.mem_of_mem_drop hx), fun x hx => h.ok.seg.grp x (List.mem_of_mem_drop hx)⟩, fun r hr => by simp [openL] at hr, by simp [openL], ?_⟩, rfl, ?_, ?_, by simp [openL]⟩
  · show 1 ≤ L.first + _; omega
  · change L.segs.drop j = [] at hn
    have hl := congrArg List.length hn
    rw [List.length_drop, List.length_nil] at hl
    rcases hj with rfl | hj
    · have := h.ok.seg.nil (List.eq_nil_of_length_eq_zero (by omega))
      show L.first + _ = 1
      simp [allR, this]
    · omega
  · show L.first + (allR (L.segs.take j)).length + (allR (L.segs.drop j)).length ≤ _; omega
  · show (allR (L.segs.drop j)).length ≤ _; omega
  · show L.first + (allR (L.segs.take j)).length ≤ _; omega
theorem first_lt {L : Lg} {j k : Nat} (h : OkS L.first L.segs) (hj : j < k) (hk : k ≤ L.segs.length) : (dropL L j).first < (dropL L k).first := by
  have h1 : L.segs.take k = L.segs.take j ++ (L.segs.drop j).take (k - j) := by
    rw [← List.take_add]; congr 1; omega
  have h2 : 0 < (allR ((L.segs.drop j).take (k - j))).length := by
    have h3 := segs_le_all (segs := (L.segs.drop j).take (k - j)) fun x hx => h.grp x (List.mem_of_mem_drop (List.mem_of_mem_take hx))
    rw [List.length_take, List.length_drop] at h3
    omega
  show L.first + _ < L.first + _
  rw [h1, allR_app, List.length_append]; omega
theorem last_lt {L : Lg} (h : OkS L.first L.segs) (hp : L.pend ≠ []) : lastN L < lastN (commitL L) := by
  have h1 := allR_commit L
  have h2 := h.pos
  have h3 := List.length_pos_iff.2 hp
  unfold lastN
  rw [first_commit, h1, List.length_append]; omega
theorem mtrunc4 {σ : World} {F : List Res} {P1 : PS} {P2 : PX} {v : Value} {L : Lg} (n : Int) (k : Nat) (hn : -9223372036854775808 ≤ n ∧ n ≤ 9223372036854775807) (hk : k ≤ 1099511627776) (hS : Sm L) (hM : MS P1 P2 (st4 v) L) :
    FnT Try.prog σ F 40 [st4 v, .int .i64 n, .int .i64 k] [(605, poolS P1), (606, poolX P2)] (fun u ρ => ∃ w, MS P1 P2 (st4 w) (dropL L (trS L.first L.segs n k)) ∧ u = st4 w ∧ ρ = [(605, poolS P1), (606, poolX P2)]) := by
  obtain ⟨a, c, p, cp, Y, hm⟩ := hM
  have hal := hS.all
  have hfs := hS.fst
  have hsg := hS.segl
  have hrec := congrArg List.length hm.rel.recs
  have htj := trJ_S (n := n) (k := k) (f := L.first) hm.rel
  have htl := trJ_lt k L.first Y n
  rw [hm.val]
  refine fn_imp (fn_fr [] [(605, poolS P1), (606, poolX P2)] (mtrunc_any n k hn hk (hm.slx (R := [(605, poolS P1), (606, poolX P2)]) rfl (by omega)) (hm.slr (R := [(605, poolS P1), (606, poolX P2)]) rfl (by omega)) (by omega))) ?_
  rintro u ρ ⟨ρ0, ⟨h1, h2⟩, h3⟩
  subst h2
  refine ⟨_, ?_, h1.trans (st4_agg _ _ _ _ _ _ _ _).symm, h3⟩
  rw [st4_agg, ← htj]
  refine ⟨_, _, p, cp, Y.drop (trJ L.first Y n k), ?_, .sub _ hm.inx htl.1, fun x hx => hm.ins x (List.mem_of_mem_drop hx), hm.inp, yrel_drop hm.rel _⟩
  have h3 := congrArg List.length (yrel_take hm.rel (trJ L.first Y n k)).recs
  unfold dropL
  dsimp only
  rw [← h3]
theorem mnumber4 {σ : World} {F : List Res} {P1 : PS} {P2 : PX} {v : Value} {L : Lg} (x : OpL) (hx : 0 ≤ x.n ∧ x.n ≤ 255) (hS : Sm L) (hM : MS P1 P2 (st4 v) L) :
    FnT Try.prog σ F 41 [.agg (encOpL x).toArray, st4 v] [] (fun u ρ => u = .int .i64 (L.first + x.n % 12 - 2) ∧ ρ = []) := by
  obtain ⟨a, c, p, cp, Y, hm⟩ := hM
  have hfs := hS.fst
  rw [hm.val]
  exact mnumber_any x hx (by omega)
theorem sm_open {L : Lg} (h : Sm L) : Sm (openL L) := ⟨⟨h.ok.seg, fun r hr => by simp [openL] at hr, by simp [openL], h.ok.sz⟩, rfl, h.all, h.fst, by simp [openL]⟩
theorem com_broken {nm : RdM.Bs} {L : Lg} {s : DskM.St} (h : L.broken = true) : comO nm L s = ((0, 18), L, s) := by unfold comO; rw [if_pos h]
theorem MS.sl0 {P1 : PS} {P2 : PX} {v : Value} {L : Lg} (h : MS P1 P2 (Go.Proofs.Ytcbigmgakdanjaa.st4 v) L) (hS : Sm L) : ∃ Y : List SegV, Y.length = L.segs.length ∧ ∀ {σ : World} {R : RL} {F : List Res}, getL R 606 = some (poolX P2) → Sl σ (rs R ++ F) encSegV 3 (.slice (vA (nth v 0)) (vL (nth v 0)) (vC (nth v 0))) Y := by
  obtain ⟨a, c, p, cp, Y, hm⟩ := h
  refine ⟨Y, hm.rel.len, fun hg => ?_⟩
  have := hm.val
  unfold Go.Proofs.Ytcbigmgakdanjaa.st4 sl1 at this
  simp only [Value.agg.injEq, Array.mk.injEq, List.cons.injEq, Value.slice.injEq, Value.int.injEq, true_and, and_true] at this
  obtain ⟨⟨e1, e2, e3⟩, e4, _⟩ := this
  rw [e1, e2, e3]
  exact hm.slx hg (by have := hS.segl; omega)
def Cand (P1 : PS) (P2 : PX) (x : OpL) (v' : Value) (L M : Lg) (j0 : Nat) : Prop :=
  (x.k % 8 ≠ 6 ∧ L.pend ≠ [] ∧ MS P1 P2 (st4 v') (commitL L) ∧ (M = L ∨ M = commitL L)) ∨ (x.k % 8 = 6 ∧ j0 ≤ trS L.first L.segs (L.first + x.n % 12 - 2) L.segs.length ∧ M = dropL L j0)
def Nxt (x : OpL) (L M : Lg) (j0 j : Nat) : Prop := (x.k % 8 = 6 → j ≤ j0) ∧ (x.k % 8 ≠ 6 → j = 0 ∨ M = commitL L)
def Inv2 (P1 : PS) (P2 : PX) (x : OpL) (v' : Value) (L M : Lg) (j0 b j : Nat) (fd : Bool) (pb : Nat) (w : Value) : Prop :=
  (fd = true → pb = b ∧ MS P1 P2 (st4 w) (openL M)) ∧ (fd = false → w = v' ∧ Nxt x L M j0 j)
def One (P1 : PS) (P2 : PX) (x : OpL) (L M : Lg) (j0 j : Nat) (W : Value) (N : Lg) : Prop :=
  MS P1 P2 (op4 W) (openL N) ∧ (N ≠ M → Sm (openL N) ∧ ((openL N).first ≠ (openL M).first ∨ lastN (openL N) ≠ lastN (openL M)) ∧ Nxt x L M j0 (j + 1))
theorem one_six {P1 : PS} {P2 : PX} {x : OpL} {v' W : Value} {L M : Lg} {j0 j : Nat} (hC : Cand P1 P2 x v' L M j0) (h6 : x.k % 8 = 6) (hN : Nxt x L M j0 j) (hS : Sm L) (ht : L.first + (allR L.segs).length ≤ 100000) (hW : MS P1 P2 (st4 W) (dropL L (trS L.first L.segs (L.first + x.n % 12 - 2) j))) : ∃ N, One P1 P2 x L M j0 j W N := by
  obtain ⟨_, hj0, hM⟩ := hC.resolve_left fun h => h.1 h6
  have hj := hN.1 h6
  have hle := trS_le L.segs.length L.first L.segs (L.first + x.n % 12 - 2)
  have hlt := trS_lt L.segs.length L.first L.segs (L.first + x.n % 12 - 2)
  rw [trS_at (k := L.segs.length) (by omega)] at hW
  refine ⟨dropL L j, ms_opn hW, fun hne => ?_⟩
  have hjj : j < j0 := by
    rcases Nat.lt_or_ge j j0 with h | h
    · exact h
    · exact absurd (by rw [hM, show j = j0 by omega]) hne
  refine ⟨sm_drop hS ht (by omega), .inl ?_, fun _ => hjj, fun h => absurd h6 h⟩
  have := first_lt hS.ok.seg hjj (by omega)
  rw [hM]
  show (dropL L j).first ≠ (dropL L j0).first
  omega
theorem one_pos {P1 : PS} {P2 : PX} {x : OpL} {v' : Value} {L M : Lg} {j0 j : Nat} (hC : Cand P1 P2 x v' L M j0) (h6 : x.k % 8 ≠ 6) (hN : Nxt x L M j0 j) (hj : 0 < j) : ∃ N, One P1 P2 x L M j0 j v' N := by
  obtain ⟨_, _, hM, _⟩ := hC.resolve_right fun h => h6 h.1
  have h1 : M = commitL L := (hN.2 h6).resolve_left (by omega)
  exact ⟨commitL L, ms_opn hM, fun hne => absurd h1.symm hne⟩
theorem one_zero {P1 : PS} {P2 : PX} {x : OpL} {v v' : Value} {L M : Lg} {j0 j : Nat} (hC : Cand P1 P2 x v' L M j0) (h6 : x.k % 8 ≠ 6) (hS : Sm L) (hv : MS P1 P2 (st4 v) L) : ∃ N, One P1 P2 x L M j0 j v N := by
  obtain ⟨_, hp, _, hM⟩ := hC.resolve_right fun h => h6 h.1
  refine ⟨L, ms_opn hv, fun hne => ?_⟩
  have h1 : M = commitL L := hM.resolve_left fun h => hne h.symm
  have := last_lt hS.ok.seg hp
  refine ⟨sm_open hS, .inr ?_, fun h => absurd h h6, fun _ => .inr h1⟩
  rw [h1]
  show lastN L ≠ lastN (commitL L)
  omega
theorem cand_end {P1 : PS} {P2 : PX} {x : OpL} {v' : Value} {L M : Lg} {j0 j : Nat} (hC : Cand P1 P2 x v' L M j0) (hN : Nxt x L M j0 j) (hj : L.segs.length < j) : MS P1 P2 (st4 v') M := by
  rcases hC with ⟨h6, _, hM, _⟩ | ⟨h6, hj0, _⟩
  · have h1 : M = commitL L := (hN.2 h6).resolve_left (by omega)
    rw [h1]; exact hM
  · have := hN.1 h6
    have := trS_le L.segs.length L.first L.segs (L.first + x.n % 12 - 2)
    omega
abbrev nmQ : RdM.Bs := [108, 111, 103]
def vQ : Value := .agg #[.slice none 0 0, .int .i64 1, .slice none 0 0, .bool true]
theorem runQ_qt {nm : RdM.Bs} {i : Nat} {M : Lg} {s : DskM.St} (h : Rn nm i M s) : Rn nm i M (qt s) := h.st rfl rfl h.dn rfl ⟨h.good.lo, h.good.hi⟩
set_option maxHeartbeats 4000000 in
set_option maxRecDepth 100000 in
theorem lawRecovers_any {σ : World} {F : List Res} {a a1 a2 : Option Addr} {c c1 c2 : Nat} {l : List OpL} {l1 : RdM.Bs} {sc : List Int} (h : Sl σ F encOpL 3 (.slice a l.length c) l) (hb : ∀ p ∈ l, (0 ≤ p.k ∧ p.k ≤ 255) ∧ (0 ≤ p.z ∧ p.z ≤ 255) ∧ (0 ≤ p.n ∧ p.n ≤ 255)) (h1 : Sl σ F encU 1 (.slice a1 l1.length c1) l1) (hsc : Sl σ F SL.encZ 1 (.slice a2 sc.length c2) sc) : FnT Try.prog σ F 10 [.slice a l.length c, .slice a1 l1.length c1, .slice a2 sc.length c2] [] (fun u ρ => u = .bool true ∧ ρ = []) := by
  refine fn_of 197 Try.func10 rfl Try.ntmps10 rfl ?_
  have hle := h.i64
  have hle1 := h1.i64
  have hle2 := hsc.i64
  refine w_seq (w_region (za rfl (wl_nil (st_tn (w_seq (w_region (wl_op [] rfl rfl rfl rfl (op_fn Try.func12 rfl rfl rfl (made_c 601 611 262144 nmQ (by decide) name_log)) ?_)))))))
  rintro _ _ ⟨d24, b24, rfl, rfl⟩
  refine zm rfl (zd rfl (op_extract rfl rfl) (zd rfl (op_extract rfl rfl) (za rfl (za rfl (wl_nil (st_tn (w_seq (w_seq (w_region (zd rfl (op_fn Try.func13 rfl rfl rfl (known_any)) (zd rfl (op_not_t rfl) (zm rfl (wl_wanted_det rfl rfl rfl rfl rfl rfl rfl (op_move rfl) ?_)))))))))))))
  refine wl_wanted_det rfl rfl rfl rfl rfl rfl rfl (op_val (v' := .bool false) (by rfl) (op_eqPtr rfl Try.underlying23)) ?_
  refine zd rfl (op_pick_f rfl rfl) (zm rfl (wl_wanted_det rfl rfl rfl rfl rfl rfl rfl (op_move rfl) (wl_wanted_det rfl rfl rfl rfl rfl rfl rfl (op_lenT rfl tS49xr (Sl.ent (by first | exact Sl.app (by assumption) _ | exact Sl.app (Sl.app (by assumption) _) _))) ?_)))
  refine wl_wanted_det rfl rfl rfl rfl rfl rfl rfl (op_gtr rfl rfl) (zd rfl (op_pick_f rfl rfl) (zm rfl (wl_gsplit (t := 38) rfl (fun hg38 => ?_) (fun hg38 => ?_))))
  · -- 38 is True
    refine wl_unwanted rfl rfl rfl rfl rfl rfl rfl rfl (wl_unwanted rfl rfl rfl rfl rfl rfl rfl rfl (wl_unwanted rfl rfl rfl rfl rfl rfl rfl rfl (zd rfl (op_pick_t rfl rfl) (zm rfl (wl_unwanted rfl rfl rfl rfl rfl rfl rfl rfl (wl_unwanted rfl rfl rfl rfl rfl rfl rfl rfl (wl_unwanted rfl rfl rfl rfl rfl rfl rfl rfl (zd rfl (op_pick_t rfl rfl) (wl_nil (st_tn (w_cond_t (rfl) ?_)))))))))))
    refine w_seq (w_region (zd rfl (op_fn Try.func13 rfl rfl rfl (known_any)) (zm rfl (wl_wanted_det rfl rfl rfl rfl rfl rfl rfl (op_move rfl) (wl_wanted_det rfl rfl rfl rfl rfl rfl rfl (op_val (v' := .bool true) (by rfl) (op_nePtr rfl Try.underlying23)) ?_)))))
    refine zd rfl (op_pick_t rfl rfl) (za rfl (wl_nil (st_tn (w_ret (st_tr (st_ret (vs := [_]) [] Try.results10 ⟨rfl, trivial⟩ rfl ?_))))))
    refine ⟨_, rfl, ?_⟩
    exact ⟨rfl, rfl⟩
  · -- 38 is False
    refine wl_wanted_det rfl rfl rfl rfl rfl rfl rfl (op_move rfl) (wl_wanted_det rfl rfl rfl rfl rfl rfl rfl (op_lenT rfl tS27xr (Sl.ent (by first | exact Sl.app (by assumption) _ | exact Sl.app (Sl.app (by assumption) _) _))) ?_)
    refine wl_wanted_det rfl rfl rfl rfl rfl rfl rfl (op_gtr rfl rfl) (zd rfl (op_pick_f rfl rfl) (zm rfl (wl_gsplit (t := 43) rfl (fun hg43 => ?_) (fun hg43 => ?_))))
    · -- 43 is True
      refine wl_unwanted rfl rfl rfl rfl rfl rfl rfl rfl (wl_unwanted rfl rfl rfl rfl rfl rfl rfl rfl (wl_unwanted rfl rfl rfl rfl rfl rfl rfl rfl (zd rfl (op_pick_t rfl rfl) (wl_nil (st_tn (w_cond_t (rfl) ?_))))))
      refine w_seq (w_region (zd rfl (op_fn Try.func13 rfl rfl rfl (known_any)) (zm rfl (wl_wanted_det rfl rfl rfl rfl rfl rfl rfl (op_move rfl) (wl_wanted_det rfl rfl rfl rfl rfl rfl rfl (op_val (v' := .bool true) (by rfl) (op_nePtr rfl Try.underlying23)) ?_)))))
      refine zd rfl (op_pick_t rfl rfl) (za rfl (wl_nil (st_tn (w_ret (st_tr (st_ret (vs := [_]) [] Try.results10 ⟨rfl, trivial⟩ rfl ?_))))))
      refine ⟨_, rfl, ?_⟩
      exact ⟨rfl, rfl⟩
    · -- 43 is False
      refine wl_wanted_det rfl rfl rfl rfl rfl rfl rfl (op_move rfl) (wl_wanted_det rfl rfl rfl rfl rfl rfl rfl (op_lenT rfl tS66xr (Sl.ent (by first | exact Sl.app (by assumption) _ | exact Sl.app (Sl.app (by assumption) _) _))) ?_)
      refine wl_wanted_det rfl rfl rfl rfl rfl rfl rfl (op_gtr rfl rfl) (zd rfl (op_pick_f rfl rfl) (wl_nil (st_tn (w_cond_d rfl (fun hc47 => ?_) (fun hc47 => ?_)))))
      · -- c47.t
        refine w_seq (w_region (zd rfl (op_fn Try.func13 rfl rfl rfl (known_any)) (zm rfl (wl_wanted_det rfl rfl rfl rfl rfl rfl rfl (op_move rfl) (wl_wanted_det rfl rfl rfl rfl rfl rfl rfl (op_val (v' := .bool true) (by rfl) (op_nePtr rfl Try.underlying23)) ?_)))))
        refine zd rfl (op_pick_t rfl rfl) (za rfl (wl_nil (st_tn (w_ret (st_tr (st_ret (vs := [_]) [] Try.results10 ⟨rfl, trivial⟩ rfl ?_))))))
        refine ⟨_, rfl, ?_⟩
        exact ⟨rfl, rfl⟩
      · -- c47.f
        refine w_skip (st_tn (w_seq (w_region (zd rfl (op_fn Try.func26 rfl rfl rfl mbegin_any) (wl_op [] rfl rfl rfl rfl (op_alloc (l := 9) tN52xr) ?_)))))
        rintro _ _ ⟨b9, rfl, rfl⟩
        refine wl_op0 [9] rfl rfl rfl (op_store rfl rfl tZ52xr (by rfl) (by rfl) (by exact Nat.le_of_ble_eq_true rfl)) ?_
        rintro _ _ ⟨rfl, rfl⟩
        refine wl_nil (st_tn (w_seq (w_seq (w_emp 605 poolS_nil ?_))))
        refine w_emp 606 poolX_nil ?_
        refine w_cls [601, 611, 605, 606] (C := [(601, runQ nmQ d24 b24 0 vQ)]) runQ_new rfl ?_
        refine w_region (za rfl (wl_nil (st_tn (w_block ?_))))
        refine w_loopQ (X := Nat × Nat × ValX) (fun z => z.1 ≤ l.length) (fun z => [(10, .int .i64 (z.1)), (8, .pointer (some ⟨(z.2.1), 0, none⟩))]) (fun z => [(601, runQ nmQ d24 (z.2.1) (z.1) (z.2.2)), (9, cel b9 (st4 (z.2.2)).cells.toList 52)]) (fun z => l.length - z.1) ((0, b24, vQ)) [(0, _), (1, _), (2, _), (7, _), (9, _)] [] [601, 9] rfl (rfl) (.cons rfl (.cons rfl (.nil _))) (.cons rfl (.cons rfl (.cons rfl (.cons rfl (.cons rfl (.nil _)))))) (by
            try dsimp only
            exact Nat.zero_le _) ?_
        rintro ⟨i, b8, v⟩ hi
        refine w_norm2 (by dsimp only [List.cons_append, List.nil_append]) (by dsimp only [List.cons_append, List.nil_append]) ?_
        try dsimp only at hi ⊢
        refine w_seq (w_seq (w_region (zm rfl (zm rfl (zd rfl (op_lenT rfl tS49xr (Sl.ent (by first | exact Sl.app (by assumption) _ | exact Sl.app (Sl.app (by assumption) _) _))) ?_)))))
        refine zd rfl (op_lss rfl rfl) (wl_nil (st_tn (w_cond_d rfl (fun hc57 => ?_) (fun hc57 => ?_))))
        · -- c57.t
          obtain ⟨x, hx⟩ := getE (l := l) (i := i) (by omega)
          have hxb := hb x (List.mem_of_getElem? hx)
          refine w_skip (st_tn (w_seq (w_block (w_seq (w_seq (w_cutL [(71, .bool (decide (i < l1.length ∧ 0 < (l1.getD i 0).toNat % 2)))] [0, 1, 2, 7, 8, 9, 10] [601, 9] rfl (fun K' hK => ?_) ?_))))))
          · -- cut r8
            refine w_region (zm rfl (zm rfl (zd rfl (op_lenT rfl tS27xr (Sl.ent (by first | exact Sl.app (by assumption) _ | exact Sl.app (Sl.app (by assumption) _) _))) ?_)))
            refine zd rfl (op_lss rfl rfl) (zm rfl (wl_gsplit (t := 64) rfl (fun hg64 => ?_) (fun hg64 => ?_)))
            · -- 64 is True
              obtain ⟨y, hy⟩ := getE (l := l1) (i := i) (by omega)
              have hyb := y.toNat_lt
              have hyd : l1.getD i 0 = y := by rw [List.getD_eq_getElem?_getD, hy]; rfl
              refine wl_wanted_det rfl rfl rfl rfl rfl rfl rfl (op_move rfl) (wl_wanted_det rfl rfl rfl rfl rfl rfl rfl (op_move rfl) (wl_wanted_det rfl rfl rfl rfl rfl rfl rfl (op_idx rfl rfl tS27xr (Sl.ent (by first | exact Sl.app (by assumption) _ | exact Sl.app (Sl.app (by assumption) _) _)) (by omega)) ?_))
              refine wl_wanted_det rfl rfl rfl rfl rfl rfl rfl (op_ldx rfl tO5xr (by first | exact Sl.app (by assumption) _ | exact Sl.app (Sl.app (by assumption) _) _) (by assumption) (by rfl)) ?_
              refine wl_wanted_det rfl rfl rfl rfl rfl rfl rfl (op_remN rfl rfl (by omega) (by omega)) ?_
              refine wl_wanted_det rfl rfl rfl rfl rfl rfl rfl (op_gtr rfl rfl) (zd rfl (op_pick_t rfl rfl) (wl_nil (st_tn ?_)))
              exact cut_done1 [601, 9] hK rfl (by first | (rw [decide_eq_decide, hyd]; omega) | (symm; rw [decide_eq_false_iff_not]; omega)) (by rfl) rfl rfl
            · -- 64 is False
              refine wl_unwanted rfl rfl rfl rfl rfl rfl rfl rfl (wl_unwanted rfl rfl rfl rfl rfl rfl rfl rfl (wl_unwanted rfl rfl rfl rfl rfl rfl rfl rfl (wl_unwanted rfl rfl rfl rfl rfl rfl rfl rfl (wl_unwanted rfl rfl rfl rfl rfl rfl rfl rfl (wl_unwanted rfl rfl rfl rfl rfl rfl rfl rfl (zd rfl (op_pick_f rfl rfl) (wl_nil (st_tn ?_))))))))
              exact cut_done1 [601, 9] hK rfl (by first | (rw [decide_eq_decide, hyd]; omega) | (symm; rw [decide_eq_false_iff_not]; omega)) (by rfl) rfl rfl
          · -- behind r8
            show W _ _ _ _ _ [(71, _), (0, _), (1, _), (2, _), (7, _), (8, _), (9, _), (10, _)] [(601, _), (9, _)] _
            refine w_cond_d rfl (fun hc71 => ?_) (fun hc71 => ?_)
            · -- c71.t
              obtain ⟨hil, hodd⟩ := hc71
              obtain ⟨y, hy⟩ := getE (l := l1) (i := i) hil
              have hyb := y.toNat_lt
              refine w_region (zm rfl (zm rfl (zm rfl (zd rfl (op_idx rfl rfl tS27xr (Sl.ent (by first | exact Sl.app (by assumption) _ | exact Sl.app (Sl.app (by assumption) _) _)) (by omega)) ?_))))
              refine zd rfl (op_ldx rfl tO5xr (by first | exact Sl.app (by assumption) _ | exact Sl.app (Sl.app (by assumption) _) _) (by assumption) (by rfl)) ?_
              refine zd rfl (op_quo8 rfl rfl (by omega) (by omega) (by omega)) ?_
              refine zd rfl (op_remN rfl rfl (by omega) (by omega)) ?_
              refine zd rfl (op_convI64 rfl (by rw [Try.underlying5]; rfl) Try.underlying3 (by omega)) ?_
              refine wl_op [601] rfl rfl rfl rfl (op_fn Try.func36 rfl rfl rfl (limQ_c 601 _ (by omega))) ?_
              rintro _ _ ⟨rfl, rfl⟩
              refine wl_nil (st_tn (w_seq ?_))
              refine w_drawW (fun β => [⟨82, [], [], [], noW (_), false, [], []⟩, ⟨83, [], [], [], noW (_), false, [], []⟩, ⟨84, [], [], [], noW (_), false, [], []⟩, ⟨85, [], [], [], noW (_), false, [], []⟩, ⟨86, [], [], [], noW (_), false, [], []⟩, ⟨87, [3, 4], [], [], noW (_), false, [], []⟩, ⟨88, [5], [], [], noW (_), false, [], []⟩, ⟨89, [0, 1, 2, 6], [], [(601, _)], fun w => DetW _ _, false, [], []⟩, ⟨81, [7], [], [], noW (_), false, [], []⟩, ⟨90, [8], [], [], noW (_), false, [], []⟩, ⟨91, [8], [], [], noW (_), false, [], []⟩, ⟨92, [8], [], [], noW (_), false, [], []⟩, ⟨93, [8], [], [], noW (_), false, [], []⟩, ⟨12, [], [], [], fun w => DetW _ _, true, [], []⟩, ⟨11, [9], [], [], noW (_), false, [], []⟩, ⟨212, [10], [13], [], noW (_), false, [], []⟩, ⟨13, [11], [], [], noW (_), false, [], []⟩]) [601] [7, 8, 9, 0, 10] [⟨82, [], [], false, [], []⟩, ⟨83, [], [], false, [], []⟩, ⟨84, [], [], false, [], []⟩, ⟨85, [], [], false, [], []⟩, ⟨86, [], [], false, [], []⟩, ⟨87, [3, 4], [], false, [], []⟩, ⟨88, [5], [], false, [], []⟩, ⟨89, [0, 1, 2, 6], [], false, [], []⟩, ⟨81, [7], [], false, [], []⟩, ⟨90, [8], [], false, [], []⟩, ⟨91, [8], [], false, [], []⟩, ⟨92, [8], [], false, [], []⟩, ⟨93, [8], [], false, [], []⟩, ⟨12, [], [], true, [], []⟩, ⟨11, [9], [], false, [], []⟩, ⟨212, [10], [13], false, [], []⟩, ⟨13, [11], [], false, [], []⟩] [[], [], [], [], [], [], [], [], [7], [7], [7], [7], [7], [], [7], [7, 13], [7]] [[], [], [], [], [], [], [], [(601, _)], [], [], [], [], [], [], [], [], []] tMixxr (fun _ => by rfl) (fun _ => by rfl) (by kernel_rfl) (by kernel_rfl) (by rfl) (by rfl)
                  (fun β => ⟨.p rfl (by intro X; exact op_move rfl),
                  ⟨.p rfl (by intro X; exact op_move rfl),
                  ⟨.p rfl (by intro X; exact op_loadA rfl tA52xr (Ent.lab (l := 9) rfl (says_cel 0)) (Nat.le_of_ble_eq_true rfl)),
                  ⟨.p rfl (by intro X; exact op_move rfl),
                  ⟨.p rfl (by intro X; exact op_move rfl),
                  ⟨.p rfl (by intro X; rintro _ _ ⟨rfl, rfl⟩ _ _ ⟨rfl, rfl⟩; exact op_idx rfl rfl tS49xr (Sl.ent (by first | exact Sl.app (by assumption) _ | exact Sl.app (Sl.app (by assumption) _) _)) (by omega)),
                  ⟨.p rfl (by intro X; rintro _ _ ⟨rfl, rfl⟩; exact op_ldxA rfl tA41xr (by first | exact Sl.app (by assumption) _ | exact Sl.app (Sl.app (by assumption) _) _) (by assumption) (by rfl) (by rfl)),
                  ⟨.px rfl (by intro X; rintro _ _ ⟨rfl, rfl⟩ _ _ ⟨rfl, rfl⟩ _ _ ⟨rfl, rfl⟩ _ _ ⟨rfl, rfl⟩; refine OpT.mono (op_fn Try.func27 rfl rfl rfl (doQ_c 601 x hxb (by omega) name_log)) ?_; rintro _ _ ⟨b89, v89, z89, rfl, rfl⟩; obtain ⟨w, rfl, rfl, rfl⟩ : ∃ w : Wt, w.b = b89 ∧ w.v = v89 ∧ w.z = z89 := ⟨{ b := b89, v := v89, z := z89 }, rfl, rfl, rfl⟩; exact ⟨w, rfl, rfl⟩),
                  ⟨.p rfl (by intro X; rintro _ _ ⟨rfl, rfl⟩; exact op_move rfl),
                  ⟨.p rfl (by intro X; rintro _ _ ⟨rfl, rfl⟩; exact op_extract rfl rfl),
                  ⟨.p rfl (by intro X; rintro _ _ ⟨rfl, rfl⟩; exact op_extract rfl rfl),
                  ⟨.p rfl (by intro X; rintro _ _ ⟨rfl, rfl⟩; exact op_extract rfl rfl),
                  ⟨.p rfl (by intro X; rintro _ _ ⟨rfl, rfl⟩; exact op_extract rfl rfl),
                  ⟨.px rfl (by intro X; refine OpT.mono (op_alloc (l := 12) tN52xr) ?_; rintro _ _ ⟨b12, rfl, rfl⟩; obtain ⟨w, rfl⟩ : ∃ w : Wt, w.b = b12 := ⟨{ b := b12 }, rfl⟩; exact ⟨w, rfl, rfl⟩),
                  ⟨.p rfl (by intro X; rintro _ _ ⟨rfl, rfl⟩; exact op_assign rfl),
                  ⟨.p rfl (by intro X; rintro _ _ ⟨rfl, rfl⟩ _ _ ⟨rfl, rfl⟩; show OpT _ _ _ _ _ _ [(_, _)] _; exact op_store rfl rfl tZ52xr (by rfl) (by rfl) (by exact Nat.le_of_ble_eq_true rfl)) (hu := by exact .inr fun _ _ h => h.1),
                  ⟨.p rfl (by intro X; rintro _ _ ⟨rfl, rfl⟩; exact op_assign rfl),
                  trivial⟩⟩⟩⟩⟩⟩⟩⟩⟩⟩⟩⟩⟩⟩⟩⟩⟩)
                  (fun β β' => ⟨fun _ => by rfl, ⟨fun _ => by rfl, ⟨fun _ => by rfl, ⟨fun _ => by rfl, ⟨fun _ => by rfl, ⟨fun _ => by rfl, ⟨fun _ => by rfl, ⟨fun _ => by rfl, ⟨fun h => by first | rfl | (simp only [h 7 (by decide)]), ⟨fun h => by first | rfl | (simp only [h 7 (by decide)]), ⟨fun h => by first | rfl | (simp only [h 7 (by decide)]), ⟨fun h => by first | rfl | (simp only [h 7 (by decide)]), ⟨fun h => by first | rfl | (simp only [h 7 (by decide)]), ⟨fun _ => by rfl, ⟨fun h => by first | rfl | (simp only [h 7 (by decide)]), ⟨fun h => by first | rfl | (simp only [h 7 (by decide), h 13 (by decide)]), ⟨fun h => by first | rfl | (simp only [h 7 (by decide)]), trivial⟩⟩⟩⟩⟩⟩⟩⟩⟩⟩⟩⟩⟩⟩⟩⟩⟩) ?_
              intro β
              rintro _ _ ⟨rfl, rfl⟩ _ _ ⟨rfl, rfl⟩ _ _ ⟨rfl, rfl⟩ _ _ ⟨rfl, rfl⟩ _ _ ⟨rfl, rfl⟩ _ _ ⟨rfl, rfl⟩ _ _ ⟨rfl, rfl⟩ _ _ ⟨rfl, rfl⟩ _ _ ⟨rfl, rfl⟩ _ _ ⟨rfl, rfl⟩ _ _ ⟨rfl, rfl⟩ _ _ ⟨rfl, rfl⟩ _ _ ⟨rfl, rfl⟩ _ _ ⟨rfl, rfl⟩ _ _ ⟨rfl, rfl⟩ _ _ ⟨rfl, rfl⟩ _ _ ⟨rfl, rfl⟩
              generalize (β 7).b = b89
              generalize (β 7).v = v89
              generalize (β 7).z = z89
              generalize (β 13).b = b12
              refine wl_norm (e' := [(0, _), (1, _), (2, _), (7, _), (8, _), (9, _), (10, _), (11, _), (12, _), (13, _), (93, _)]) (.cons rfl (.cons rfl (.cons rfl (.cons rfl (.cons rfl (.cons rfl (.cons rfl (.cons rfl (.cons rfl (.cons rfl (.cons rfl (.nil _)))))))))))) (by dsimp only [cond_false, cond_true, List.nil_append, List.cons_append]) ?_
              refine za rfl (wl_nil (st_tn (w_seq (w_seq (w_opn 601 (doQ_opens x nmQ d24 b89 i v v89 z89) (B := fun (y : DnQ x nmQ i v v89 z89) => cR nmQ d24 b89 y.1.2) rfl (fun y => ?_))))))
              obtain ⟨⟨⟨Q1, Q2, L, s0⟩, ⟨P1, P2, L', s'⟩⟩, hD⟩ := y
              unfold DoneQ at hD
              dsimp only at hD
              by_cases hE : z89 = 27
              · -- hE+
                obtain ⟨_, hMv, hR0, hokL, hnx, hbr, hdn, hgd, hkind⟩ := hD.resolve_left (fun hh => hh.1 hE)
                have hSL := hR0.sm (by omega)
                have htL := hR0.tot
                have hsL := hSL.segl
                obtain ⟨M, j0, hC, hRM⟩ : ∃ M j0, Cand P1 P2 x v89 L M j0 ∧ Rn nmQ (i + 1) (openL M) (DskM.staO s' sc) := by
                  rcases hkind with ⟨k1, k2, k3, k4⟩ | ⟨k1, k2⟩
                  · obtain ⟨M, e1, e2⟩ := k4 sc
                    exact ⟨M, 0, .inl ⟨k1, k2, k3, e1⟩, e2⟩
                  · obtain ⟨j, e1, e2⟩ := k2 sc
                    exact ⟨dropL L j, j, .inr ⟨k1, e1, rfl⟩, e2⟩
                have hSM := hRM.sm (by omega)
                obtain ⟨Y, hYl, hYs⟩ := hMv.sl0 hSL
                refine w_region (zm rfl (zd rfl (op_not_t rfl) (zm rfl (wl_wanted_det rfl rfl rfl rfl rfl rfl rfl (op_move rfl) (wl_wanted_det rfl rfl rfl rfl rfl rfl rfl (op_move rfl) (wl_wanted [601] rfl rfl rfl rfl rfl rfl rfl rfl (op_fn Try.func37 rfl rfl rfl (ddown_c 601)) ?_))))))
                rintro _ _ ⟨rfl, rfl⟩
                refine wl_wanted_det rfl rfl rfl rfl rfl rfl rfl (op_val (v' := .bool false) (by rw [hdn, decide_eq_true hE]; rfl) (op_neB rfl rfl Try.underlying4)) ?_
                refine zd rfl (op_pick_f rfl rfl) (wl_nil (st_tn (w_cond_f (rfl) ?_)))
                refine w_skip (st_tn (w_seq (w_seq (w_region (zd rfl (op_val (v' := .bool true) (by rw [decide_eq_true hE]; rfl) (op_move rfl)) ?_)))))
                refine zd rfl (op_not_t rfl) (wl_nil (st_tn (w_cond_f (rfl) ?_)))
                refine w_skip (st_tn (w_seq (w_seq (w_region (zm rfl (wl_op [601, 611] rfl rfl rfl rfl (op_fn Try.func15 rfl rfl rfl (commit_to 601 611 (com_broken hbr) hokL hgd (by decide) hnx)) ?_))))))
                rintro _ _ ⟨rfl, rfl⟩
                refine zm rfl (zd rfl (op_extract rfl rfl) (zd rfl (op_extract rfl rfl) (za rfl (za rfl (wl_nil (st_tn (w_seq (w_region (zm rfl (zd rfl (op_val (v' := .bool false) (by rfl) (op_neq rfl rfl)) ?_))))))))))
                refine zm rfl (wl_wanted_det rfl rfl rfl rfl rfl rfl rfl (op_move rfl) (wl_wanted [611] rfl rfl rfl rfl rfl rfl rfl rfl (op_fn Try.func17 rfl rfl rfl (llast_c 611 hokL)) ?_))
                rintro _ _ ⟨rfl, rfl⟩
                refine wl_wanted_det rfl rfl rfl rfl rfl rfl rfl (op_val (v' := .bool false) (by rw [if_pos hbr]; rfl) (op_neq rfl rfl)) ?_
                refine zd rfl (op_pick_f rfl rfl) (zm rfl (wl_wanted_det rfl rfl rfl rfl rfl rfl rfl (op_move rfl) (wl_wanted [611] rfl rfl rfl rfl rfl rfl rfl rfl (op_fn Try.func21 rfl rfl rfl (lpending_c 611 hokL)) ?_)))
                rintro _ _ ⟨rfl, rfl⟩
                refine wl_wanted_det rfl rfl rfl rfl rfl rfl rfl (op_val (v' := .bool false) (by rw [if_pos hbr]; rfl) (op_neq rfl rfl)) ?_
                refine zd rfl (op_pick_f rfl rfl) (zm rfl (wl_wanted_det rfl rfl rfl rfl rfl rfl rfl (op_move rfl) (wl_wanted [611] rfl rfl rfl rfl rfl rfl rfl rfl (op_fn Try.func23 rfl rfl rfl (fn_imp (ldiscard_c 611) (fun u ρ hu => (by rw [if_pos hbr, show discL L' = L' from if_pos hbr] at hu; exact hu : u = .int .i64 18 ∧ ρ = [(611, lgR b89 d24 nmQ L')])))) ?_)))
                rintro _ _ ⟨rfl, rfl⟩
                refine wl_wanted_det rfl rfl rfl rfl rfl rfl rfl (op_val (v' := .bool false) (by rfl) (op_neq rfl rfl)) ?_
                refine zd rfl (op_pick_f rfl rfl) (zm rfl (wl_wanted_det rfl rfl rfl rfl rfl rfl rfl (op_move rfl) (wl_wanted [611] rfl rfl rfl rfl rfl rfl rfl rfl (op_fn Try.func18 rfl rfl rfl (fn_imp (lsegm_c 611 hokL 130 (by decide)) (fun u ρ hu => (by rw [if_pos hbr] at hu; exact hu : ∃ a' c', u = .slice a' ([] : List RdM.Bs).length c' ∧ ρ = [(611, lgR b89 d24 nmQ L'), (130, slW 9 encT 1 (.slice a' ([] : List RdM.Bs).length c') [])])))) ?_)))
                rintro _ _ ⟨a130, c130, rfl, rfl⟩
                refine wl_wanted_det rfl rfl rfl rfl rfl rfl rfl (op_lenT (enc := encT) (l := ([] : List RdM.Bs)) rfl tS35xr (Sl.ent (Sl.lab (E := 9) (enc := encT) (l := ([] : List RdM.Bs)) 130 rfl (by simp)))) ?_
                refine wl_wanted_det rfl rfl rfl rfl rfl rfl rfl (op_val (v' := .bool false) (by rfl) (op_gtr rfl rfl)) ?_
                refine zd rfl (op_pick_f rfl rfl) (wl_nil (st_tn (w_cond_f (rfl) ?_)))
                refine w_skip (st_tn (w_seq (w_region (zm rfl (zm rfl (wl_op [601] rfl rfl rfl rfl (op_fn Try.func38 rfl rfl rfl (dstart_c 601 hgd (hsc.app _))) ?_))))))
                rintro _ _ ⟨rfl, rfl⟩
                refine wl_nil (st_tn (w_seq (w_region (zm rfl (wl_op [601] rfl rfl rfl rfl (op_fn Try.func16 rfl rfl rfl (lopen_c (first := M.first) (segs := M.segs) 601 711 name_log hRM.dn hRM.good hRM.ok.seg hRM.on.holds (by have := hRM.tot; dsimp only [openL] at this; omega))) ?_)))))
                rintro _ _ ⟨b139, rfl, rfl⟩
                refine zm rfl (zd rfl (op_extract rfl rfl) (zd rfl (op_extract rfl rfl) (za rfl (za rfl (wl_nil (st_tn (w_seq (w_seq (w_region (zm rfl (zd rfl (op_val (v' := .bool false) (by rfl) (op_neq rfl rfl)) ?_)))))))))))
                refine wl_nil (st_tn (w_cond_f (rfl) ?_))
                refine w_skip (st_tn (w_seq (w_region (za rfl (wl_nil (st_tn (w_seq (w_seq (w_region (za rfl (wl_nil (st_tn (w_block ?_)))))))))))))
                refine w_loopQ (X := Nat × Bool × Nat × ValX) (fun z => z.1 ≤ Y.length + 1 ∧ Inv2 P1 P2 x v89 L M j0 b139 z.1 z.2.1 z.2.2.1 z.2.2.2) (fun z => [(20, .int .i64 (z.1)), (19, .bool (z.2.1)), (8, .pointer (some ⟨(z.2.2.1), 0, none⟩))]) (fun z => [(12, cel b12 (st4 (z.2.2.2)).cells.toList 52)]) (fun z => Y.length + 1 - z.1) ((0, false, b8, v89)) [(0, _), (1, _), (2, _), (7, _), (9, _), (10, _), (12, _), (17, _)] [(601, _), (711, _), (605, _), (606, _), (9, _)] [12, 601, 711, 605, 606, 9] rfl (rfl) (.cons rfl (.cons rfl (.cons rfl (.nil _)))) (.cons rfl (.cons rfl (.cons rfl (.cons rfl (.cons rfl (.cons rfl (.cons rfl (.cons rfl (.nil _))))))))) (by
                    try dsimp only
                    exact ⟨Nat.zero_le _, fun hf => by simp at hf, fun _ => ⟨rfl, fun _ => Nat.zero_le _, fun _ => .inl rfl⟩⟩) ?_
                rintro ⟨j, fd, pb, w⟩ ⟨hj, hI⟩
                refine w_norm2 (by dsimp only [List.cons_append, List.nil_append]) (by dsimp only [List.cons_append, List.nil_append]) ?_
                try dsimp only at hj hI ⊢
                refine w_seq (w_seq (w_region (zm rfl (zd rfl (op_fieldAddr (off := 0) rfl tF52_0xr) (zd rfl (op_load1 rfl tO50xr (Ent.lab (l := 9) rfl (says_cel 0))) (zd rfl (op_lenT (enc := encSegV) (l := Y) rfl tS50xr (Sl.ent (hYs rfl))) (zd rfl (op_leq rfl rfl) (wl_nil (st_tn (w_cond_d rfl (fun hc148 => ?_) (fun hc148 => ?_)))))))))))
                · -- c148.t
                  refine w_skip (st_tn (w_seq (w_block (w_seq (w_region (zd rfl (op_loadA rfl tA52xr (Ent.lab (l := 9) rfl (says_cel 0)) (Nat.le_of_ble_eq_true rfl)) (zd rfl (op_fn Try.func39 rfl rfl rfl mopen4) (wl_op [] rfl rfl rfl rfl (op_alloc (l := 21) tN52xr) ?_))))))))
                  rintro _ _ ⟨b21, rfl, rfl⟩
                  refine wl_op0 [21] rfl rfl rfl (op_store rfl rfl tZ52xr (by rfl) (by rfl) (by exact Nat.le_of_ble_eq_true rfl)) ?_
                  rintro _ _ ⟨rfl, rfl⟩
                  refine wl_nil (st_tn (w_seq (w_seq ?_)))
                  by_cases hk6 : x.k % 8 = 6
                  · -- hk6+
                    refine w_region (zm rfl (zm rfl (zd rfl (op_idx rfl rfl tS49xr (Sl.ent (by first | exact Sl.app (by assumption) _ | exact Sl.app (Sl.app (by assumption) _) _)) (by omega)) ?_)))
                    refine zd rfl (op_fieldAddr (off := 0) rfl tF41_0xr) (zd rfl (op_ldxf rfl tO5xr (by first | exact Sl.app (by assumption) _ | exact Sl.app (Sl.app (by assumption) _) _) (by assumption) (by rfl)) ?_)
                    refine zd rfl (op_remN rfl rfl (by omega) (by omega)) ?_
                    refine zd rfl (op_val (v' := .bool true) (by rw [decide_eq_true hk6]) (op_eql rfl rfl)) ?_
                    refine wl_nil (st_tn (w_cond_t (rfl) ?_))
                    refine w_drawW (fun β => [⟨160, [], [], [], noW (_), false, [], []⟩, ⟨161, [], [], [], noW (_), false, [], []⟩, ⟨162, [], [], [], noW (_), false, [], []⟩, ⟨163, [1, 2], [], [], noW (_), false, [], []⟩, ⟨164, [3], [], [], noW (_), false, [], []⟩, ⟨165, [], [], [], noW (_), false, [], []⟩, ⟨166, [4, 5], [], [], noW (_), false, [], []⟩, ⟨167, [], [], [], noW (_), false, [], []⟩]) [] [9, 0, 10, 20] [⟨160, [], [], false, [], []⟩, ⟨161, [], [], false, [], []⟩, ⟨162, [], [], false, [], []⟩, ⟨163, [1, 2], [], false, [], []⟩, ⟨164, [3], [], false, [], []⟩, ⟨165, [], [], false, [], []⟩, ⟨166, [4, 5], [], false, [], []⟩, ⟨167, [], [], false, [], []⟩] [[], [], [], [], [], [], [], []] [[], [], [], [], [], [], [], []] tMixxr (fun _ => by rfl) (fun _ => by rfl) (by kernel_rfl) (by kernel_rfl) (by rfl) (by rfl)
                        (fun β => ⟨.p rfl (by intro X; exact op_loadA rfl tA52xr (Ent.lab (l := 9) rfl (says_cel 0)) (Nat.le_of_ble_eq_true rfl)),
                        ⟨.p rfl (by intro X; exact op_move rfl),
                        ⟨.p rfl (by intro X; exact op_move rfl),
                        ⟨.p rfl (by intro X; rintro _ _ ⟨rfl, rfl⟩ _ _ ⟨rfl, rfl⟩; exact op_idx rfl rfl tS49xr (Sl.ent (by first | exact Sl.app (by assumption) _ | exact Sl.app (Sl.app (by assumption) _) _)) (by omega)),
                        ⟨.p rfl (by intro X; rintro _ _ ⟨rfl, rfl⟩; exact op_ldxA rfl tA41xr (by first | exact Sl.app (by assumption) _ | exact Sl.app (Sl.app (by assumption) _) _) (by assumption) (by rfl) (by rfl)),
                        ⟨.p rfl (by intro X; exact op_loadA rfl tA52xr (Ent.lab (l := 9) rfl (says_cel 0)) (Nat.le_of_ble_eq_true rfl)),
                        ⟨.p rfl (by intro X; rintro _ _ ⟨rfl, rfl⟩ _ _ ⟨rfl, rfl⟩; exact op_fn Try.func41 rfl rfl rfl (mnumber4 x hxb.2.2 hSL hMv)),
                        ⟨.p rfl (by intro X; exact op_move rfl),
                        trivial⟩⟩⟩⟩⟩⟩⟩⟩)
                        (fun β β' => ⟨fun _ => by rfl, ⟨fun _ => by rfl, ⟨fun _ => by rfl, ⟨fun _ => by rfl, ⟨fun _ => by rfl, ⟨fun _ => by rfl, ⟨fun _ => by rfl, ⟨fun _ => by rfl, trivial⟩⟩⟩⟩⟩⟩⟩⟩) ?_
                    intro β
                    rintro _ _ ⟨rfl, rfl⟩ _ _ ⟨rfl, rfl⟩ _ _ ⟨rfl, rfl⟩ _ _ ⟨rfl, rfl⟩ _ _ ⟨rfl, rfl⟩ _ _ ⟨rfl, rfl⟩ _ _ ⟨rfl, rfl⟩ _ _ ⟨rfl, rfl⟩
                    refine wl_norm (e' := [(0, _), (1, _), (2, _), (7, _), (8, _), (9, _), (10, _), (12, _), (17, _), (19, _), (20, _), (21, _), (160, _), (166, _), (167, _)]) (.cons rfl (.cons rfl (.cons rfl (.cons rfl (.cons rfl (.cons rfl (.cons rfl (.cons rfl (.cons rfl (.cons rfl (.cons rfl (.cons rfl (.cons rfl (.cons rfl (.cons rfl (.nil _)))))))))))))))) (by dsimp only [cond_false, cond_true, List.nil_append, List.cons_append]) ?_
                    refine wl_op [605, 606] rfl rfl rfl rfl (op_fn Try.func40 rfl rfl rfl (mtrunc4 _ j (by omega) (by omega) hSL hMv)) ?_
                    rintro _ _ ⟨v168, h168, rfl, rfl⟩
                    refine zd rfl (op_fn Try.func39 rfl rfl rfl mopen4) (wl_op0 [21] rfl rfl rfl (op_store rfl rfl tZ52xr (by rfl) (by rfl) (by exact Nat.le_of_ble_eq_true rfl)) ?_)
                    rintro _ _ ⟨rfl, rfl⟩
                    refine wl_nil (st_tn (w_seq ?_))
                    by_cases hfd : fd = true
                    · -- hfd+
                      refine w_region (zd rfl (op_val (v' := .bool true) (by rw [hfd]) (op_move rfl)) ?_)
                      refine zd rfl (op_not_t rfl) (zm rfl (wl_unwanted rfl rfl rfl rfl rfl rfl rfl rfl (wl_unwanted rfl rfl rfl rfl rfl rfl rfl rfl (wl_unwanted rfl rfl rfl rfl rfl rfl rfl rfl (zd rfl (op_pick_f rfl rfl) (wl_nil (st_tn (w_cond_f (rfl) ?_))))))))
                      refine w_skip (st_bn (st_tn (w_region (zm rfl (zd rfl (op_add' rfl rfl (by omega)) ?_)))))
                      refine za rfl (wl_nil ?_)
                      refine st_roundQ (x := (j, fd, pb, w)) ((j + 1, fd, pb, w)) [12, 601, 711, 605, 606, 9] rfl (rfl) (.cons rfl (.cons rfl (.cons rfl (.nil _)))) (.cons rfl (.cons rfl (.cons rfl (.cons rfl (.cons rfl (.cons rfl (.cons rfl (.cons rfl (.nil _))))))))) (by
                          try dsimp only
                          exact ⟨by omega, hI.1, fun hf => by rw [hfd] at hf; simp at hf⟩) (by
                          try dsimp only
                          omega)
                    · -- hfd-
                      have hfd0 : fd = false := by simpa using hfd
                      obtain ⟨hwv, hnx2⟩ := hI.2 hfd0
                      obtain ⟨W, hW, N, hO⟩ : ∃ W, W = v168 ∧ ∃ N, One P1 P2 x L M j0 j W N := ⟨_, rfl, one_six hC hk6 hnx2 hSL (by omega) h168⟩
                      by_cases hmt : N = M
                      · -- hmt+
                        refine w_region (zd rfl (op_val (v' := .bool false) (by rw [hfd0]) (op_move rfl)) ?_)
                        refine zd rfl (op_not_f rfl) (zm rfl (wl_wanted_det rfl rfl rfl rfl rfl rfl rfl (op_loadA rfl tA52xr (Ent.lab (l := 21) rfl (says_cel 0)) (Nat.le_of_ble_eq_true rfl)) (wl_wanted_det rfl rfl rfl rfl rfl rfl rfl (op_move rfl) (wl_wanted [711,605,606] rfl rfl rfl rfl rfl rfl rfl rfl (op_fn Try.func31 rfl rfl rfl (agrees_c 711 hSM (by have h9 := hO.1; rw [hmt, hW] at h9; exact h9) (by decide))) ?_))))
                        rintro _ _ ⟨rfl, rfl⟩
                        refine zd rfl (op_pick_t rfl rfl) (wl_nil (st_tn (w_cond_t (rfl) ?_)))
                        refine w_drawW (fun β => [⟨181, [], [], [], noW (_), false, [], []⟩, ⟨182, [], [], [], noW (_), false, [], []⟩, ⟨8, [0], [], [], noW (_), false, [], []⟩]) [] [17, 21] [⟨181, [], [], false, [], []⟩, ⟨182, [], [], false, [], []⟩, ⟨8, [0], [], false, [], []⟩] [[], [], []] [[], [], []] tMixxr (fun _ => by rfl) (fun _ => by rfl) (by kernel_rfl) (by kernel_rfl) (by rfl) (by rfl)
                            (fun β => ⟨.p rfl (by intro X; exact op_move rfl),
                            ⟨.p rfl (by intro X; exact op_loadA rfl tA52xr (Ent.lab (l := 21) rfl (says_cel 0)) (Nat.le_of_ble_eq_true rfl)),
                            ⟨.p rfl (by intro X; rintro _ _ ⟨rfl, rfl⟩; exact op_assign rfl),
                            trivial⟩⟩⟩)
                            (fun β β' => ⟨fun _ => by rfl, ⟨fun _ => by rfl, ⟨fun _ => by rfl, trivial⟩⟩⟩) ?_
                        intro β
                        rintro _ _ ⟨rfl, rfl⟩ _ _ ⟨rfl, rfl⟩ _ _ ⟨rfl, rfl⟩
                        refine wl_norm (e' := [(0, _), (1, _), (2, _), (7, _), (8, _), (9, _), (10, _), (12, _), (17, _), (20, _), (182, _)]) (.cons rfl (.cons rfl (.cons rfl (.cons rfl (.cons rfl (.cons rfl (.cons rfl (.cons rfl (.cons rfl (.cons rfl (.cons rfl (.nil _)))))))))))) (by dsimp only [cond_false, cond_true, List.nil_append, List.cons_append]) ?_
                        refine wl_op0 [12] rfl rfl rfl (op_store rfl rfl tZ52xr (by rfl) (by rfl) (by exact Nat.le_of_ble_eq_true rfl)) ?_
                        rintro _ _ ⟨rfl, rfl⟩
                        refine za rfl (wl_nil (st_bn (st_tn (w_region (zm rfl (zd rfl (op_add' rfl rfl (by omega)) ?_))))))
                        refine za rfl (wl_nil ?_)
                        refine st_roundQ (x := (j, fd, pb, w)) ((j + 1, true, b139, op4 W)) [12, 601, 711, 605, 606, 9] rfl (by rw [hW]; rfl) (.cons rfl (.cons rfl (.cons rfl (.nil _)))) (.cons rfl (.cons rfl (.cons rfl (.cons rfl (.cons rfl (.cons rfl (.cons rfl (.cons rfl (.nil _))))))))) (by
                            try dsimp only
                            exact ⟨by omega, fun _ => ⟨rfl, (hmt ▸ hO.1 : MS P1 P2 (op4 W) (openL M)).st4⟩, fun hf => by simp at hf⟩) (by
                            try dsimp only
                            omega)
                      · -- hmt-
                        refine w_region (zd rfl (op_val (v' := .bool false) (by rw [hfd0]) (op_move rfl)) ?_)
                        refine zd rfl (op_not_f rfl) (zm rfl (wl_wanted_det rfl rfl rfl rfl rfl rfl rfl (op_loadA rfl tA52xr (Ent.lab (l := 21) rfl (says_cel 0)) (Nat.le_of_ble_eq_true rfl)) (wl_wanted_det rfl rfl rfl rfl rfl rfl rfl (op_move rfl) (wl_wanted [711,605,606] rfl rfl rfl rfl rfl rfl rfl rfl (op_fn Try.func31 rfl rfl rfl (agreesF_c 711 hSM (hO.2 hmt).1 (by have h9 := hO.1; rw [hW] at h9; exact h9) (hO.2 hmt).2.1)) ?_))))
                        rintro _ _ ⟨rfl, rfl⟩
                        refine zd rfl (op_pick_t rfl rfl) (wl_nil (st_tn (w_cond_f (rfl) ?_)))
                        refine w_skip (st_bn (st_tn (w_region (zm rfl (zd rfl (op_add' rfl rfl (by omega)) ?_)))))
                        refine za rfl (wl_nil ?_)
                        refine st_roundQ (x := (j, fd, pb, w)) ((j + 1, fd, pb, w)) [12, 601, 711, 605, 606, 9] rfl (rfl) (.cons rfl (.cons rfl (.cons rfl (.nil _)))) (.cons rfl (.cons rfl (.cons rfl (.cons rfl (.cons rfl (.cons rfl (.cons rfl (.cons rfl (.nil _))))))))) (by
                            try dsimp only
                            exact ⟨by omega, fun hf => by rw [hfd0] at hf; simp at hf, fun _ => ⟨by first | rfl | exact hwv, (hO.2 hmt).2.2⟩⟩) (by
                            try dsimp only
                            omega)
                  · -- hk6-
                    refine w_region (zm rfl (zm rfl (zd rfl (op_idx rfl rfl tS49xr (Sl.ent (by first | exact Sl.app (by assumption) _ | exact Sl.app (Sl.app (by assumption) _) _)) (by omega)) ?_)))
                    refine zd rfl (op_fieldAddr (off := 0) rfl tF41_0xr) (zd rfl (op_ldxf rfl tO5xr (by first | exact Sl.app (by assumption) _ | exact Sl.app (Sl.app (by assumption) _) _) (by assumption) (by rfl)) ?_)
                    refine zd rfl (op_remN rfl rfl (by omega) (by omega)) ?_
                    refine zd rfl (op_val (v' := .bool false) (by rw [decide_eq_false hk6]) (op_eql rfl rfl)) ?_
                    refine wl_nil (st_tn (w_cond_f (rfl) ?_))
                    refine w_seq (w_region (zm rfl (zd rfl (op_gtr rfl rfl) (wl_nil (st_tn (w_cond_d rfl (fun hc171 => ?_) (fun hc171 => ?_)))))))
                    · -- c171.t
                      refine w_region (zd rfl (op_loadA rfl tA52xr (Ent.lab (l := 12) rfl (says_cel 0)) (Nat.le_of_ble_eq_true rfl)) (zd rfl (op_fn Try.func39 rfl rfl rfl mopen4) (wl_op0 [21] rfl rfl rfl (op_store rfl rfl tZ52xr (by rfl) (by rfl) (by exact Nat.le_of_ble_eq_true rfl)) ?_)))
                      rintro _ _ ⟨rfl, rfl⟩
                      refine wl_nil (st_tn (w_seq ?_))
                      by_cases hfd : fd = true
                      · -- hfd+
                        refine w_region (zd rfl (op_val (v' := .bool true) (by rw [hfd]) (op_move rfl)) ?_)
                        refine zd rfl (op_not_t rfl) (zm rfl (wl_unwanted rfl rfl rfl rfl rfl rfl rfl rfl (wl_unwanted rfl rfl rfl rfl rfl rfl rfl rfl (wl_unwanted rfl rfl rfl rfl rfl rfl rfl rfl (zd rfl (op_pick_f rfl rfl) (wl_nil (st_tn (w_cond_f (rfl) ?_))))))))
                        refine w_skip (st_bn (st_tn (w_region (zm rfl (zd rfl (op_add' rfl rfl (by omega)) ?_)))))
                        refine za rfl (wl_nil ?_)
                        refine st_roundQ (x := (j, fd, pb, w)) ((j + 1, fd, pb, w)) [12, 601, 711, 605, 606, 9] rfl (rfl) (.cons rfl (.cons rfl (.cons rfl (.nil _)))) (.cons rfl (.cons rfl (.cons rfl (.cons rfl (.cons rfl (.cons rfl (.cons rfl (.cons rfl (.nil _))))))))) (by
                            try dsimp only
                            exact ⟨by omega, hI.1, fun hf => by rw [hfd] at hf; simp at hf⟩) (by
                            try dsimp only
                            omega)
                      · -- hfd-
                        have hfd0 : fd = false := by simpa using hfd
                        obtain ⟨hwv, hnx2⟩ := hI.2 hfd0
                        subst hwv
                        obtain ⟨W, hW, N, hO⟩ : ∃ W, W = w ∧ ∃ N, One P1 P2 x L M j0 j W N := ⟨_, rfl, one_pos hC hk6 hnx2 (by omega)⟩
                        by_cases hmt : N = M
                        · -- hmt+
                          refine w_region (zd rfl (op_val (v' := .bool false) (by rw [hfd0]) (op_move rfl)) ?_)
                          refine zd rfl (op_not_f rfl) (zm rfl (wl_wanted_det rfl rfl rfl rfl rfl rfl rfl (op_loadA rfl tA52xr (Ent.lab (l := 21) rfl (says_cel 0)) (Nat.le_of_ble_eq_true rfl)) (wl_wanted_det rfl rfl rfl rfl rfl rfl rfl (op_move rfl) (wl_wanted [711,605,606] rfl rfl rfl rfl rfl rfl rfl rfl (op_fn Try.func31 rfl rfl rfl (agrees_c 711 hSM (by have h9 := hO.1; rw [hmt, hW] at h9; exact h9) (by decide))) ?_))))
                          rintro _ _ ⟨rfl, rfl⟩
                          refine zd rfl (op_pick_t rfl rfl) (wl_nil (st_tn (w_cond_t (rfl) ?_)))
                          refine w_drawW (fun β => [⟨181, [], [], [], noW (_), false, [], []⟩, ⟨182, [], [], [], noW (_), false, [], []⟩, ⟨8, [0], [], [], noW (_), false, [], []⟩]) [] [17, 21] [⟨181, [], [], false, [], []⟩, ⟨182, [], [], false, [], []⟩, ⟨8, [0], [], false, [], []⟩] [[], [], []] [[], [], []] tMixxr (fun _ => by rfl) (fun _ => by rfl) (by kernel_rfl) (by kernel_rfl) (by rfl) (by rfl)
                              (fun β => ⟨.p rfl (by intro X; exact op_move rfl),
                              ⟨.p rfl (by intro X; exact op_loadA rfl tA52xr (Ent.lab (l := 21) rfl (says_cel 0)) (Nat.le_of_ble_eq_true rfl)),
                              ⟨.p rfl (by intro X; rintro _ _ ⟨rfl, rfl⟩; exact op_assign rfl),
                              trivial⟩⟩⟩)
                              (fun β β' => ⟨fun _ => by rfl, ⟨fun _ => by rfl, ⟨fun _ => by rfl, trivial⟩⟩⟩) ?_
                          intro β
                          rintro _ _ ⟨rfl, rfl⟩ _ _ ⟨rfl, rfl⟩ _ _ ⟨rfl, rfl⟩
                          refine wl_norm (e' := [(0, _), (1, _), (2, _), (7, _), (8, _), (9, _), (10, _), (12, _), (17, _), (20, _), (182, _)]) (.cons rfl (.cons rfl (.cons rfl (.cons rfl (.cons rfl (.cons rfl (.cons rfl (.cons rfl (.cons rfl (.cons rfl (.cons rfl (.nil _)))))))))))) (by dsimp only [cond_false, cond_true, List.nil_append, List.cons_append]) ?_
                          refine wl_op0 [12] rfl rfl rfl (op_store rfl rfl tZ52xr (by rfl) (by rfl) (by exact Nat.le_of_ble_eq_true rfl)) ?_
                          rintro _ _ ⟨rfl, rfl⟩
                          refine za rfl (wl_nil (st_bn (st_tn (w_region (zm rfl (zd rfl (op_add' rfl rfl (by omega)) ?_))))))
                          refine za rfl (wl_nil ?_)
                          refine st_roundQ (x := (j, fd, pb, w)) ((j + 1, true, b139, op4 W)) [12, 601, 711, 605, 606, 9] rfl (by rw [hW]; rfl) (.cons rfl (.cons rfl (.cons rfl (.nil _)))) (.cons rfl (.cons rfl (.cons rfl (.cons rfl (.cons rfl (.cons rfl (.cons rfl (.cons rfl (.nil _))))))))) (by
                              try dsimp only
                              exact ⟨by omega, fun _ => ⟨rfl, (hmt ▸ hO.1 : MS P1 P2 (op4 W) (openL M)).st4⟩, fun hf => by simp at hf⟩) (by
                              try dsimp only
                              omega)
                        · -- hmt-
                          refine w_region (zd rfl (op_val (v' := .bool false) (by rw [hfd0]) (op_move rfl)) ?_)
                          refine zd rfl (op_not_f rfl) (zm rfl (wl_wanted_det rfl rfl rfl rfl rfl rfl rfl (op_loadA rfl tA52xr (Ent.lab (l := 21) rfl (says_cel 0)) (Nat.le_of_ble_eq_true rfl)) (wl_wanted_det rfl rfl rfl rfl rfl rfl rfl (op_move rfl) (wl_wanted [711,605,606] rfl rfl rfl rfl rfl rfl rfl rfl (op_fn Try.func31 rfl rfl rfl (agreesF_c 711 hSM (hO.2 hmt).1 (by have h9 := hO.1; rw [hW] at h9; exact h9) (hO.2 hmt).2.1)) ?_))))
                          rintro _ _ ⟨rfl, rfl⟩
                          refine zd rfl (op_pick_t rfl rfl) (wl_nil (st_tn (w_cond_f (rfl) ?_)))
                          refine w_skip (st_bn (st_tn (w_region (zm rfl (zd rfl (op_add' rfl rfl (by omega)) ?_)))))
                          refine za rfl (wl_nil ?_)
                          refine st_roundQ (x := (j, fd, pb, w)) ((j + 1, fd, pb, w)) [12, 601, 711, 605, 606, 9] rfl (rfl) (.cons rfl (.cons rfl (.cons rfl (.nil _)))) (.cons rfl (.cons rfl (.cons rfl (.cons rfl (.cons rfl (.cons rfl (.cons rfl (.cons rfl (.nil _))))))))) (by
                              try dsimp only
                              exact ⟨by omega, fun hf => by rw [hfd0] at hf; simp at hf, fun _ => ⟨by first | rfl | exact hwv, (hO.2 hmt).2.2⟩⟩) (by
                              try dsimp only
                              omega)
                    · -- c171.f
                      refine w_skip (st_tn (w_seq ?_))
                      by_cases hfd : fd = true
                      · -- hfd+
                        refine w_region (zd rfl (op_val (v' := .bool true) (by rw [hfd]) (op_move rfl)) ?_)
                        refine zd rfl (op_not_t rfl) (zm rfl (wl_unwanted rfl rfl rfl rfl rfl rfl rfl rfl (wl_unwanted rfl rfl rfl rfl rfl rfl rfl rfl (wl_unwanted rfl rfl rfl rfl rfl rfl rfl rfl (zd rfl (op_pick_f rfl rfl) (wl_nil (st_tn (w_cond_f (rfl) ?_))))))))
                        refine w_skip (st_bn (st_tn (w_region (zm rfl (zd rfl (op_add' rfl rfl (by omega)) ?_)))))
                        refine za rfl (wl_nil ?_)
                        refine st_roundQ (x := (j, fd, pb, w)) ((j + 1, fd, pb, w)) [12, 601, 711, 605, 606, 9] rfl (rfl) (.cons rfl (.cons rfl (.cons rfl (.nil _)))) (.cons rfl (.cons rfl (.cons rfl (.cons rfl (.cons rfl (.cons rfl (.cons rfl (.cons rfl (.nil _))))))))) (by
                            try dsimp only
                            exact ⟨by omega, hI.1, fun hf => by rw [hfd] at hf; simp at hf⟩) (by
                            try dsimp only
                            omega)
                      · -- hfd-
                        have hfd0 : fd = false := by simpa using hfd
                        obtain ⟨hwv, hnx2⟩ := hI.2 hfd0
                        obtain ⟨W, hW, N, hO⟩ : ∃ W, W = v ∧ ∃ N, One P1 P2 x L M j0 j W N := ⟨_, rfl, one_zero hC hk6 hSL hMv⟩
                        by_cases hmt : N = M
                        · -- hmt+
                          refine w_region (zd rfl (op_val (v' := .bool false) (by rw [hfd0]) (op_move rfl)) ?_)
                          refine zd rfl (op_not_f rfl) (zm rfl (wl_wanted_det rfl rfl rfl rfl rfl rfl rfl (op_loadA rfl tA52xr (Ent.lab (l := 21) rfl (says_cel 0)) (Nat.le_of_ble_eq_true rfl)) (wl_wanted_det rfl rfl rfl rfl rfl rfl rfl (op_move rfl) (wl_wanted [711,605,606] rfl rfl rfl rfl rfl rfl rfl rfl (op_fn Try.func31 rfl rfl rfl (agrees_c 711 hSM (by have h9 := hO.1; rw [hmt, hW] at h9; exact h9) (by decide))) ?_))))
                          rintro _ _ ⟨rfl, rfl⟩
                          refine zd rfl (op_pick_t rfl rfl) (wl_nil (st_tn (w_cond_t (rfl) ?_)))
                          refine w_drawW (fun β => [⟨181, [], [], [], noW (_), false, [], []⟩, ⟨182, [], [], [], noW (_), false, [], []⟩, ⟨8, [0], [], [], noW (_), false, [], []⟩]) [] [17, 21] [⟨181, [], [], false, [], []⟩, ⟨182, [], [], false, [], []⟩, ⟨8, [0], [], false, [], []⟩] [[], [], []] [[], [], []] tMixxr (fun _ => by rfl) (fun _ => by rfl) (by kernel_rfl) (by kernel_rfl) (by rfl) (by rfl)
                              (fun β => ⟨.p rfl (by intro X; exact op_move rfl),
                              ⟨.p rfl (by intro X; exact op_loadA rfl tA52xr (Ent.lab (l := 21) rfl (says_cel 0)) (Nat.le_of_ble_eq_true rfl)),
                              ⟨.p rfl (by intro X; rintro _ _ ⟨rfl, rfl⟩; exact op_assign rfl),
                              trivial⟩⟩⟩)
                              (fun β β' => ⟨fun _ => by rfl, ⟨fun _ => by rfl, ⟨fun _ => by rfl, trivial⟩⟩⟩) ?_
                          intro β
                          rintro _ _ ⟨rfl, rfl⟩ _ _ ⟨rfl, rfl⟩ _ _ ⟨rfl, rfl⟩
                          refine wl_norm (e' := [(0, _), (1, _), (2, _), (7, _), (8, _), (9, _), (10, _), (12, _), (17, _), (20, _), (182, _)]) (.cons rfl (.cons rfl (.cons rfl (.cons rfl (.cons rfl (.cons rfl (.cons rfl (.cons rfl (.cons rfl (.cons rfl (.cons rfl (.nil _)))))))))))) (by dsimp only [cond_false, cond_true, List.nil_append, List.cons_append]) ?_
                          refine wl_op0 [12] rfl rfl rfl (op_store rfl rfl tZ52xr (by rfl) (by rfl) (by exact Nat.le_of_ble_eq_true rfl)) ?_
                          rintro _ _ ⟨rfl, rfl⟩
                          refine za rfl (wl_nil (st_bn (st_tn (w_region (zm rfl (zd rfl (op_add' rfl rfl (by omega)) ?_))))))
                          refine za rfl (wl_nil ?_)
                          refine st_roundQ (x := (j, fd, pb, w)) ((j + 1, true, b139, op4 W)) [12, 601, 711, 605, 606, 9] rfl (by rw [hW]; rfl) (.cons rfl (.cons rfl (.cons rfl (.nil _)))) (.cons rfl (.cons rfl (.cons rfl (.cons rfl (.cons rfl (.cons rfl (.cons rfl (.cons rfl (.nil _))))))))) (by
                              try dsimp only
                              exact ⟨by omega, fun _ => ⟨rfl, (hmt ▸ hO.1 : MS P1 P2 (op4 W) (openL M)).st4⟩, fun hf => by simp at hf⟩) (by
                              try dsimp only
                              omega)
                        · -- hmt-
                          refine w_region (zd rfl (op_val (v' := .bool false) (by rw [hfd0]) (op_move rfl)) ?_)
                          refine zd rfl (op_not_f rfl) (zm rfl (wl_wanted_det rfl rfl rfl rfl rfl rfl rfl (op_loadA rfl tA52xr (Ent.lab (l := 21) rfl (says_cel 0)) (Nat.le_of_ble_eq_true rfl)) (wl_wanted_det rfl rfl rfl rfl rfl rfl rfl (op_move rfl) (wl_wanted [711,605,606] rfl rfl rfl rfl rfl rfl rfl rfl (op_fn Try.func31 rfl rfl rfl (agreesF_c 711 hSM (hO.2 hmt).1 (by have h9 := hO.1; rw [hW] at h9; exact h9) (hO.2 hmt).2.1)) ?_))))
                          rintro _ _ ⟨rfl, rfl⟩
                          refine zd rfl (op_pick_t rfl rfl) (wl_nil (st_tn (w_cond_f (rfl) ?_)))
                          refine w_skip (st_bn (st_tn (w_region (zm rfl (zd rfl (op_add' rfl rfl (by omega)) ?_)))))
                          refine za rfl (wl_nil ?_)
                          refine st_roundQ (x := (j, fd, pb, w)) ((j + 1, fd, pb, w)) [12, 601, 711, 605, 606, 9] rfl (rfl) (.cons rfl (.cons rfl (.cons rfl (.nil _)))) (.cons rfl (.cons rfl (.cons rfl (.cons rfl (.cons rfl (.cons rfl (.cons rfl (.cons rfl (.nil _))))))))) (by
                              try dsimp only
                              exact ⟨by omega, fun hf => by rw [hfd0] at hf; simp at hf, fun _ => ⟨by first | rfl | exact hwv, (hO.2 hmt).2.2⟩⟩) (by
                              try dsimp only
                              omega)
                · -- c148.f
                  refine w_exit (st_te ?_)
                  refine st_te ?_
                  refine st_be (st_tn (w_seq (w_seq (w_region (zd rfl (op_loadA rfl tA52xr (Ent.lab (l := 12) rfl (says_cel 0)) (Nat.le_of_ble_eq_true rfl)) (zd rfl (op_fn Try.func39 rfl rfl rfl mopen4) (wl_op [] rfl rfl rfl rfl (op_alloc (l := 22) tN52xr) ?_)))))))
                  rintro _ _ ⟨b22, rfl, rfl⟩
                  refine wl_op0 [22] rfl rfl rfl (op_store rfl rfl tZ52xr (by rfl) (by rfl) (by exact Nat.le_of_ble_eq_true rfl)) ?_
                  rintro _ _ ⟨rfl, rfl⟩
                  refine wl_nil (st_tn (w_seq ?_))
                  by_cases hfd2 : fd = true
                  · -- hfd2+
                    obtain ⟨hpb, hMw⟩ := hI.1 hfd2
                    have hpb := hpb.symm
                    subst hpb
                    refine w_region (zd rfl (op_val (v' := .bool true) (by rw [hfd2]) (op_move rfl)) ?_)
                    refine zd rfl (op_not_t rfl) (zm rfl (wl_unwanted rfl rfl rfl rfl rfl rfl rfl rfl (wl_unwanted rfl rfl rfl rfl rfl rfl rfl rfl (wl_unwanted rfl rfl rfl rfl rfl rfl rfl rfl (zd rfl (op_pick_f rfl rfl) (wl_nil (st_tn (w_cond_f (rfl) ?_))))))))
                    refine w_skip (st_tn (w_seq (w_seq (w_region (zd rfl (op_val (v' := .bool true) (by rw [hfd2]) (op_move rfl)) ?_)))))
                    refine zd rfl (op_not_t rfl) (wl_nil (st_tn (w_cond_f (rfl) ?_)))
                    refine w_skip (st_tn (w_cls [601, 711, 605, 606] (A := [(601, dkR d24 (DskM.staO s' sc)), (711, lgR b139 d24 nmQ (openL M)), (605, poolS P1), (606, poolX P2)]) (C := [(601, runQ nmQ d24 b139 (i + 1) w)]) (runQ_closes (P1, P2, openL M, DskM.staO s' sc) ⟨runQ_qt hRM, hMw⟩) rfl ?_))
                    refine w_region (zd rfl (op_loadA rfl tA52xr (Ent.lab (l := 12) rfl (says_cel 0)) (Nat.le_of_ble_eq_true rfl)) (wl_op0 [9] rfl rfl rfl (op_store rfl rfl tZ52xr (by rfl) (by rfl) (by exact Nat.le_of_ble_eq_true rfl)) ?_))
                    rintro _ _ ⟨rfl, rfl⟩
                    refine wl_nil (st_bn (st_tn (w_region (zm rfl (zd rfl (op_add' rfl rfl (by omega)) ?_)))))
                    refine za rfl (wl_nil ?_)
                    refine st_roundQ (x := (i, b8, v)) ((i + 1, b139, w)) [601, 9] rfl (rfl) (.cons rfl (.cons rfl (.nil _))) (.cons rfl (.cons rfl (.cons rfl (.cons rfl (.cons rfl (.nil _)))))) (by
                        try dsimp only
                        omega) (by
                        try dsimp only
                        omega)
                  · -- hfd2-
                    have hfd20 : fd = false := by simpa using hfd2
                    obtain ⟨hwv, hnx2⟩ := hI.2 hfd20
                    subst hwv
                    have hMw := ms_opn (cand_end hC hnx2 (by omega))
                    refine w_region (zd rfl (op_val (v' := .bool false) (by rw [hfd20]) (op_move rfl)) ?_)
                    refine zd rfl (op_not_f rfl) (zm rfl (wl_wanted_det rfl rfl rfl rfl rfl rfl rfl (op_loadA rfl tA52xr (Ent.lab (l := 22) rfl (says_cel 0)) (Nat.le_of_ble_eq_true rfl)) (wl_wanted_det rfl rfl rfl rfl rfl rfl rfl (op_move rfl) (wl_wanted [711,605,606] rfl rfl rfl rfl rfl rfl rfl rfl (op_fn Try.func31 rfl rfl rfl (agrees_c 711 hSM hMw (by decide))) ?_))))
                    rintro _ _ ⟨rfl, rfl⟩
                    refine zd rfl (op_pick_t rfl rfl) (wl_nil (st_tn (w_cond_t (rfl) ?_)))
                    refine w_drawW (fun β => [⟨192, [], [], [], noW (_), false, [], []⟩, ⟨193, [], [], [], noW (_), false, [], []⟩, ⟨8, [0], [], [], noW (_), false, [], []⟩]) [] [17, 22] [⟨192, [], [], false, [], []⟩, ⟨193, [], [], false, [], []⟩, ⟨8, [0], [], false, [], []⟩] [[], [], []] [[], [], []] tMixxr (fun _ => by rfl) (fun _ => by rfl) (by kernel_rfl) (by kernel_rfl) (by rfl) (by rfl)
                        (fun β => ⟨.p rfl (by intro X; exact op_move rfl),
                        ⟨.p rfl (by intro X; exact op_loadA rfl tA52xr (Ent.lab (l := 22) rfl (says_cel 0)) (Nat.le_of_ble_eq_true rfl)),
                        ⟨.p rfl (by intro X; rintro _ _ ⟨rfl, rfl⟩; exact op_assign rfl),
                        trivial⟩⟩⟩)
                        (fun β β' => ⟨fun _ => by rfl, ⟨fun _ => by rfl, ⟨fun _ => by rfl, trivial⟩⟩⟩) ?_
                    intro β
                    rintro _ _ ⟨rfl, rfl⟩ _ _ ⟨rfl, rfl⟩ _ _ ⟨rfl, rfl⟩
                    refine wl_norm (e' := [(0, _), (1, _), (2, _), (7, _), (8, _), (9, _), (10, _), (12, _), (193, _)]) (.cons rfl (.cons rfl (.cons rfl (.cons rfl (.cons rfl (.cons rfl (.cons rfl (.cons rfl (.cons rfl (.nil _)))))))))) (by dsimp only [cond_false, cond_true, List.nil_append, List.cons_append]) ?_
                    refine wl_op0 [12] rfl rfl rfl (op_store rfl rfl tZ52xr (by rfl) (by rfl) (by exact Nat.le_of_ble_eq_true rfl)) ?_
                    rintro _ _ ⟨rfl, rfl⟩
                    refine za rfl (wl_nil (st_tn (w_seq (w_seq (w_region (zm rfl (zd rfl (op_not_t rfl) (wl_nil (st_tn (w_cond_f (rfl) ?_))))))))))
                    refine w_skip (st_tn (w_cls [601, 711, 605, 606] (A := [(601, dkR d24 (DskM.staO s' sc)), (711, lgR b139 d24 nmQ (openL M)), (605, poolS P1), (606, poolX P2)]) (C := [(601, runQ nmQ d24 b139 (i + 1) (op4 w))]) (runQ_closes (P1, P2, openL M, DskM.staO s' sc) ⟨runQ_qt hRM, hMw⟩) rfl ?_))
                    refine w_region (zd rfl (op_loadA rfl tA52xr (Ent.lab (l := 12) rfl (says_cel 0)) (Nat.le_of_ble_eq_true rfl)) (wl_op0 [9] rfl rfl rfl (op_store rfl rfl tZ52xr (by rfl) (by rfl) (by exact Nat.le_of_ble_eq_true rfl)) ?_))
                    rintro _ _ ⟨rfl, rfl⟩
                    refine wl_nil (st_bn (st_tn (w_region (zm rfl (zd rfl (op_add' rfl rfl (by omega)) ?_)))))
                    refine za rfl (wl_nil ?_)
                    refine st_roundQ (x := (i, b8, v)) ((i + 1, b139, op4 w)) [601, 9] rfl (rfl) (.cons rfl (.cons rfl (.nil _))) (.cons rfl (.cons rfl (.cons rfl (.cons rfl (.cons rfl (.nil _)))))) (by
                        try dsimp only
                        omega) (by
                        try dsimp only
                        omega)
              · -- hE-
                obtain ⟨_, hdn, hR1, hM1⟩ := hD.resolve_right (fun hh => hE hh.1)
                refine w_region (zm rfl (zd rfl (op_not_t rfl) (zm rfl (wl_wanted_det rfl rfl rfl rfl rfl rfl rfl (op_move rfl) (wl_wanted_det rfl rfl rfl rfl rfl rfl rfl (op_move rfl) (wl_wanted [601] rfl rfl rfl rfl rfl rfl rfl rfl (op_fn Try.func37 rfl rfl rfl (ddown_c 601)) ?_))))))
                rintro _ _ ⟨rfl, rfl⟩
                refine wl_wanted_det rfl rfl rfl rfl rfl rfl rfl (op_val (v' := .bool false) (by rw [hdn, decide_eq_false hE]; rfl) (op_neB rfl rfl Try.underlying4)) ?_
                refine zd rfl (op_pick_f rfl rfl) (wl_nil (st_tn (w_cond_f (rfl) ?_)))
                refine w_skip (st_tn (w_seq (w_seq (w_region (zd rfl (op_val (v' := .bool false) (by rw [decide_eq_false hE]; rfl) (op_move rfl)) ?_)))))
                refine zd rfl (op_not_f rfl) (wl_nil (st_tn (w_cond_t (rfl) ?_)))
                refine w_seq (w_cls [601, 611, 605, 606] (C := [(601, runQ nmQ d24 b89 (i + 1) v89)]) (runQ_closes (P1, P2, L', s') ⟨hR1, hM1⟩) rfl ?_)
                refine w_drawW (fun β => [⟨104, [], [], [], noW (_), false, [], []⟩, ⟨105, [], [], [], noW (_), false, [], []⟩, ⟨8, [0], [], [], noW (_), false, [], []⟩]) [] [11, 12] [⟨104, [], [], false, [], []⟩, ⟨105, [], [], false, [], []⟩, ⟨8, [0], [], false, [], []⟩] [[], [], []] [[], [], []] tMixxr (fun _ => by rfl) (fun _ => by rfl) (by kernel_rfl) (by kernel_rfl) (by rfl) (by rfl)
                    (fun β => ⟨.p rfl (by intro X; exact op_move rfl),
                    ⟨.p rfl (by intro X; exact op_loadA rfl tA52xr (Ent.lab (l := 12) rfl (says_cel 0)) (Nat.le_of_ble_eq_true rfl)),
                    ⟨.p rfl (by intro X; rintro _ _ ⟨rfl, rfl⟩; exact op_assign rfl),
                    trivial⟩⟩⟩)
                    (fun β β' => ⟨fun _ => by rfl, ⟨fun _ => by rfl, ⟨fun _ => by rfl, trivial⟩⟩⟩) ?_
                intro β
                rintro _ _ ⟨rfl, rfl⟩ _ _ ⟨rfl, rfl⟩ _ _ ⟨rfl, rfl⟩
                refine wl_norm (e' := [(0, _), (1, _), (2, _), (7, _), (8, _), (9, _), (10, _), (105, _)]) (.cons rfl (.cons rfl (.cons rfl (.cons rfl (.cons rfl (.cons rfl (.cons rfl (.cons rfl (.nil _))))))))) (by dsimp only [cond_false, cond_true, List.nil_append, List.cons_append]) ?_
                refine wl_op0 [9] rfl rfl rfl (op_store rfl rfl tZ52xr (by rfl) (by rfl) (by exact Nat.le_of_ble_eq_true rfl)) ?_
                rintro _ _ ⟨rfl, rfl⟩
                refine wl_nil (st_tn (w_exit (st_te ?_)))
                refine st_be (st_tn (w_region (zm rfl (zd rfl (op_add' rfl rfl (by omega)) ?_))))
                refine za rfl (wl_nil ?_)
                refine st_roundQ (x := (i, b8, v)) ((i + 1, b89, v89)) [601, 9] rfl (rfl) (.cons rfl (.cons rfl (.nil _))) (.cons rfl (.cons rfl (.cons rfl (.cons rfl (.cons rfl (.nil _)))))) (by
                    try dsimp only
                    omega) (by
                    try dsimp only
                    omega)
            · -- c71.f
              refine w_skip (st_tn (w_seq ?_))
              refine w_drawW (fun β => [⟨82, [], [], [], noW (_), false, [], []⟩, ⟨83, [], [], [], noW (_), false, [], []⟩, ⟨84, [], [], [], noW (_), false, [], []⟩, ⟨85, [], [], [], noW (_), false, [], []⟩, ⟨86, [], [], [], noW (_), false, [], []⟩, ⟨87, [3, 4], [], [], noW (_), false, [], []⟩, ⟨88, [5], [], [], noW (_), false, [], []⟩, ⟨89, [0, 1, 2, 6], [], [(601, _)], fun w => DetW _ _, false, [], []⟩, ⟨81, [7], [], [], noW (_), false, [], []⟩, ⟨90, [8], [], [], noW (_), false, [], []⟩, ⟨91, [8], [], [], noW (_), false, [], []⟩, ⟨92, [8], [], [], noW (_), false, [], []⟩, ⟨93, [8], [], [], noW (_), false, [], []⟩, ⟨12, [], [], [], fun w => DetW _ _, true, [], []⟩, ⟨11, [9], [], [], noW (_), false, [], []⟩, ⟨212, [10], [13], [], noW (_), false, [], []⟩, ⟨13, [11], [], [], noW (_), false, [], []⟩]) [601] [7, 8, 9, 0, 10] [⟨82, [], [], false, [], []⟩, ⟨83, [], [], false, [], []⟩, ⟨84, [], [], false, [], []⟩, ⟨85, [], [], false, [], []⟩, ⟨86, [], [], false, [], []⟩, ⟨87, [3, 4], [], false, [], []⟩, ⟨88, [5], [], false, [], []⟩, ⟨89, [0, 1, 2, 6], [], false, [], []⟩, ⟨81, [7], [], false, [], []⟩, ⟨90, [8], [], false, [], []⟩, ⟨91, [8], [], false, [], []⟩, ⟨92, [8], [], false, [], []⟩, ⟨93, [8], [], false, [], []⟩, ⟨12, [], [], true, [], []⟩, ⟨11, [9], [], false, [], []⟩, ⟨212, [10], [13], false, [], []⟩, ⟨13, [11], [], false, [], []⟩] [[], [], [], [], [], [], [], [], [7], [7], [7], [7], [7], [], [7], [7, 13], [7]] [[], [], [], [], [], [], [], [(601, _)], [], [], [], [], [], [], [], [], []] tMixxr (fun _ => by rfl) (fun _ => by rfl) (by kernel_rfl) (by kernel_rfl) (by rfl) (by rfl)
                  (fun β => ⟨.p rfl (by intro X; exact op_move rfl),
                  ⟨.p rfl (by intro X; exact op_move rfl),
                  ⟨.p rfl (by intro X; exact op_loadA rfl tA52xr (Ent.lab (l := 9) rfl (says_cel 0)) (Nat.le_of_ble_eq_true rfl)),
                  ⟨.p rfl (by intro X; exact op_move rfl),
                  ⟨.p rfl (by intro X; exact op_move rfl),
                  ⟨.p rfl (by intro X; rintro _ _ ⟨rfl, rfl⟩ _ _ ⟨rfl, rfl⟩; exact op_idx rfl rfl tS49xr (Sl.ent (by first | exact Sl.app (by assumption) _ | exact Sl.app (Sl.app (by assumption) _) _)) (by omega)),
                  ⟨.p rfl (by intro X; rintro _ _ ⟨rfl, rfl⟩; exact op_ldxA rfl tA41xr (by first | exact Sl.app (by assumption) _ | exact Sl.app (Sl.app (by assumption) _) _) (by assumption) (by rfl) (by rfl)),
                  ⟨.px rfl (by intro X; rintro _ _ ⟨rfl, rfl⟩ _ _ ⟨rfl, rfl⟩ _ _ ⟨rfl, rfl⟩ _ _ ⟨rfl, rfl⟩; refine OpT.mono (op_fn Try.func27 rfl rfl rfl (doQ_c 601 x hxb (by omega) name_log)) ?_; rintro _ _ ⟨b89, v89, z89, rfl, rfl⟩; obtain ⟨w, rfl, rfl, rfl⟩ : ∃ w : Wt, w.b = b89 ∧ w.v = v89 ∧ w.z = z89 := ⟨{ b := b89, v := v89, z := z89 }, rfl, rfl, rfl⟩; exact ⟨w, rfl, rfl⟩),
                  ⟨.p rfl (by intro X; rintro _ _ ⟨rfl, rfl⟩; exact op_move rfl),
                  ⟨.p rfl (by intro X; rintro _ _ ⟨rfl, rfl⟩; exact op_extract rfl rfl),
                  ⟨.p rfl (by intro X; rintro _ _ ⟨rfl, rfl⟩; exact op_extract rfl rfl),
                  ⟨.p rfl (by intro X; rintro _ _ ⟨rfl, rfl⟩; exact op_extract rfl rfl),
                  ⟨.p rfl (by intro X; rintro _ _ ⟨rfl, rfl⟩; exact op_extract rfl rfl),
                  ⟨.px rfl (by intro X; refine OpT.mono (op_alloc (l := 12) tN52xr) ?_; rintro _ _ ⟨b12, rfl, rfl⟩; obtain ⟨w, rfl⟩ : ∃ w : Wt, w.b = b12 := ⟨{ b := b12 }, rfl⟩; exact ⟨w, rfl, rfl⟩),
                  ⟨.p rfl (by intro X; rintro _ _ ⟨rfl, rfl⟩; exact op_assign rfl),
                  ⟨.p rfl (by intro X; rintro _ _ ⟨rfl, rfl⟩ _ _ ⟨rfl, rfl⟩; show OpT _ _ _ _ _ _ [(_, _)] _; exact op_store rfl rfl tZ52xr (by rfl) (by rfl) (by exact Nat.le_of_ble_eq_true rfl)) (hu := by exact .inr fun _ _ h => h.1),
                  ⟨.p rfl (by intro X; rintro _ _ ⟨rfl, rfl⟩; exact op_assign rfl),
                  trivial⟩⟩⟩⟩⟩⟩⟩⟩⟩⟩⟩⟩⟩⟩⟩⟩⟩)
                  (fun β β' => ⟨fun _ => by rfl, ⟨fun _ => by rfl, ⟨fun _ => by rfl, ⟨fun _ => by rfl, ⟨fun _ => by rfl, ⟨fun _ => by rfl, ⟨fun _ => by rfl, ⟨fun _ => by rfl, ⟨fun h => by first | rfl | (simp only [h 7 (by decide)]), ⟨fun h => by first | rfl | (simp only [h 7 (by decide)]), ⟨fun h => by first | rfl | (simp only [h 7 (by decide)]), ⟨fun h => by first | rfl | (simp only [h 7 (by decide)]), ⟨fun h => by first | rfl | (simp only [h 7 (by decide)]), ⟨fun _ => by rfl, ⟨fun h => by first | rfl | (simp only [h 7 (by decide)]), ⟨fun h => by first | rfl | (simp only [h 7 (by decide), h 13 (by decide)]), ⟨fun h => by first | rfl | (simp only [h 7 (by decide)]), trivial⟩⟩⟩⟩⟩⟩⟩⟩⟩⟩⟩⟩⟩⟩⟩⟩⟩) ?_
              intro β
              rintro _ _ ⟨rfl, rfl⟩ _ _ ⟨rfl, rfl⟩ _ _ ⟨rfl, rfl⟩ _ _ ⟨rfl, rfl⟩ _ _ ⟨rfl, rfl⟩ _ _ ⟨rfl, rfl⟩ _ _ ⟨rfl, rfl⟩ _ _ ⟨rfl, rfl⟩ _ _ ⟨rfl, rfl⟩ _ _ ⟨rfl, rfl⟩ _ _ ⟨rfl, rfl⟩ _ _ ⟨rfl, rfl⟩ _ _ ⟨rfl, rfl⟩ _ _ ⟨rfl, rfl⟩ _ _ ⟨rfl, rfl⟩ _ _ ⟨rfl, rfl⟩ _ _ ⟨rfl, rfl⟩
              generalize (β 7).b = b89
              generalize (β 7).v = v89
              generalize (β 7).z = z89
              generalize (β 13).b = b12
              refine wl_norm (e' := [(0, _), (1, _), (2, _), (7, _), (8, _), (9, _), (10, _), (11, _), (12, _), (13, _), (93, _)]) (.cons rfl (.cons rfl (.cons rfl (.cons rfl (.cons rfl (.cons rfl (.cons rfl (.cons rfl (.cons rfl (.cons rfl (.cons rfl (.nil _)))))))))))) (by dsimp only [cond_false, cond_true, List.nil_append, List.cons_append]) ?_
              refine za rfl (wl_nil (st_tn (w_seq (w_seq (w_opn 601 (doQ_opens x nmQ d24 b89 i v v89 z89) (B := fun (y : DnQ x nmQ i v v89 z89) => cR nmQ d24 b89 y.1.2) rfl (fun y => ?_))))))
              obtain ⟨⟨⟨Q1, Q2, L, s0⟩, ⟨P1, P2, L', s'⟩⟩, hD⟩ := y
              unfold DoneQ at hD
              dsimp only at hD
              by_cases hE : z89 = 27
              · -- hE+
                obtain ⟨_, hMv, hR0, hokL, hnx, hbr, hdn, hgd, hkind⟩ := hD.resolve_left (fun hh => hh.1 hE)
                have hSL := hR0.sm (by omega)
                have htL := hR0.tot
                have hsL := hSL.segl
                obtain ⟨M, j0, hC, hRM⟩ : ∃ M j0, Cand P1 P2 x v89 L M j0 ∧ Rn nmQ (i + 1) (openL M) (DskM.staO s' sc) := by
                  rcases hkind with ⟨k1, k2, k3, k4⟩ | ⟨k1, k2⟩
                  · obtain ⟨M, e1, e2⟩ := k4 sc
                    exact ⟨M, 0, .inl ⟨k1, k2, k3, e1⟩, e2⟩
                  · obtain ⟨j, e1, e2⟩ := k2 sc
                    exact ⟨dropL L j, j, .inr ⟨k1, e1, rfl⟩, e2⟩
                have hSM := hRM.sm (by omega)
                obtain ⟨Y, hYl, hYs⟩ := hMv.sl0 hSL
                refine w_region (zm rfl (zd rfl (op_not_t rfl) (zm rfl (wl_wanted_det rfl rfl rfl rfl rfl rfl rfl (op_move rfl) (wl_wanted_det rfl rfl rfl rfl rfl rfl rfl (op_move rfl) (wl_wanted [601] rfl rfl rfl rfl rfl rfl rfl rfl (op_fn Try.func37 rfl rfl rfl (ddown_c 601)) ?_))))))
                rintro _ _ ⟨rfl, rfl⟩
                refine wl_wanted_det rfl rfl rfl rfl rfl rfl rfl (op_val (v' := .bool false) (by rw [hdn, decide_eq_true hE]; rfl) (op_neB rfl rfl Try.underlying4)) ?_
                refine zd rfl (op_pick_f rfl rfl) (wl_nil (st_tn (w_cond_f (rfl) ?_)))
                refine w_skip (st_tn (w_seq (w_seq (w_region (zd rfl (op_val (v' := .bool true) (by rw [decide_eq_true hE]; rfl) (op_move rfl)) ?_)))))
                refine zd rfl (op_not_t rfl) (wl_nil (st_tn (w_cond_f (rfl) ?_)))
                refine w_skip (st_tn (w_seq (w_seq (w_region (zm rfl (wl_op [601, 611] rfl rfl rfl rfl (op_fn Try.func15 rfl rfl rfl (commit_to 601 611 (com_broken hbr) hokL hgd (by decide) hnx)) ?_))))))
                rintro _ _ ⟨rfl, rfl⟩
                refine zm rfl (zd rfl (op_extract rfl rfl) (zd rfl (op_extract rfl rfl) (za rfl (za rfl (wl_nil (st_tn (w_seq (w_region (zm rfl (zd rfl (op_val (v' := .bool false) (by rfl) (op_neq rfl rfl)) ?_))))))))))
                refine zm rfl (wl_wanted_det rfl rfl rfl rfl rfl rfl rfl (op_move rfl) (wl_wanted [611] rfl rfl rfl rfl rfl rfl rfl rfl (op_fn Try.func17 rfl rfl rfl (llast_c 611 hokL)) ?_))
                rintro _ _ ⟨rfl, rfl⟩
                refine wl_wanted_det rfl rfl rfl rfl rfl rfl rfl (op_val (v' := .bool false) (by rw [if_pos hbr]; rfl) (op_neq rfl rfl)) ?_
                refine zd rfl (op_pick_f rfl rfl) (zm rfl (wl_wanted_det rfl rfl rfl rfl rfl rfl rfl (op_move rfl) (wl_wanted [611] rfl rfl rfl rfl rfl rfl rfl rfl (op_fn Try.func21 rfl rfl rfl (lpending_c 611 hokL)) ?_)))
                rintro _ _ ⟨rfl, rfl⟩
                refine wl_wanted_det rfl rfl rfl rfl rfl rfl rfl (op_val (v' := .bool false) (by rw [if_pos hbr]; rfl) (op_neq rfl rfl)) ?_
                refine zd rfl (op_pick_f rfl rfl) (zm rfl (wl_wanted_det rfl rfl rfl rfl rfl rfl rfl (op_move rfl) (wl_wanted [611] rfl rfl rfl rfl rfl rfl rfl rfl (op_fn Try.func23 rfl rfl rfl (fn_imp (ldiscard_c 611) (fun u ρ hu => (by rw [if_pos hbr, show discL L' = L' from if_pos hbr] at hu; exact hu : u = .int .i64 18 ∧ ρ = [(611, lgR b89 d24 nmQ L')])))) ?_)))
                rintro _ _ ⟨rfl, rfl⟩
                refine wl_wanted_det rfl rfl rfl rfl rfl rfl rfl (op_val (v' := .bool false) (by rfl) (op_neq rfl rfl)) ?_
                refine zd rfl (op_pick_f rfl rfl) (zm rfl (wl_wanted_det rfl rfl rfl rfl rfl rfl rfl (op_move rfl) (wl_wanted [611] rfl rfl rfl rfl rfl rfl rfl rfl (op_fn Try.func18 rfl rfl rfl (fn_imp (lsegm_c 611 hokL 130 (by decide)) (fun u ρ hu => (by rw [if_pos hbr] at hu; exact hu : ∃ a' c', u = .slice a' ([] : List RdM.Bs).length c' ∧ ρ = [(611, lgR b89 d24 nmQ L'), (130, slW 9 encT 1 (.slice a' ([] : List RdM.Bs).length c') [])])))) ?_)))
                rintro _ _ ⟨a130, c130, rfl, rfl⟩
                refine wl_wanted_det rfl rfl rfl rfl rfl rfl rfl (op_lenT (enc := encT) (l := ([] : List RdM.Bs)) rfl tS35xr (Sl.ent (Sl.lab (E := 9) (enc := encT) (l := ([] : List RdM.Bs)) 130 rfl (by simp)))) ?_
                refine wl_wanted_det rfl rfl rfl rfl rfl rfl rfl (op_val (v' := .bool false) (by rfl) (op_gtr rfl rfl)) ?_
                refine zd rfl (op_pick_f rfl rfl) (wl_nil (st_tn (w_cond_f (rfl) ?_)))
                refine w_skip (st_tn (w_seq (w_region (zm rfl (zm rfl (wl_op [601] rfl rfl rfl rfl (op_fn Try.func38 rfl rfl rfl (dstart_c 601 hgd (hsc.app _))) ?_))))))
                rintro _ _ ⟨rfl, rfl⟩
                refine wl_nil (st_tn (w_seq (w_region (zm rfl (wl_op [601] rfl rfl rfl rfl (op_fn Try.func16 rfl rfl rfl (lopen_c (first := M.first) (segs := M.segs) 601 711 name_log hRM.dn hRM.good hRM.ok.seg hRM.on.holds (by have := hRM.tot; dsimp only [openL] at this; omega))) ?_)))))
                rintro _ _ ⟨b139, rfl, rfl⟩
                refine zm rfl (zd rfl (op_extract rfl rfl) (zd rfl (op_extract rfl rfl) (za rfl (za rfl (wl_nil (st_tn (w_seq (w_seq (w_region (zm rfl (zd rfl (op_val (v' := .bool false) (by rfl) (op_neq rfl rfl)) ?_)))))))))))
                refine wl_nil (st_tn (w_cond_f (rfl) ?_))
                refine w_skip (st_tn (w_seq (w_region (za rfl (wl_nil (st_tn (w_seq (w_seq (w_region (za rfl (wl_nil (st_tn (w_block ?_)))))))))))))
                refine w_loopQ (X := Nat × Bool × Nat × ValX) (fun z => z.1 ≤ Y.length + 1 ∧ Inv2 P1 P2 x v89 L M j0 b139 z.1 z.2.1 z.2.2.1 z.2.2.2) (fun z => [(20, .int .i64 (z.1)), (19, .bool (z.2.1)), (8, .pointer (some ⟨(z.2.2.1), 0, none⟩))]) (fun z => [(12, cel b12 (st4 (z.2.2.2)).cells.toList 52)]) (fun z => Y.length + 1 - z.1) ((0, false, b8, v89)) [(0, _), (1, _), (2, _), (7, _), (9, _), (10, _), (12, _), (17, _)] [(601, _), (711, _), (605, _), (606, _), (9, _)] [12, 601, 711, 605, 606, 9] rfl (rfl) (.cons rfl (.cons rfl (.cons rfl (.nil _)))) (.cons rfl (.cons rfl (.cons rfl (.cons rfl (.cons rfl (.cons rfl (.cons rfl (.cons rfl (.nil _))))))))) (by
                    try dsimp only
                    exact ⟨Nat.zero_le _, fun hf => by simp at hf, fun _ => ⟨rfl, fun _ => Nat.zero_le _, fun _ => .inl rfl⟩⟩) ?_
                rintro ⟨j, fd, pb, w⟩ ⟨hj, hI⟩
                refine w_norm2 (by dsimp only [List.cons_append, List.nil_append]) (by dsimp only [List.cons_append, List.nil_append]) ?_
                try dsimp only at hj hI ⊢
                refine w_seq (w_seq (w_region (zm rfl (zd rfl (op_fieldAddr (off := 0) rfl tF52_0xr) (zd rfl (op_load1 rfl tO50xr (Ent.lab (l := 9) rfl (says_cel 0))) (zd rfl (op_lenT (enc := encSegV) (l := Y) rfl tS50xr (Sl.ent (hYs rfl))) (zd rfl (op_leq rfl rfl) (wl_nil (st_tn (w_cond_d rfl (fun hc148 => ?_) (fun hc148 => ?_)))))))))))
                · -- c148.t
                  refine w_skip (st_tn (w_seq (w_block (w_seq (w_region (zd rfl (op_loadA rfl tA52xr (Ent.lab (l := 9) rfl (says_cel 0)) (Nat.le_of_ble_eq_true rfl)) (zd rfl (op_fn Try.func39 rfl rfl rfl mopen4) (wl_op [] rfl rfl rfl rfl (op_alloc (l := 21) tN52xr) ?_))))))))
                  rintro _ _ ⟨b21, rfl, rfl⟩
                  refine wl_op0 [21] rfl rfl rfl (op_store rfl rfl tZ52xr (by rfl) (by rfl) (by exact Nat.le_of_ble_eq_true rfl)) ?_
                  rintro _ _ ⟨rfl, rfl⟩
                  refine wl_nil (st_tn (w_seq (w_seq ?_)))
                  by_cases hk6 : x.k % 8 = 6
                  · -- hk6+
                    refine w_region (zm rfl (zm rfl (zd rfl (op_idx rfl rfl tS49xr (Sl.ent (by first | exact Sl.app (by assumption) _ | exact Sl.app (Sl.app (by assumption) _) _)) (by omega)) ?_)))
                    refine zd rfl (op_fieldAddr (off := 0) rfl tF41_0xr) (zd rfl (op_ldxf rfl tO5xr (by first | exact Sl.app (by assumption) _ | exact Sl.app (Sl.app (by assumption) _) _) (by assumption) (by rfl)) ?_)
                    refine zd rfl (op_remN rfl rfl (by omega) (by omega)) ?_
                    refine zd rfl (op_val (v' := .bool true) (by rw [decide_eq_true hk6]) (op_eql rfl rfl)) ?_
                    refine wl_nil (st_tn (w_cond_t (rfl) ?_))
                    refine w_drawW (fun β => [⟨160, [], [], [], noW (_), false, [], []⟩, ⟨161, [], [], [], noW (_), false, [], []⟩, ⟨162, [], [], [], noW (_), false, [], []⟩, ⟨163, [1, 2], [], [], noW (_), false, [], []⟩, ⟨164, [3], [], [], noW (_), false, [], []⟩, ⟨165, [], [], [], noW (_), false, [], []⟩, ⟨166, [4, 5], [], [], noW (_), false, [], []⟩, ⟨167, [], [], [], noW (_), false, [], []⟩]) [] [9, 0, 10, 20] [⟨160, [], [], false, [], []⟩, ⟨161, [], [], false, [], []⟩, ⟨162, [], [], false, [], []⟩, ⟨163, [1, 2], [], false, [], []⟩, ⟨164, [3], [], false, [], []⟩, ⟨165, [], [], false, [], []⟩, ⟨166, [4, 5], [], false, [], []⟩, ⟨167, [], [], false, [], []⟩] [[], [], [], [], [], [], [], []] [[], [], [], [], [], [], [], []] tMixxr (fun _ => by rfl) (fun _ => by rfl) (by kernel_rfl) (by kernel_rfl) (by rfl) (by rfl)
                        (fun β => ⟨.p rfl (by intro X; exact op_loadA rfl tA52xr (Ent.lab (l := 9) rfl (says_cel 0)) (Nat.le_of_ble_eq_true rfl)),
                        ⟨.p rfl (by intro X; exact op_move rfl),
                        ⟨.p rfl (by intro X; exact op_move rfl),
                        ⟨.p rfl (by intro X; rintro _ _ ⟨rfl, rfl⟩ _ _ ⟨rfl, rfl⟩; exact op_idx rfl rfl tS49xr (Sl.ent (by first | exact Sl.app (by assumption) _ | exact Sl.app (Sl.app (by assumption) _) _)) (by omega)),
                        ⟨.p rfl (by intro X; rintro _ _ ⟨rfl, rfl⟩; exact op_ldxA rfl tA41xr (by first | exact Sl.app (by assumption) _ | exact Sl.app (Sl.app (by assumption) _) _) (by assumption) (by rfl) (by rfl)),
                        ⟨.p rfl (by intro X; exact op_loadA rfl tA52xr (Ent.lab (l := 9) rfl (says_cel 0)) (Nat.le_of_ble_eq_true rfl)),
                        ⟨.p rfl (by intro X; rintro _ _ ⟨rfl, rfl⟩ _ _ ⟨rfl, rfl⟩; exact op_fn Try.func41 rfl rfl rfl (mnumber4 x hxb.2.2 hSL hMv)),
                        ⟨.p rfl (by intro X; exact op_move rfl),
                        trivial⟩⟩⟩⟩⟩⟩⟩⟩)
                        (fun β β' => ⟨fun _ => by rfl, ⟨fun _ => by rfl, ⟨fun _ => by rfl, ⟨fun _ => by rfl, ⟨fun _ => by rfl, ⟨fun _ => by rfl, ⟨fun _ => by rfl, ⟨fun _ => by rfl, trivial⟩⟩⟩⟩⟩⟩⟩⟩) ?_
                    intro β
                    rintro _ _ ⟨rfl, rfl⟩ _ _ ⟨rfl, rfl⟩ _ _ ⟨rfl, rfl⟩ _ _ ⟨rfl, rfl⟩ _ _ ⟨rfl, rfl⟩ _ _ ⟨rfl, rfl⟩ _ _ ⟨rfl, rfl⟩ _ _ ⟨rfl, rfl⟩
                    refine wl_norm (e' := [(0, _), (1, _), (2, _), (7, _), (8, _), (9, _), (10, _), (12, _), (17, _), (19, _), (20, _), (21, _), (160, _), (166, _), (167, _)]) (.cons rfl (.cons rfl (.cons rfl (.cons rfl (.cons rfl (.cons rfl (.cons rfl (.cons rfl (.cons rfl (.cons rfl (.cons rfl (.cons rfl (.cons rfl (.cons rfl (.cons rfl (.nil _)))))))))))))))) (by dsimp only [cond_false, cond_true, List.nil_append, List.cons_append]) ?_
                    refine wl_op [605, 606] rfl rfl rfl rfl (op_fn Try.func40 rfl rfl rfl (mtrunc4 _ j (by omega) (by omega) hSL hMv)) ?_
                    rintro _ _ ⟨v168, h168, rfl, rfl⟩
                    refine zd rfl (op_fn Try.func39 rfl rfl rfl mopen4) (wl_op0 [21] rfl rfl rfl (op_store rfl rfl tZ52xr (by rfl) (by rfl) (by exact Nat.le_of_ble_eq_true rfl)) ?_)
                    rintro _ _ ⟨rfl, rfl⟩
                    refine wl_nil (st_tn (w_seq ?_))
                    by_cases hfd : fd = true
                    · -- hfd+
                      refine w_region (zd rfl (op_val (v' := .bool true) (by rw [hfd]) (op_move rfl)) ?_)
                      refine zd rfl (op_not_t rfl) (zm rfl (wl_unwanted rfl rfl rfl rfl rfl rfl rfl rfl (wl_unwanted rfl rfl rfl rfl rfl rfl rfl rfl (wl_unwanted rfl rfl rfl rfl rfl rfl rfl rfl (zd rfl (op_pick_f rfl rfl) (wl_nil (st_tn (w_cond_f (rfl) ?_))))))))
                      refine w_skip (st_bn (st_tn (w_region (zm rfl (zd rfl (op_add' rfl rfl (by omega)) ?_)))))
                      refine za rfl (wl_nil ?_)
                      refine st_roundQ (x := (j, fd, pb, w)) ((j + 1, fd, pb, w)) [12, 601, 711, 605, 606, 9] rfl (rfl) (.cons rfl (.cons rfl (.cons rfl (.nil _)))) (.cons rfl (.cons rfl (.cons rfl (.cons rfl (.cons rfl (.cons rfl (.cons rfl (.cons rfl (.nil _))))))))) (by
                          try dsimp only
                          exact ⟨by omega, hI.1, fun hf => by rw [hfd] at hf; simp at hf⟩) (by
                          try dsimp only
                          omega)
                    · -- hfd-
                      have hfd0 : fd = false := by simpa using hfd
                      obtain ⟨hwv, hnx2⟩ := hI.2 hfd0
                      obtain ⟨W, hW, N, hO⟩ : ∃ W, W = v168 ∧ ∃ N, One P1 P2 x L M j0 j W N := ⟨_, rfl, one_six hC hk6 hnx2 hSL (by omega) h168⟩
                      by_cases hmt : N = M
                      · -- hmt+
                        refine w_region (zd rfl (op_val (v' := .bool false) (by rw [hfd0]) (op_move rfl)) ?_)
                        refine zd rfl (op_not_f rfl) (zm rfl (wl_wanted_det rfl rfl rfl rfl rfl rfl rfl (op_loadA rfl tA52xr (Ent.lab (l := 21) rfl (says_cel 0)) (Nat.le_of_ble_eq_true rfl)) (wl_wanted_det rfl rfl rfl rfl rfl rfl rfl (op_move rfl) (wl_wanted [711,605,606] rfl rfl rfl rfl rfl rfl rfl rfl (op_fn Try.func31 rfl rfl rfl (agrees_c 711 hSM (by have h9 := hO.1; rw [hmt, hW] at h9; exact h9) (by decide))) ?_))))
                        rintro _ _ ⟨rfl, rfl⟩
                        refine zd rfl (op_pick_t rfl rfl) (wl_nil (st_tn (w_cond_t (rfl) ?_)))
                        refine w_drawW (fun β => [⟨181, [], [], [], noW (_), false, [], []⟩, ⟨182, [], [], [], noW (_), false, [], []⟩, ⟨8, [0], [], [], noW (_), false, [], []⟩]) [] [17, 21] [⟨181, [], [], false, [], []⟩, ⟨182, [], [], false, [], []⟩, ⟨8, [0], [], false, [], []⟩] [[], [], []] [[], [], []] tMixxr (fun _ => by rfl) (fun _ => by rfl) (by kernel_rfl) (by kernel_rfl) (by rfl) (by rfl)
                            (fun β => ⟨.p rfl (by intro X; exact op_move rfl),
                            ⟨.p rfl (by intro X; exact op_loadA rfl tA52xr (Ent.lab (l := 21) rfl (says_cel 0)) (Nat.le_of_ble_eq_true rfl)),
                            ⟨.p rfl (by intro X; rintro _ _ ⟨rfl, rfl⟩; exact op_assign rfl),
                            trivial⟩⟩⟩)
                            (fun β β' => ⟨fun _ => by rfl, ⟨fun _ => by rfl, ⟨fun _ => by rfl, trivial⟩⟩⟩) ?_
                        intro β
                        rintro _ _ ⟨rfl, rfl⟩ _ _ ⟨rfl, rfl⟩ _ _ ⟨rfl, rfl⟩
                        refine wl_norm (e' := [(0, _), (1, _), (2, _), (7, _), (8, _), (9, _), (10, _), (12, _), (17, _), (20, _), (182, _)]) (.cons rfl (.cons rfl (.cons rfl (.cons rfl (.cons rfl (.cons rfl (.cons rfl (.cons rfl (.cons rfl (.cons rfl (.cons rfl (.nil _)))))))))))) (by dsimp only [cond_false, cond_true, List.nil_append, List.cons_append]) ?_
                        refine wl_op0 [12] rfl rfl rfl (op_store rfl rfl tZ52xr (by rfl) (by rfl) (by exact Nat.le_of_ble_eq_true rfl)) ?_
                        rintro _ _ ⟨rfl, rfl⟩
                        refine za rfl (wl_nil (st_bn (st_tn (w_region (zm rfl (zd rfl (op_add' rfl rfl (by omega)) ?_))))))
                        refine za rfl (wl_nil ?_)
                        refine st_roundQ (x := (j, fd, pb, w)) ((j + 1, true, b139, op4 W)) [12, 601, 711, 605, 606, 9] rfl (by rw [hW]; rfl) (.cons rfl (.cons rfl (.cons rfl (.nil _)))) (.cons rfl (.cons rfl (.cons rfl (.cons rfl (.cons rfl (.cons rfl (.cons rfl (.cons rfl (.nil _))))))))) (by
                            try dsimp only
                            exact ⟨by omega, fun _ => ⟨rfl, (hmt ▸ hO.1 : MS P1 P2 (op4 W) (openL M)).st4⟩, fun hf => by simp at hf⟩) (by
                            try dsimp only
                            omega)
                      · -- hmt-
                        refine w_region (zd rfl (op_val (v' := .bool false) (by rw [hfd0]) (op_move rfl)) ?_)
                        refine zd rfl (op_not_f rfl) (zm rfl (wl_wanted_det rfl rfl rfl rfl rfl rfl rfl (op_loadA rfl tA52xr (Ent.lab (l := 21) rfl (says_cel 0)) (Nat.le_of_ble_eq_true rfl)) (wl_wanted_det rfl rfl rfl rfl rfl rfl rfl (op_move rfl) (wl_wanted [711,605,606] rfl rfl rfl rfl rfl rfl rfl rfl (op_fn Try.func31 rfl rfl rfl (agreesF_c 711 hSM (hO.2 hmt).1 (by have h9 := hO.1; rw [hW] at h9; exact h9) (hO.2 hmt).2.1)) ?_))))
                        rintro _ _ ⟨rfl, rfl⟩
                        refine zd rfl (op_pick_t rfl rfl) (wl_nil (st_tn (w_cond_f (rfl) ?_)))
                        refine w_skip (st_bn (st_tn (w_region (zm rfl (zd rfl (op_add' rfl rfl (by omega)) ?_)))))
                        refine za rfl (wl_nil ?_)
                        refine st_roundQ (x := (j, fd, pb, w)) ((j + 1, fd, pb, w)) [12, 601, 711, 605, 606, 9] rfl (rfl) (.cons rfl (.cons rfl (.cons rfl (.nil _)))) (.cons rfl (.cons rfl (.cons rfl (.cons rfl (.cons rfl (.cons rfl (.cons rfl (.cons rfl (.nil _))))))))) (by
                            try dsimp only
                            exact ⟨by omega, fun hf => by rw [hfd0] at hf; simp at hf, fun _ => ⟨by first | rfl | exact hwv, (hO.2 hmt).2.2⟩⟩) (by
                            try dsimp only
                            omega)
                  · -- hk6-
                    refine w_region (zm rfl (zm rfl (zd rfl (op_idx rfl rfl tS49xr (Sl.ent (by first | exact Sl.app (by assumption) _ | exact Sl.app (Sl.app (by assumption) _) _)) (by omega)) ?_)))
                    refine zd rfl (op_fieldAddr (off := 0) rfl tF41_0xr) (zd rfl (op_ldxf rfl tO5xr (by first | exact Sl.app (by assumption) _ | exact Sl.app (Sl.app (by assumption) _) _) (by assumption) (by rfl)) ?_)
                    refine zd rfl (op_remN rfl rfl (by omega) (by omega)) ?_
                    refine zd rfl (op_val (v' := .bool false) (by rw [decide_eq_false hk6]) (op_eql rfl rfl)) ?_
                    refine wl_nil (st_tn (w_cond_f (rfl) ?_))
                    refine w_seq (w_region (zm rfl (zd rfl (op_gtr rfl rfl) (wl_nil (st_tn (w_cond_d rfl (fun hc171 => ?_) (fun hc171 => ?_)))))))
                    · -- c171.t
                      refine w_region (zd rfl (op_loadA rfl tA52xr (Ent.lab (l := 12) rfl (says_cel 0)) (Nat.le_of_ble_eq_true rfl)) (zd rfl (op_fn Try.func39 rfl rfl rfl mopen4) (wl_op0 [21] rfl rfl rfl (op_store rfl rfl tZ52xr (by rfl) (by rfl) (by exact Nat.le_of_ble_eq_true rfl)) ?_)))
                      rintro _ _ ⟨rfl, rfl⟩
                      refine wl_nil (st_tn (w_seq ?_))
                      by_cases hfd : fd = true
                      · -- hfd+
                        refine w_region (zd rfl (op_val (v' := .bool true) (by rw [hfd]) (op_move rfl)) ?_)
                        refine zd rfl (op_not_t rfl) (zm rfl (wl_unwanted rfl rfl rfl rfl rfl rfl rfl rfl (wl_unwanted rfl rfl rfl rfl rfl rfl rfl rfl (wl_unwanted rfl rfl rfl rfl rfl rfl rfl rfl (zd rfl (op_pick_f rfl rfl) (wl_nil (st_tn (w_cond_f (rfl) ?_))))))))
                        refine w_skip (st_bn (st_tn (w_region (zm rfl (zd rfl (op_add' rfl rfl (by omega)) ?_)))))
                        refine za rfl (wl_nil ?_)
                        refine st_roundQ (x := (j, fd, pb, w)) ((j + 1, fd, pb, w)) [12, 601, 711, 605, 606, 9] rfl (rfl) (.cons rfl (.cons rfl (.cons rfl (.nil _)))) (.cons rfl (.cons rfl (.cons rfl (.cons rfl (.cons rfl (.cons rfl (.cons rfl (.cons rfl (.nil _))))))))) (by
                            try dsimp only
                            exact ⟨by omega, hI.1, fun hf => by rw [hfd] at hf; simp at hf⟩) (by
                            try dsimp only
                            omega)
                      · -- hfd-
                        have hfd0 : fd = false := by simpa using hfd
                        obtain ⟨hwv, hnx2⟩ := hI.2 hfd0
                        subst hwv
                        obtain ⟨W, hW, N, hO⟩ : ∃ W, W = w ∧ ∃ N, One P1 P2 x L M j0 j W N := ⟨_, rfl, one_pos hC hk6 hnx2 (by omega)⟩
                        by_cases hmt : N = M
                        · -- hmt+
                          refine w_region (zd rfl (op_val (v' := .bool false) (by rw [hfd0]) (op_move rfl)) ?_)
                          refine zd rfl (op_not_f rfl) (zm rfl (wl_wanted_det rfl rfl rfl rfl rfl rfl rfl (op_loadA rfl tA52xr (Ent.lab (l := 21) rfl (says_cel 0)) (Nat.le_of_ble_eq_true rfl)) (wl_wanted_det rfl rfl rfl rfl rfl rfl rfl (op_move rfl) (wl_wanted [711,605,606] rfl rfl rfl rfl rfl rfl rfl rfl (op_fn Try.func31 rfl rfl rfl (agrees_c 711 hSM (by have h9 := hO.1; rw [hmt, hW] at h9; exact h9) (by decide))) ?_))))
                          rintro _ _ ⟨rfl, rfl⟩
                          refine zd rfl (op_pick_t rfl rfl) (wl_nil (st_tn (w_cond_t (rfl) ?_)))
                          refine w_drawW (fun β => [⟨181, [], [], [], noW (_), false, [], []⟩, ⟨182, [], [], [], noW (_), false, [], []⟩, ⟨8, [0], [], [], noW (_), false, [], []⟩]) [] [17, 21] [⟨181, [], [], false, [], []⟩, ⟨182, [], [], false, [], []⟩, ⟨8, [0], [], false, [], []⟩] [[], [], []] [[], [], []] tMixxr (fun _ => by rfl) (fun _ => by rfl) (by kernel_rfl) (by kernel_rfl) (by rfl) (by rfl)
                              (fun β => ⟨.p rfl (by intro X; exact op_move rfl),
                              ⟨.p rfl (by intro X; exact op_loadA rfl tA52xr (Ent.lab (l := 21) rfl (says_cel 0)) (Nat.le_of_ble_eq_true rfl)),
                              ⟨.p rfl (by intro X; rintro _ _ ⟨rfl, rfl⟩; exact op_assign rfl),
                              trivial⟩⟩⟩)
                              (fun β β' => ⟨fun _ => by rfl, ⟨fun _ => by rfl, ⟨fun _ => by rfl, trivial⟩⟩⟩) ?_
                          intro β
                          rintro _ _ ⟨rfl, rfl⟩ _ _ ⟨rfl, rfl⟩ _ _ ⟨rfl, rfl⟩
                          refine wl_norm (e' := [(0, _), (1, _), (2, _), (7, _), (8, _), (9, _), (10, _), (12, _), (17, _), (20, _), (182, _)]) (.cons rfl (.cons rfl (.cons rfl (.cons rfl (.cons rfl (.cons rfl (.cons rfl (.cons rfl (.cons rfl (.cons rfl (.cons rfl (.nil _)))))))))))) (by dsimp only [cond_false, cond_true, List.nil_append, List.cons_append]) ?_
                          refine wl_op0 [12] rfl rfl rfl (op_store rfl rfl tZ52xr (by rfl) (by rfl) (by exact Nat.le_of_ble_eq_true rfl)) ?_
                          rintro _ _ ⟨rfl, rfl⟩
                          refine za rfl (wl_nil (st_bn (st_tn (w_region (zm rfl (zd rfl (op_add' rfl rfl (by omega)) ?_))))))
                          refine za rfl (wl_nil ?_)
                          refine st_roundQ (x := (j, fd, pb, w)) ((j + 1, true, b139, op4 W)) [12, 601, 711, 605, 606, 9] rfl (by rw [hW]; rfl) (.cons rfl (.cons rfl (.cons rfl (.nil _)))) (.cons rfl (.cons rfl (.cons rfl (.cons rfl (.cons rfl (.cons rfl (.cons rfl (.cons rfl (.nil _))))))))) (by
                              try dsimp only
                              exact ⟨by omega, fun _ => ⟨rfl, (hmt ▸ hO.1 : MS P1 P2 (op4 W) (openL M)).st4⟩, fun hf => by simp at hf⟩) (by
                              try dsimp only
                              omega)
                        · -- hmt-
                          refine w_region (zd rfl (op_val (v' := .bool false) (by rw [hfd0]) (op_move rfl)) ?_)
                          refine zd rfl (op_not_f rfl) (zm rfl (wl_wanted_det rfl rfl rfl rfl rfl rfl rfl (op_loadA rfl tA52xr (Ent.lab (l := 21) rfl (says_cel 0)) (Nat.le_of_ble_eq_true rfl)) (wl_wanted_det rfl rfl rfl rfl rfl rfl rfl (op_move rfl) (wl_wanted [711,605,606] rfl rfl rfl rfl rfl rfl rfl rfl (op_fn Try.func31 rfl rfl rfl (agreesF_c 711 hSM (hO.2 hmt).1 (by have h9 := hO.1; rw [hW] at h9; exact h9) (hO.2 hmt).2.1)) ?_))))
                          rintro _ _ ⟨rfl, rfl⟩
                          refine zd rfl (op_pick_t rfl rfl) (wl_nil (st_tn (w_cond_f (rfl) ?_)))
                          refine w_skip (st_bn (st_tn (w_region (zm rfl (zd rfl (op_add' rfl rfl (by omega)) ?_)))))
                          refine za rfl (wl_nil ?_)
                          refine st_roundQ (x := (j, fd, pb, w)) ((j + 1, fd, pb, w)) [12, 601, 711, 605, 606, 9] rfl (rfl) (.cons rfl (.cons rfl (.cons rfl (.nil _)))) (.cons rfl (.cons rfl (.cons rfl (.cons rfl (.cons rfl (.cons rfl (.cons rfl (.cons rfl (.nil _))))))))) (by
                              try dsimp only
                              exact ⟨by omega, fun hf => by rw [hfd0] at hf; simp at hf, fun _ => ⟨by first | rfl | exact hwv, (hO.2 hmt).2.2⟩⟩) (by
                              try dsimp only
                              omega)
                    · -- c171.f
                      refine w_skip (st_tn (w_seq ?_))
                      by_cases hfd : fd = true
                      · -- hfd+
                        refine w_region (zd rfl (op_val (v' := .bool true) (by rw [hfd]) (op_move rfl)) ?_)
                        refine zd rfl (op_not_t rfl) (zm rfl (wl_unwanted rfl rfl rfl rfl rfl rfl rfl rfl (wl_unwanted rfl rfl rfl rfl rfl rfl rfl rfl (wl_unwanted rfl rfl rfl rfl rfl rfl rfl rfl (zd rfl (op_pick_f rfl rfl) (wl_nil (st_tn (w_cond_f (rfl) ?_))))))))
                        refine w_skip (st_bn (st_tn (w_region (zm rfl (zd rfl (op_add' rfl rfl (by omega)) ?_)))))
                        refine za rfl (wl_nil ?_)
                        refine st_roundQ (x := (j, fd, pb, w)) ((j + 1, fd, pb, w)) [12, 601, 711, 605, 606, 9] rfl (rfl) (.cons rfl (.cons rfl (.cons rfl (.nil _)))) (.cons rfl (.cons rfl (.cons rfl (.cons rfl (.cons rfl (.cons rfl (.cons rfl (.cons rfl (.nil _))))))))) (by
                            try dsimp only
                            exact ⟨by omega, hI.1, fun hf => by rw [hfd] at hf; simp at hf⟩) (by
                            try dsimp only
                            omega)
                      · -- hfd-
                        have hfd0 : fd = false := by simpa using hfd
                        obtain ⟨hwv, hnx2⟩ := hI.2 hfd0
                        obtain ⟨W, hW, N, hO⟩ : ∃ W, W = v ∧ ∃ N, One P1 P2 x L M j0 j W N := ⟨_, rfl, one_zero hC hk6 hSL hMv⟩
                        by_cases hmt : N = M
                        · -- hmt+
                          refine w_region (zd rfl (op_val (v' := .bool false) (by rw [hfd0]) (op_move rfl)) ?_)
                          refine zd rfl (op_not_f rfl) (zm rfl (wl_wanted_det rfl rfl rfl rfl rfl rfl rfl (op_loadA rfl tA52xr (Ent.lab (l := 21) rfl (says_cel 0)) (Nat.le_of_ble_eq_true rfl)) (wl_wanted_det rfl rfl rfl rfl rfl rfl rfl (op_move rfl) (wl_wanted [711,605,606] rfl rfl rfl rfl rfl rfl rfl rfl (op_fn Try.func31 rfl rfl rfl (agrees_c 711 hSM (by have h9 := hO.1; rw [hmt, hW] at h9; exact h9) (by decide))) ?_))))
                          rintro _ _ ⟨rfl, rfl⟩
                          refine zd rfl (op_pick_t rfl rfl) (wl_nil (st_tn (w_cond_t (rfl) ?_)))
                          refine w_drawW (fun β => [⟨181, [], [], [], noW (_), false, [], []⟩, ⟨182, [], [], [], noW (_), false, [], []⟩, ⟨8, [0], [], [], noW (_), false, [], []⟩]) [] [17, 21] [⟨181, [], [], false, [], []⟩, ⟨182, [], [], false, [], []⟩, ⟨8, [0], [], false, [], []⟩] [[], [], []] [[], [], []] tMixxr (fun _ => by rfl) (fun _ => by rfl) (by kernel_rfl) (by kernel_rfl) (by rfl) (by rfl)
                              (fun β => ⟨.p rfl (by intro X; exact op_move rfl),
                              ⟨.p rfl (by intro X; exact op_loadA rfl tA52xr (Ent.lab (l := 21) rfl (says_cel 0)) (Nat.le_of_ble_eq_true rfl)),
                              ⟨.p rfl (by intro X; rintro _ _ ⟨rfl, rfl⟩; exact op_assign rfl),
                              trivial⟩⟩⟩)
                              (fun β β' => ⟨fun _ => by rfl, ⟨fun _ => by rfl, ⟨fun _ => by rfl, trivial⟩⟩⟩) ?_
                          intro β
                          rintro _ _ ⟨rfl, rfl⟩ _ _ ⟨rfl, rfl⟩ _ _ ⟨rfl, rfl⟩
                          refine wl_norm (e' := [(0, _), (1, _), (2, _), (7, _), (8, _), (9, _), (10, _), (12, _), (17, _), (20, _), (182, _)]) (.cons rfl (.cons rfl (.cons rfl (.cons rfl (.cons rfl (.cons rfl (.cons rfl (.cons rfl (.cons rfl (.cons rfl (.cons rfl (.nil _)))))))))))) (by dsimp only [cond_false, cond_true, List.nil_append, List.cons_append]) ?_
                          refine wl_op0 [12] rfl rfl rfl (op_store rfl rfl tZ52xr (by rfl) (by rfl) (by exact Nat.le_of_ble_eq_true rfl)) ?_
                          rintro _ _ ⟨rfl, rfl⟩
                          refine za rfl (wl_nil (st_bn (st_tn (w_region (zm rfl (zd rfl (op_add' rfl rfl (by omega)) ?_))))))
                          refine za rfl (wl_nil ?_)
                          refine st_roundQ (x := (j, fd, pb, w)) ((j + 1, true, b139, op4 W)) [12, 601, 711, 605, 606, 9] rfl (by rw [hW]; rfl) (.cons rfl (.cons rfl (.cons rfl (.nil _)))) (.cons rfl (.cons rfl (.cons rfl (.cons rfl (.cons rfl (.cons rfl (.cons rfl (.cons rfl (.nil _))))))))) (by
                              try dsimp only
                              exact ⟨by omega, fun _ => ⟨rfl, (hmt ▸ hO.1 : MS P1 P2 (op4 W) (openL M)).st4⟩, fun hf => by simp at hf⟩) (by
                              try dsimp only
                              omega)
                        · -- hmt-
                          refine w_region (zd rfl (op_val (v' := .bool false) (by rw [hfd0]) (op_move rfl)) ?_)
                          refine zd rfl (op_not_f rfl) (zm rfl (wl_wanted_det rfl rfl rfl rfl rfl rfl rfl (op_loadA rfl tA52xr (Ent.lab (l := 21) rfl (says_cel 0)) (Nat.le_of_ble_eq_true rfl)) (wl_wanted_det rfl rfl rfl rfl rfl rfl rfl (op_move rfl) (wl_wanted [711,605,606] rfl rfl rfl rfl rfl rfl rfl rfl (op_fn Try.func31 rfl rfl rfl (agreesF_c 711 hSM (hO.2 hmt).1 (by have h9 := hO.1; rw [hW] at h9; exact h9) (hO.2 hmt).2.1)) ?_))))
                          rintro _ _ ⟨rfl, rfl⟩
                          refine zd rfl (op_pick_t rfl rfl) (wl_nil (st_tn (w_cond_f (rfl) ?_)))
                          refine w_skip (st_bn (st_tn (w_region (zm rfl (zd rfl (op_add' rfl rfl (by omega)) ?_)))))
                          refine za rfl (wl_nil ?_)
                          refine st_roundQ (x := (j, fd, pb, w)) ((j + 1, fd, pb, w)) [12, 601, 711, 605, 606, 9] rfl (rfl) (.cons rfl (.cons rfl (.cons rfl (.nil _)))) (.cons rfl (.cons rfl (.cons rfl (.cons rfl (.cons rfl (.cons rfl (.cons rfl (.cons rfl (.nil _))))))))) (by
                              try dsimp only
                              exact ⟨by omega, fun hf => by rw [hfd0] at hf; simp at hf, fun _ => ⟨by first | rfl | exact hwv, (hO.2 hmt).2.2⟩⟩) (by
                              try dsimp only
                              omega)
                · -- c148.f
                  refine w_exit (st_te ?_)
                  refine st_te ?_
                  refine st_be (st_tn (w_seq (w_seq (w_region (zd rfl (op_loadA rfl tA52xr (Ent.lab (l := 12) rfl (says_cel 0)) (Nat.le_of_ble_eq_true rfl)) (zd rfl (op_fn Try.func39 rfl rfl rfl mopen4) (wl_op [] rfl rfl rfl rfl (op_alloc (l := 22) tN52xr) ?_)))))))
                  rintro _ _ ⟨b22, rfl, rfl⟩
                  refine wl_op0 [22] rfl rfl rfl (op_store rfl rfl tZ52xr (by rfl) (by rfl) (by exact Nat.le_of_ble_eq_true rfl)) ?_
                  rintro _ _ ⟨rfl, rfl⟩
                  refine wl_nil (st_tn (w_seq ?_))
                  by_cases hfd2 : fd = true
                  · -- hfd2+
                    obtain ⟨hpb, hMw⟩ := hI.1 hfd2
                    have hpb := hpb.symm
                    subst hpb
                    refine w_region (zd rfl (op_val (v' := .bool true) (by rw [hfd2]) (op_move rfl)) ?_)
                    refine zd rfl (op_not_t rfl) (zm rfl (wl_unwanted rfl rfl rfl rfl rfl rfl rfl rfl (wl_unwanted rfl rfl rfl rfl rfl rfl rfl rfl (wl_unwanted rfl rfl rfl rfl rfl rfl rfl rfl (zd rfl (op_pick_f rfl rfl) (wl_nil (st_tn (w_cond_f (rfl) ?_))))))))
                    refine w_skip (st_tn (w_seq (w_seq (w_region (zd rfl (op_val (v' := .bool true) (by rw [hfd2]) (op_move rfl)) ?_)))))
                    refine zd rfl (op_not_t rfl) (wl_nil (st_tn (w_cond_f (rfl) ?_)))
                    refine w_skip (st_tn (w_cls [601, 711, 605, 606] (A := [(601, dkR d24 (DskM.staO s' sc)), (711, lgR b139 d24 nmQ (openL M)), (605, poolS P1), (606, poolX P2)]) (C := [(601, runQ nmQ d24 b139 (i + 1) w)]) (runQ_closes (P1, P2, openL M, DskM.staO s' sc) ⟨runQ_qt hRM, hMw⟩) rfl ?_))
                    refine w_region (zd rfl (op_loadA rfl tA52xr (Ent.lab (l := 12) rfl (says_cel 0)) (Nat.le_of_ble_eq_true rfl)) (wl_op0 [9] rfl rfl rfl (op_store rfl rfl tZ52xr (by rfl) (by rfl) (by exact Nat.le_of_ble_eq_true rfl)) ?_))
                    rintro _ _ ⟨rfl, rfl⟩
                    refine wl_nil (st_bn (st_tn (w_region (zm rfl (zd rfl (op_add' rfl rfl (by omega)) ?_)))))
                    refine za rfl (wl_nil ?_)
                    refine st_roundQ (x := (i, b8, v)) ((i + 1, b139, w)) [601, 9] rfl (rfl) (.cons rfl (.cons rfl (.nil _))) (.cons rfl (.cons rfl (.cons rfl (.cons rfl (.cons rfl (.nil _)))))) (by
                        try dsimp only
                        omega) (by
                        try dsimp only
                        omega)
                  · -- hfd2-
                    have hfd20 : fd = false := by simpa using hfd2
                    obtain ⟨hwv, hnx2⟩ := hI.2 hfd20
                    subst hwv
                    have hMw := ms_opn (cand_end hC hnx2 (by omega))
                    refine w_region (zd rfl (op_val (v' := .bool false) (by rw [hfd20]) (op_move rfl)) ?_)
                    refine zd rfl (op_not_f rfl) (zm rfl (wl_wanted_det rfl rfl rfl rfl rfl rfl rfl (op_loadA rfl tA52xr (Ent.lab (l := 22) rfl (says_cel 0)) (Nat.le_of_ble_eq_true rfl)) (wl_wanted_det rfl rfl rfl rfl rfl rfl rfl (op_move rfl) (wl_wanted [711,605,606] rfl rfl rfl rfl rfl rfl rfl rfl (op_fn Try.func31 rfl rfl rfl (agrees_c 711 hSM hMw (by decide))) ?_))))
                    rintro _ _ ⟨rfl, rfl⟩
                    refine zd rfl (op_pick_t rfl rfl) (wl_nil (st_tn (w_cond_t (rfl) ?_)))
                    refine w_drawW (fun β => [⟨192, [], [], [], noW (_), false, [], []⟩, ⟨193, [], [], [], noW (_), false, [], []⟩, ⟨8, [0], [], [], noW (_), false, [], []⟩]) [] [17, 22] [⟨192, [], [], false, [], []⟩, ⟨193, [], [], false, [], []⟩, ⟨8, [0], [], false, [], []⟩] [[], [], []] [[], [], []] tMixxr (fun _ => by rfl) (fun _ => by rfl) (by kernel_rfl) (by kernel_rfl) (by rfl) (by rfl)
                        (fun β => ⟨.p rfl (by intro X; exact op_move rfl),
                        ⟨.p rfl (by intro X; exact op_loadA rfl tA52xr (Ent.lab (l := 22) rfl (says_cel 0)) (Nat.le_of_ble_eq_true rfl)),
                        ⟨.p rfl (by intro X; rintro _ _ ⟨rfl, rfl⟩; exact op_assign rfl),
                        trivial⟩⟩⟩)
                        (fun β β' => ⟨fun _ => by rfl, ⟨fun _ => by rfl, ⟨fun _ => by rfl, trivial⟩⟩⟩) ?_
                    intro β
                    rintro _ _ ⟨rfl, rfl⟩ _ _ ⟨rfl, rfl⟩ _ _ ⟨rfl, rfl⟩
                    refine wl_norm (e' := [(0, _), (1, _), (2, _), (7, _), (8, _), (9, _), (10, _), (12, _), (193, _)]) (.cons rfl (.cons rfl (.cons rfl (.cons rfl (.cons rfl (.cons rfl (.cons rfl (.cons rfl (.cons rfl (.nil _)))))))))) (by dsimp only [cond_false, cond_true, List.nil_append, List.cons_append]) ?_
                    refine wl_op0 [12] rfl rfl rfl (op_store rfl rfl tZ52xr (by rfl) (by rfl) (by exact Nat.le_of_ble_eq_true rfl)) ?_
                    rintro _ _ ⟨rfl, rfl⟩
                    refine za rfl (wl_nil (st_tn (w_seq (w_seq (w_region (zm rfl (zd rfl (op_not_t rfl) (wl_nil (st_tn (w_cond_f (rfl) ?_))))))))))
                    refine w_skip (st_tn (w_cls [601, 711, 605, 606] (A := [(601, dkR d24 (DskM.staO s' sc)), (711, lgR b139 d24 nmQ (openL M)), (605, poolS P1), (606, poolX P2)]) (C := [(601, runQ nmQ d24 b139 (i + 1) (op4 w))]) (runQ_closes (P1, P2, openL M, DskM.staO s' sc) ⟨runQ_qt hRM, hMw⟩) rfl ?_))
                    refine w_region (zd rfl (op_loadA rfl tA52xr (Ent.lab (l := 12) rfl (says_cel 0)) (Nat.le_of_ble_eq_true rfl)) (wl_op0 [9] rfl rfl rfl (op_store rfl rfl tZ52xr (by rfl) (by rfl) (by exact Nat.le_of_ble_eq_true rfl)) ?_))
                    rintro _ _ ⟨rfl, rfl⟩
                    refine wl_nil (st_bn (st_tn (w_region (zm rfl (zd rfl (op_add' rfl rfl (by omega)) ?_)))))
                    refine za rfl (wl_nil ?_)
                    refine st_roundQ (x := (i, b8, v)) ((i + 1, b139, op4 w)) [601, 9] rfl (rfl) (.cons rfl (.cons rfl (.nil _))) (.cons rfl (.cons rfl (.cons rfl (.cons rfl (.cons rfl (.nil _)))))) (by
                        try dsimp only
                        omega) (by
                        try dsimp only
                        omega)
              · -- hE-
                obtain ⟨_, hdn, hR1, hM1⟩ := hD.resolve_right (fun hh => hE hh.1)
                refine w_region (zm rfl (zd rfl (op_not_t rfl) (zm rfl (wl_wanted_det rfl rfl rfl rfl rfl rfl rfl (op_move rfl) (wl_wanted_det rfl rfl rfl rfl rfl rfl rfl (op_move rfl) (wl_wanted [601] rfl rfl rfl rfl rfl rfl rfl rfl (op_fn Try.func37 rfl rfl rfl (ddown_c 601)) ?_))))))
                rintro _ _ ⟨rfl, rfl⟩
                refine wl_wanted_det rfl rfl rfl rfl rfl rfl rfl (op_val (v' := .bool false) (by rw [hdn, decide_eq_false hE]; rfl) (op_neB rfl rfl Try.underlying4)) ?_
                refine zd rfl (op_pick_f rfl rfl) (wl_nil (st_tn (w_cond_f (rfl) ?_)))
                refine w_skip (st_tn (w_seq (w_seq (w_region (zd rfl (op_val (v' := .bool false) (by rw [decide_eq_false hE]; rfl) (op_move rfl)) ?_)))))
                refine zd rfl (op_not_f rfl) (wl_nil (st_tn (w_cond_t (rfl) ?_)))
                refine w_seq (w_cls [601, 611, 605, 606] (C := [(601, runQ nmQ d24 b89 (i + 1) v89)]) (runQ_closes (P1, P2, L', s') ⟨hR1, hM1⟩) rfl ?_)
                refine w_drawW (fun β => [⟨104, [], [], [], noW (_), false, [], []⟩, ⟨105, [], [], [], noW (_), false, [], []⟩, ⟨8, [0], [], [], noW (_), false, [], []⟩]) [] [11, 12] [⟨104, [], [], false, [], []⟩, ⟨105, [], [], false, [], []⟩, ⟨8, [0], [], false, [], []⟩] [[], [], []] [[], [], []] tMixxr (fun _ => by rfl) (fun _ => by rfl) (by kernel_rfl) (by kernel_rfl) (by rfl) (by rfl)
                    (fun β => ⟨.p rfl (by intro X; exact op_move rfl),
                    ⟨.p rfl (by intro X; exact op_loadA rfl tA52xr (Ent.lab (l := 12) rfl (says_cel 0)) (Nat.le_of_ble_eq_true rfl)),
                    ⟨.p rfl (by intro X; rintro _ _ ⟨rfl, rfl⟩; exact op_assign rfl),
                    trivial⟩⟩⟩)
                    (fun β β' => ⟨fun _ => by rfl, ⟨fun _ => by rfl, ⟨fun _ => by rfl, trivial⟩⟩⟩) ?_
                intro β
                rintro _ _ ⟨rfl, rfl⟩ _ _ ⟨rfl, rfl⟩ _ _ ⟨rfl, rfl⟩
                refine wl_norm (e' := [(0, _), (1, _), (2, _), (7, _), (8, _), (9, _), (10, _), (105, _)]) (.cons rfl (.cons rfl (.cons rfl (.cons rfl (.cons rfl (.cons rfl (.cons rfl (.cons rfl (.nil _))))))))) (by dsimp only [cond_false, cond_true, List.nil_append, List.cons_append]) ?_
                refine wl_op0 [9] rfl rfl rfl (op_store rfl rfl tZ52xr (by rfl) (by rfl) (by exact Nat.le_of_ble_eq_true rfl)) ?_
                rintro _ _ ⟨rfl, rfl⟩
                refine wl_nil (st_tn (w_exit (st_te ?_)))
                refine st_be (st_tn (w_region (zm rfl (zd rfl (op_add' rfl rfl (by omega)) ?_))))
                refine za rfl (wl_nil ?_)
                refine st_roundQ (x := (i, b8, v)) ((i + 1, b89, v89)) [601, 9] rfl (rfl) (.cons rfl (.cons rfl (.nil _))) (.cons rfl (.cons rfl (.cons rfl (.cons rfl (.cons rfl (.nil _)))))) (by
                    try dsimp only
                    omega) (by
                    try dsimp only
                    omega)
        · -- c57.f
          refine w_exit (st_te ?_)
          refine st_te ?_
          refine st_be (st_tn (w_seq (w_region (za rfl (wl_nil (st_tn (w_ret (st_ret (vs := [_]) [] Try.results10 ⟨rfl, trivial⟩ rfl ?_))))))))
          refine ⟨_, rfl, ?_⟩
          exact ⟨rfl, rfl⟩
end Go.Proofs.Ytcbigmgakdanjaa
