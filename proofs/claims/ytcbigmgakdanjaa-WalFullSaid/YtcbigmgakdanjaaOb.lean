/- Contracts of the encoding's reader, for numbers and counts. Contracts of the encoding's reader: Number, Count, Err, End, NewReader. Contracts of the encoding's writer, for numbers that are not negative. Contracts: the checksum, and the text of a writer and a reader. Contracts: the text of a writer and of a reader, encode. Contracts: the text of a reader, decode. Contracts: decode. Contracts: the names of a log's files. Contracts: CutPrefix, parse. Contracts: the small methods of a log. Contracts: Append, Segments, Read, Replay of a log. Contracts: Read, Replay of a log. Contracts: note. Contracts: load. Conditions: none. -/
import Derived.Test.YtcbigmgakdanjaaProg
import Derived.Test.YtcbigmgakdanjaaM2
import Derived.Test.YtcbigmgakdanjaaSlX
import Derived.Test.YtcbigmgakdanjaaSlT
import Derived.Test.YtcbigmgakdanjaaSlA
import Derived.Test.YtcbigmgakdanjaaOa
import Derived.Test.YtcbigmgakdanjaaM3
import Derived.Test.YtcbigmgakdanjaaSlY
import Derived.Test.YtcbigmgakdanjaaSlV
import Derived.Test.YtcbigmgakdanjaaSl7
import Derived.Test.YtcbigmgakdanjaaSlE
namespace Go.Proofs.Ytcbigmgakdanjaa
open Go Go.SL Go.RowKit Go.RdM
set_option linter.unusedVariables false
set_option linter.unusedSimpArgs false
theorem tF130_0rd : fieldB Try.prog 130 0 0 = true := by kernel_rfl
theorem tO9rd : oneB Try.prog 9 = true := by kernel_rfl

theorem raw_head {s : RdM.Bs} {at_ k : Nat} {neg : Bool} {b : UInt8} (h : s[at_ + 1]? = some b) (hk : 0 < k) : (raw s at_ k neg).head? = some (flp neg b) := by
  obtain ⟨j, rfl⟩ : ∃ j, k = j + 1 := ⟨k - 1, by omega⟩
  unfold raw
  obtain ⟨h1, h2⟩ := List.getElem?_eq_some_iff.1 h
  rw [List.drop_eq_getElem_cons h1, List.take_succ_cons, List.map_cons, h2]
  rfl
theorem val_raw_lt {s : RdM.Bs} {at_ k : Nat} {neg : Bool} (hk : k ≤ s.length - (at_ + 1)) {j : Nat} (hj : k ≤ j) : val (raw s at_ k neg) < 256 ^ j := by
  have h := val_lt (raw_lt s at_ k neg)
  rw [len_raw hk] at h
  exact Nat.lt_of_lt_of_le h (Nat.pow_le_pow_right (by omega) hj)
theorem head_ne {s : RdM.Bs} {at_ k i : Nat} {neg : Bool} {c : UInt8} (h : s[at_ + 1 + i]? = some c) (hz : 0 < i → (raw s at_ k neg).head? ≠ some 0) (h2 : i = 0 → flp neg c ≠ 0) (hk : i < k) : (raw s at_ k neg).head? ≠ some 0 := by
  rcases Nat.eq_zero_or_pos i with h0 | h0
  · subst h0
    rw [raw_head h hk]
    exact fun hh => h2 rfl (by simpa using hh)
  · exact hz h0
theorem head_zero {s : RdM.Bs} {at_ k i : Nat} {neg : Bool} {c : UInt8} (h : s[at_ + 1 + i]? = some c) (hi : i = 0) (h2 : flp neg c = 0) (hk : i < k) : (raw s at_ k neg).head? = some 0 := by
  subst hi; rw [raw_head h hk, h2]
theorem raw_ne {s : RdM.Bs} {at_ k : Nat} {neg : Bool} (hk : k ≤ s.length - (at_ + 1)) (h0 : 0 < k) : raw s at_ k neg ≠ [] := fun hh => by
  have := len_raw (neg := neg) hk; rw [hh] at this; simp at this; omega
/-- The cells of a reader. -/
def cellR (s : RdM.Bs) (r : Rd) : List Value := [.string (str s), .int .i64 r.at_, .int .i64 r.e]
set_option maxHeartbeats 4000000 in
set_option maxRecDepth 100000 in
theorem num_any {σ : World} {F : List Res} {b : Nat} {s : RdM.Bs} {r : Rd} (at_ : Nat) (hb : Ent σ F (At ⟨b, 0, none⟩ (cellR s r))) (hs : s.length ≤ 1099511627776) :
    FnT Try.prog σ F 95 [.pointer (some ⟨b, 0, none⟩), .int .i64 at_] [] (fun u ρ => u = .tuple #[.int .i64 (num s at_).1, .int .i64 (num s at_).2.1, .int .i64 (num s at_).2.2] ∧ ρ = []) := by
  refine fn_of 94 Try.func95 rfl Try.ntmps95 rfl ?_
  refine w_seq ?_
  refine w_region ?_
  refine wl_det rfl rfl rfl (op_assign rfl) ?_
  refine wl_det rfl rfl rfl (op_assign rfl) ?_
  refine wl_det rfl rfl rfl (op_assign rfl) ?_
  refine wl_nil ?_
  refine st_tn ?_
  refine w_seq ?_
  refine w_seq ?_
  refine w_region ?_
  refine wl_det rfl rfl rfl (op_move rfl) ?_
  refine wl_det rfl rfl rfl (op_move rfl) ?_
  refine wl_det rfl rfl rfl (op_nilCheck rfl) ?_
  refine wl_det rfl rfl rfl (op_fieldAddr (off := 0) rfl tF130_0rd) ?_
  refine wl_det rfl rfl rfl (op_load1 rfl tO9rd (Ent.app (Ent.fld hb 0) _)) ?_
  refine wl_det rfl rfl rfl (op_lenBs rfl Try.underlying9) ?_
  refine wl_det rfl rfl rfl (op_geq rfl rfl) ?_
  refine wl_nil ?_
  refine st_tn ?_
  refine w_cond_d rfl (fun hc19 => ?_) (fun hc19 => ?_)
  · -- c19.t
    refine w_seq ?_
    refine w_region ?_
    refine wl_det rfl rfl rfl (op_assign rfl) ?_
    refine wl_det rfl rfl rfl (op_assign rfl) ?_
    refine wl_det rfl rfl rfl (op_assign rfl) ?_
    refine wl_nil ?_
    refine st_tn ?_
    refine w_ret ?_
    refine st_tr ?_
    refine st_ret (vs := [_, _, _]) [] Try.results95 ⟨rfl, ⟨rfl, ⟨rfl, trivial⟩⟩⟩ rfl ?_
    refine ⟨_, rfl, ?_⟩
    rw [num_none (by omega)]; exact ⟨rfl, rfl⟩
  · -- c19.f
    obtain ⟨b0, hb0⟩ := getE (l := s) (i := at_) (by omega)
    have hb8 := b0.toNat_lt
    have hnum := num_some hb0
    refine w_skip ?_
    refine st_tn ?_
    refine w_seq ?_
    refine w_region ?_
    refine wl_det rfl rfl rfl (op_move rfl) ?_
    refine wl_det rfl rfl rfl (op_nilCheck rfl) ?_
    refine wl_det rfl rfl rfl (op_fieldAddr (off := 0) rfl tF130_0rd) ?_
    refine wl_det rfl rfl rfl (op_load1 rfl tO9rd (Ent.app (Ent.fld hb 0) _)) ?_
    refine wl_det rfl rfl rfl (op_move rfl) ?_
    refine wl_det rfl rfl rfl (op_idxBs rfl rfl Try.underlying9 (by assumption)) ?_
    refine wl_det rfl rfl rfl (op_convI64 rfl (by rw [Try.underlying5]; rfl) Try.underlying3 (by omega)) ?_
    refine wl_det rfl rfl rfl (op_sub' rfl rfl (by omega)) ?_
    refine wl_det rfl rfl rfl (op_assign rfl) ?_
    refine wl_det rfl rfl rfl (op_assign rfl) ?_
    refine wl_nil ?_
    refine st_tn ?_
    refine w_seq ?_
    refine w_seq ?_
    refine w_region ?_
    refine wl_det rfl rfl rfl (op_move rfl) ?_
    refine wl_det rfl rfl rfl (op_lss rfl rfl) ?_
    refine wl_nil ?_
    refine st_tn ?_
    refine w_cond_d rfl (fun hc29 => ?_) (fun hc29 => ?_)
    · -- c29.t
      have hneg : decide (b0.toNat < 128) = true := by simp; omega
      have hflip : (if decide (b0.toNat < 128) = true then 255 else 0 : Int) = 255 := by rw [if_pos hneg]
      have hov : (if decide (b0.toNat < 128) = true then 1 else 0 : Nat) = 1 := by rw [if_pos hneg]
      have hk : szB b0.toNat = 128 - b0.toNat := by unfold szB; rw [if_pos (by omega)]
      refine w_region ?_
      refine wl_det rfl rfl rfl (op_move rfl) ?_
      refine wl_det rfl rfl rfl (op_neg rfl (by omega)) ?_
      refine wl_det rfl rfl rfl (op_assign rfl) ?_
      refine wl_det rfl rfl rfl (op_assign rfl) ?_
      refine wl_nil ?_
      refine st_tn ?_
      refine w_seq ?_
      refine w_seq ?_
      refine w_region ?_
      refine wl_det rfl rfl rfl (op_move rfl) ?_
      refine wl_det rfl rfl rfl (op_gtr rfl rfl) ?_
      refine wl_nil ?_
      refine st_tn ?_
      refine w_cond_d rfl (fun hc33 => ?_) (fun hc33 => ?_)
      · -- c33.t
        refine w_seq ?_
        refine w_region ?_
        refine wl_det rfl rfl rfl (op_assign rfl) ?_
        refine wl_det rfl rfl rfl (op_assign rfl) ?_
        refine wl_det rfl rfl rfl (op_assign rfl) ?_
        refine wl_nil ?_
        refine st_tn ?_
        refine w_ret ?_
        refine st_tr ?_
        refine st_ret (vs := [_, _, _]) [] Try.results95 ⟨rfl, ⟨rfl, ⟨rfl, trivial⟩⟩⟩ rfl ?_
        refine ⟨_, rfl, ?_⟩
        rw [hnum, if_pos (by omega)]; exact ⟨rfl, rfl⟩
      · -- c33.f
        refine w_skip ?_
        refine st_tn ?_
        refine w_seq ?_
        refine w_region ?_
        refine wl_det rfl rfl rfl (op_move rfl) ?_
        refine wl_det rfl rfl rfl (op_add' rfl rfl (by omega)) ?_
        refine wl_det rfl rfl rfl (op_assign rfl) ?_
        refine wl_nil ?_
        refine st_tn ?_
        refine w_seq ?_
        refine w_seq ?_
        refine w_region ?_
        refine wl_det rfl rfl rfl (op_move rfl) ?_
        refine wl_det rfl rfl rfl (op_nilCheck rfl) ?_
        refine wl_det rfl rfl rfl (op_fieldAddr (off := 0) rfl tF130_0rd) ?_
        refine wl_det rfl rfl rfl (op_load1 rfl tO9rd (Ent.app (Ent.fld hb 0) _)) ?_
        refine wl_det rfl rfl rfl (op_lenBs rfl Try.underlying9) ?_
        refine wl_det rfl rfl rfl (op_move rfl) ?_
        refine wl_det rfl rfl rfl (op_sub' rfl rfl (by omega)) ?_
        refine wl_det rfl rfl rfl (op_move rfl) ?_
        refine wl_det rfl rfl rfl (op_lss rfl rfl) ?_
        refine wl_nil ?_
        refine st_tn ?_
        refine w_cond_d rfl (fun hc44 => ?_) (fun hc44 => ?_)
        · -- c44.t
          refine w_seq ?_
          refine w_region ?_
          refine wl_det rfl rfl rfl (op_assign rfl) ?_
          refine wl_det rfl rfl rfl (op_assign rfl) ?_
          refine wl_det rfl rfl rfl (op_assign rfl) ?_
          refine wl_nil ?_
          refine st_tn ?_
          refine w_ret ?_
          refine st_tr ?_
          refine st_ret (vs := [_, _, _]) [] Try.results95 ⟨rfl, ⟨rfl, ⟨rfl, trivial⟩⟩⟩ rfl ?_
          refine ⟨_, rfl, ?_⟩
          rw [hnum, if_neg (by omega), if_pos (by omega)]; exact ⟨rfl, rfl⟩
        · -- c44.f
          refine w_skip ?_
          refine st_tn ?_
          refine w_seq ?_
          refine w_region ?_
          refine wl_det rfl rfl rfl (op_assign rfl) ?_
          refine wl_nil ?_
          refine st_tn ?_
          refine w_seq ?_
          refine w_seq ?_
          refine w_region ?_
          refine wl_det rfl rfl rfl (op_move rfl) ?_
          refine wl_nil ?_
          refine st_tn ?_
          refine w_cond_t (rfl) ?_
          refine w_region ?_
          refine wl_det rfl rfl rfl (op_assign rfl) ?_
          refine wl_nil ?_
          refine st_tn ?_
          refine w_seq ?_
          refine w_region ?_
          refine wl_det rfl rfl rfl (op_assign rfl) ?_
          refine wl_nil ?_
          refine st_tn ?_
          refine w_seq ?_
          refine w_seq ?_
          refine w_region ?_
          refine wl_det rfl rfl rfl (op_move rfl) ?_
          refine wl_det rfl rfl rfl (op_move rfl) ?_
          refine wl_nil ?_
          refine st_tn ?_
          refine w_block ?_
          refine w_loopK (X := Nat) (fun i => i ≤ szB b0.toNat ∧ (0 < i → (raw s at_ (szB b0.toNat) (decide (b0.toNat < 128))).head? ≠ some 0)) (fun i => [(10, .int .u64 (val (raw s at_ i (decide (b0.toNat < 128))) : Nat)), (47, .int .i64 i)]) (fun _ => []) (fun i => szB b0.toNat - i) (0) [(0, _), (1, _), (7, _), (8, _), (9, _), (46, _)] [] (⟨Nat.zero_le _, fun h => absurd h (Nat.lt_irrefl _)⟩) (.cons rfl (.cons rfl (.nil _))) (.cons rfl (.cons rfl (.cons rfl (.cons rfl (.cons rfl (.cons rfl (.nil _))))))) [] rfl (rfl) ?_
          rintro i ⟨hi, hz⟩
          refine w_norm2 (by dsimp only [List.cons_append, List.nil_append]) (by dsimp only [List.cons_append, List.nil_append]) ?_
          refine w_seq ?_
          refine w_region ?_
          refine wl_det rfl rfl rfl (op_lss rfl rfl) ?_
          refine wl_nil ?_
          refine st_tn ?_
          refine w_seq ?_
          refine w_cond_d rfl (fun hc48 => ?_) (fun hc48 => ?_)
          · -- c48.t
            obtain ⟨c0, hc0⟩ := getE (l := s) (i := at_ + 1 + i) (by omega)
            have hc8 := c0.toNat_lt
            have hsucc := raw_succ (neg := decide (b0.toNat < 128)) hc0
            have hlt : val (raw s at_ i (decide (b0.toNat < 128))) < 72057594037927936 := val_raw_lt (s := s) (at_ := at_) (k := i) (neg := decide (b0.toNat < 128)) (by omega) (j := 7) (by omega)
            have hfl := flp_lt (decide (b0.toNat < 128)) c0
            refine w_skip ?_
            refine st_tn ?_
            refine w_seq ?_
            refine w_block ?_
            refine w_seq ?_
            refine w_region ?_
            refine wl_det rfl rfl rfl (op_move rfl) ?_
            refine wl_det rfl rfl rfl (op_assign rfl) ?_
            refine wl_nil ?_
            refine st_tn ?_
            refine w_seq ?_
            refine w_region ?_
            refine wl_det rfl rfl rfl (op_move rfl) ?_
            refine wl_det rfl rfl rfl (op_nilCheck rfl) ?_
            refine wl_det rfl rfl rfl (op_fieldAddr (off := 0) rfl tF130_0rd) ?_
            refine wl_det rfl rfl rfl (op_load1 rfl tO9rd (Ent.app (Ent.fld hb 0) _)) ?_
            refine wl_det rfl rfl rfl (op_move rfl) ?_
            refine wl_det rfl rfl rfl (op_move rfl) ?_
            refine wl_det rfl rfl rfl (op_add' rfl rfl (by omega)) ?_
            refine wl_det rfl rfl rfl (op_idxBs rfl rfl Try.underlying9 (by assumption)) ?_
            refine wl_det rfl rfl rfl (op_move rfl) ?_
            refine wl_det rfl rfl rfl (op_val (v' := .int .u8 ((flp (decide (b0.toNat < 128)) c0 : Nat) : Int)) (by rfl) (op_xorF (decide (b0.toNat < 128)) rfl (by rw [hflip]; rfl))) ?_
            refine wl_det rfl rfl rfl (op_assign rfl) ?_
            refine wl_nil ?_
            refine st_tn ?_
            refine w_seq ?_
            refine w_seq ?_
            refine w_region ?_
            refine wl_det rfl rfl rfl (op_move rfl) ?_
            refine wl_det rfl rfl rfl (op_eql rfl rfl) ?_
            refine wl_det rfl rfl rfl (op_move rfl) ?_
            refine wl_gsplit (t := 62) rfl (fun hg62 => ?_) (fun hg62 => ?_)
            · -- 62 is True
              refine wl_wanted_det rfl rfl rfl rfl rfl rfl rfl (op_move rfl) ?_
              refine wl_wanted_det rfl rfl rfl rfl rfl rfl rfl (op_eql rfl rfl) ?_
              refine wl_det rfl rfl rfl (op_pick_t rfl rfl) ?_
              refine wl_nil ?_
              refine st_tn ?_
              refine w_cond_d rfl (fun hc65 => ?_) (fun hc65 => ?_)
              · -- c65.t
                refine w_seq ?_
                refine w_region ?_
                refine wl_det rfl rfl rfl (op_assign rfl) ?_
                refine wl_det rfl rfl rfl (op_assign rfl) ?_
                refine wl_det rfl rfl rfl (op_assign rfl) ?_
                refine wl_nil ?_
                refine st_tn ?_
                refine w_ret ?_
                refine st_tr ?_
                refine st_br ?_
                refine st_tr ?_
                refine st_tr ?_
                refine st_br ?_
                refine st_tr ?_
                refine st_ret (vs := [_, _, _]) [] Try.results95 ⟨rfl, ⟨rfl, ⟨rfl, trivial⟩⟩⟩ rfl ?_
                refine ⟨_, rfl, ?_⟩
                have hi0 : i = 0 := by simpa using hg62
                rw [hnum, if_neg (by omega), if_neg (by omega), if_pos (head_zero hc0 hi0 (by omega) (by omega))]; exact ⟨rfl, rfl⟩
              · -- c65.f
                refine w_skip ?_
                refine st_tn ?_
                refine w_region ?_
                refine wl_det rfl rfl rfl (op_move rfl) ?_
                refine wl_det rfl rfl rfl (op_shlU8 rfl rfl hlt) ?_
                refine wl_det rfl rfl rfl (op_move rfl) ?_
                refine wl_det rfl rfl rfl (op_convU64 rfl (by rw [Try.underlying5]; rfl) Try.underlying125 (by omega)) ?_
                refine wl_det rfl rfl rfl (op_val (v' := .int .u64 ((val (raw s at_ (i + 1) (decide (b0.toNat < 128))) : Nat) : Int)) (by rw [hsucc, val_snoc]) (op_orU8 rfl rfl hlt hfl)) ?_
                refine wl_det rfl rfl rfl (op_assign rfl) ?_
                refine wl_nil ?_
                refine st_bn ?_
                refine st_tn ?_
                refine w_region ?_
                refine wl_det rfl rfl rfl (op_add' rfl rfl (by omega)) ?_
                refine wl_det rfl rfl rfl (op_move rfl) ?_
                refine wl_nil ?_
                refine st_roundK (x := i) (i + 1) [] (⟨by omega, fun _ => head_ne hc0 hz (by intro hi0; simp at hg62; omega) (by omega)⟩) (by show szB b0.toNat - (i + 1) < szB b0.toNat - i; omega) (.cons rfl (.cons rfl (.nil _))) (.cons rfl (.cons rfl (.cons rfl (.cons rfl (.cons rfl (.cons rfl (.nil _))))))) rfl (rfl) 
            · -- 62 is False
              refine wl_unwanted rfl rfl rfl rfl rfl rfl rfl rfl ?_
              refine wl_unwanted rfl rfl rfl rfl rfl rfl rfl rfl ?_
              refine wl_det rfl rfl rfl (op_pick_f rfl rfl) ?_
              refine wl_nil ?_
              refine st_tn ?_
              refine w_cond_f (rfl) ?_
              refine w_skip ?_
              refine st_tn ?_
              refine w_region ?_
              refine wl_det rfl rfl rfl (op_move rfl) ?_
              refine wl_det rfl rfl rfl (op_shlU8 rfl rfl hlt) ?_
              refine wl_det rfl rfl rfl (op_move rfl) ?_
              refine wl_det rfl rfl rfl (op_convU64 rfl (by rw [Try.underlying5]; rfl) Try.underlying125 (by omega)) ?_
              refine wl_det rfl rfl rfl (op_val (v' := .int .u64 ((val (raw s at_ (i + 1) (decide (b0.toNat < 128))) : Nat) : Int)) (by rw [hsucc, val_snoc]) (op_orU8 rfl rfl hlt hfl)) ?_
              refine wl_det rfl rfl rfl (op_assign rfl) ?_
              refine wl_nil ?_
              refine st_bn ?_
              refine st_tn ?_
              refine w_region ?_
              refine wl_det rfl rfl rfl (op_add' rfl rfl (by omega)) ?_
              refine wl_det rfl rfl rfl (op_move rfl) ?_
              refine wl_nil ?_
              refine st_roundK (x := i) (i + 1) [] (⟨by omega, fun _ => head_ne hc0 hz (by intro hi0; simp at hg62; omega) (by omega)⟩) (by show szB b0.toNat - (i + 1) < szB b0.toNat - i; omega) (.cons rfl (.cons rfl (.nil _))) (.cons rfl (.cons rfl (.cons rfl (.cons rfl (.cons rfl (.cons rfl (.nil _))))))) rfl (rfl) 
          · -- c48.f
            obtain rfl : i = szB b0.toNat := by omega
            have hhd : (raw s at_ (szB b0.toNat) (decide (b0.toNat < 128))).head? ≠ some 0 := by
              rcases Nat.eq_zero_or_pos (szB b0.toNat) with h0 | h0
              · rw [h0, raw_zero]; simp
              · exact hz h0
            have hpos : 0 < szB b0.toNat → 0 < val (raw s at_ (szB b0.toNat) (decide (b0.toNat < 128))) := fun h => val_pos hhd (raw_ne (by omega) h)
            refine w_exit ?_
            refine st_te ?_
            refine st_te ?_
            refine st_be ?_
            refine st_tn ?_
            refine w_seq ?_
            refine w_block ?_
            refine w_seq ?_
            refine w_seq ?_
            refine w_region ?_
            refine wl_det rfl rfl rfl (op_move rfl) ?_
            refine wl_det rfl rfl rfl (op_not_t rfl) ?_
            refine wl_det rfl rfl rfl (op_move rfl) ?_
            refine wl_unwanted rfl rfl rfl rfl rfl rfl rfl rfl ?_
            refine wl_unwanted rfl rfl rfl rfl rfl rfl rfl rfl ?_
            refine wl_det rfl rfl rfl (op_pick_f rfl rfl) ?_
            refine wl_det rfl rfl rfl (op_assign rfl) ?_
            refine wl_nil ?_
            refine st_tn ?_
            refine w_cond_f (rfl) ?_
            refine w_region ?_
            refine wl_det rfl rfl rfl (op_move rfl) ?_
            refine wl_det rfl rfl rfl (op_gtr rfl rfl) ?_
            refine wl_det rfl rfl rfl (op_assign rfl) ?_
            refine wl_nil ?_
            refine st_tn ?_
            refine w_cond_d rfl (fun hc72 => ?_) (fun hc72 => ?_)
            · -- c72.t
              refine w_seq ?_
              refine w_region ?_
              refine wl_det rfl rfl rfl (op_assign rfl) ?_
              refine wl_det rfl rfl rfl (op_assign rfl) ?_
              refine wl_det rfl rfl rfl (op_assign rfl) ?_
              refine wl_nil ?_
              refine st_tn ?_
              refine w_ret ?_
              refine st_br ?_
              refine st_tr ?_
              refine st_ret (vs := [_, _, _]) [] Try.results95 ⟨rfl, ⟨rfl, ⟨rfl, trivial⟩⟩⟩ rfl ?_
              refine ⟨_, rfl, ?_⟩
              rw [hnum, if_neg (by omega), if_neg (by omega), if_neg hhd, if_pos (by rw [hov]; omega)]; exact ⟨rfl, rfl⟩
            · -- c72.f
              refine w_seq ?_
              refine w_region ?_
              refine wl_det rfl rfl rfl (op_move rfl) ?_
              refine wl_det rfl rfl rfl (op_assign rfl) ?_
              refine wl_nil ?_
              refine st_tn ?_
              refine w_cond_t (rfl) ?_
              refine w_seq ?_
              refine w_region ?_
              refine wl_det rfl rfl rfl (op_move rfl) ?_
              refine wl_det rfl rfl rfl (op_negU64 rfl (hpos (by omega)) (by omega)) ?_
              refine wl_det rfl rfl rfl (op_convI64n rfl (by rw [Try.underlying125]; rfl) Try.underlying3 (hpos (by omega)) (by omega)) ?_
              refine wl_det rfl rfl rfl (op_move rfl) ?_
              refine wl_det rfl rfl rfl (op_move rfl) ?_
              refine wl_det rfl rfl rfl (op_val (v' := .int .i64 ((at_ + 1 + szB b0.toNat : Nat) : Int)) (by congr 1; omega) (op_add' rfl rfl (by omega))) ?_
              refine wl_det rfl rfl rfl (op_assign rfl) ?_
              refine wl_det rfl rfl rfl (op_assign rfl) ?_
              refine wl_det rfl rfl rfl (op_assign rfl) ?_
              refine wl_nil ?_
              refine st_tn ?_
              refine w_ret ?_
              refine st_br ?_
              refine st_tr ?_
              refine st_ret (vs := [_, _, _]) [] Try.results95 ⟨rfl, ⟨rfl, ⟨rfl, trivial⟩⟩⟩ rfl ?_
              refine ⟨_, rfl, ?_⟩
              rw [hnum, if_neg (by omega), if_neg (by omega), if_neg hhd, if_neg (by rw [hov]; omega)]; simp only [hneg, if_true]; exact ⟨rfl, trivial⟩
    · -- c29.f
      have hneg : decide (b0.toNat < 128) = false := by simp; omega
      have hflip : (if decide (b0.toNat < 128) = true then 255 else 0 : Int) = 0 := by rw [hneg]; rfl
      have hov : (if decide (b0.toNat < 128) = true then 1 else 0 : Nat) = 0 := by rw [hneg]; rfl
      have hk : szB b0.toNat = b0.toNat - 128 := by unfold szB; rw [if_neg (by omega)]
      refine w_skip ?_
      refine st_tn ?_
      refine w_seq ?_
      refine w_seq ?_
      refine w_region ?_
      refine wl_det rfl rfl rfl (op_move rfl) ?_
      refine wl_det rfl rfl rfl (op_gtr rfl rfl) ?_
      refine wl_nil ?_
      refine st_tn ?_
      refine w_cond_d rfl (fun hc33 => ?_) (fun hc33 => ?_)
      · -- c33.t
        refine w_seq ?_
        refine w_region ?_
        refine wl_det rfl rfl rfl (op_assign rfl) ?_
        refine wl_det rfl rfl rfl (op_assign rfl) ?_
        refine wl_det rfl rfl rfl (op_assign rfl) ?_
        refine wl_nil ?_
        refine st_tn ?_
        refine w_ret ?_
        refine st_tr ?_
        refine st_ret (vs := [_, _, _]) [] Try.results95 ⟨rfl, ⟨rfl, ⟨rfl, trivial⟩⟩⟩ rfl ?_
        refine ⟨_, rfl, ?_⟩
        rw [hnum, if_pos (by omega)]; exact ⟨rfl, rfl⟩
      · -- c33.f
        refine w_skip ?_
        refine st_tn ?_
        refine w_seq ?_
        refine w_region ?_
        refine wl_det rfl rfl rfl (op_move rfl) ?_
        refine wl_det rfl rfl rfl (op_add' rfl rfl (by omega)) ?_
        refine wl_det rfl rfl rfl (op_assign rfl) ?_
        refine wl_nil ?_
        refine st_tn ?_
        refine w_seq ?_
        refine w_seq ?_
        refine w_region ?_
        refine wl_det rfl rfl rfl (op_move rfl) ?_
        refine wl_det rfl rfl rfl (op_nilCheck rfl) ?_
        refine wl_det rfl rfl rfl (op_fieldAddr (off := 0) rfl tF130_0rd) ?_
        refine wl_det rfl rfl rfl (op_load1 rfl tO9rd (Ent.app (Ent.fld hb 0) _)) ?_
        refine wl_det rfl rfl rfl (op_lenBs rfl Try.underlying9) ?_
        refine wl_det rfl rfl rfl (op_move rfl) ?_
        refine wl_det rfl rfl rfl (op_sub' rfl rfl (by omega)) ?_
        refine wl_det rfl rfl rfl (op_move rfl) ?_
        refine wl_det rfl rfl rfl (op_lss rfl rfl) ?_
        refine wl_nil ?_
        refine st_tn ?_
        refine w_cond_d rfl (fun hc44 => ?_) (fun hc44 => ?_)
        · -- c44.t
          refine w_seq ?_
          refine w_region ?_
          refine wl_det rfl rfl rfl (op_assign rfl) ?_
          refine wl_det rfl rfl rfl (op_assign rfl) ?_
          refine wl_det rfl rfl rfl (op_assign rfl) ?_
          refine wl_nil ?_
          refine st_tn ?_
          refine w_ret ?_
          refine st_tr ?_
          refine st_ret (vs := [_, _, _]) [] Try.results95 ⟨rfl, ⟨rfl, ⟨rfl, trivial⟩⟩⟩ rfl ?_
          refine ⟨_, rfl, ?_⟩
          rw [hnum, if_neg (by omega), if_pos (by omega)]; exact ⟨rfl, rfl⟩
        · -- c44.f
          refine w_skip ?_
          refine st_tn ?_
          refine w_seq ?_
          refine w_region ?_
          refine wl_det rfl rfl rfl (op_assign rfl) ?_
          refine wl_nil ?_
          refine st_tn ?_
          refine w_seq ?_
          refine w_seq ?_
          refine w_region ?_
          refine wl_det rfl rfl rfl (op_move rfl) ?_
          refine wl_nil ?_
          refine st_tn ?_
          refine w_cond_f (rfl) ?_
          refine w_skip ?_
          refine st_tn ?_
          refine w_seq ?_
          refine w_region ?_
          refine wl_det rfl rfl rfl (op_assign rfl) ?_
          refine wl_nil ?_
          refine st_tn ?_
          refine w_seq ?_
          refine w_seq ?_
          refine w_region ?_
          refine wl_det rfl rfl rfl (op_move rfl) ?_
          refine wl_det rfl rfl rfl (op_move rfl) ?_
          refine wl_nil ?_
          refine st_tn ?_
          refine w_block ?_
          refine w_loopK (X := Nat) (fun i => i ≤ szB b0.toNat ∧ (0 < i → (raw s at_ (szB b0.toNat) (decide (b0.toNat < 128))).head? ≠ some 0)) (fun i => [(10, .int .u64 (val (raw s at_ i (decide (b0.toNat < 128))) : Nat)), (47, .int .i64 i)]) (fun _ => []) (fun i => szB b0.toNat - i) (0) [(0, _), (1, _), (7, _), (8, _), (9, _), (46, _)] [] (⟨Nat.zero_le _, fun h => absurd h (Nat.lt_irrefl _)⟩) (.cons rfl (.cons rfl (.nil _))) (.cons rfl (.cons rfl (.cons rfl (.cons rfl (.cons rfl (.cons rfl (.nil _))))))) [] rfl (rfl) ?_
          rintro i ⟨hi, hz⟩
          refine w_norm2 (by dsimp only [List.cons_append, List.nil_append]) (by dsimp only [List.cons_append, List.nil_append]) ?_
          refine w_seq ?_
          refine w_region ?_
          refine wl_det rfl rfl rfl (op_lss rfl rfl) ?_
          refine wl_nil ?_
          refine st_tn ?_
          refine w_seq ?_
          refine w_cond_d rfl (fun hc48 => ?_) (fun hc48 => ?_)
          · -- c48.t
            obtain ⟨c0, hc0⟩ := getE (l := s) (i := at_ + 1 + i) (by omega)
            have hc8 := c0.toNat_lt
            have hsucc := raw_succ (neg := decide (b0.toNat < 128)) hc0
            have hlt : val (raw s at_ i (decide (b0.toNat < 128))) < 72057594037927936 := val_raw_lt (s := s) (at_ := at_) (k := i) (neg := decide (b0.toNat < 128)) (by omega) (j := 7) (by omega)
            have hfl := flp_lt (decide (b0.toNat < 128)) c0
            refine w_skip ?_
            refine st_tn ?_
            refine w_seq ?_
            refine w_block ?_
            refine w_seq ?_
            refine w_region ?_
            refine wl_det rfl rfl rfl (op_move rfl) ?_
            refine wl_det rfl rfl rfl (op_assign rfl) ?_
            refine wl_nil ?_
            refine st_tn ?_
            refine w_seq ?_
            refine w_region ?_
            refine wl_det rfl rfl rfl (op_move rfl) ?_
            refine wl_det rfl rfl rfl (op_nilCheck rfl) ?_
            refine wl_det rfl rfl rfl (op_fieldAddr (off := 0) rfl tF130_0rd) ?_
            refine wl_det rfl rfl rfl (op_load1 rfl tO9rd (Ent.app (Ent.fld hb 0) _)) ?_
            refine wl_det rfl rfl rfl (op_move rfl) ?_
            refine wl_det rfl rfl rfl (op_move rfl) ?_
            refine wl_det rfl rfl rfl (op_add' rfl rfl (by omega)) ?_
            refine wl_det rfl rfl rfl (op_idxBs rfl rfl Try.underlying9 (by assumption)) ?_
            refine wl_det rfl rfl rfl (op_move rfl) ?_
            refine wl_det rfl rfl rfl (op_val (v' := .int .u8 ((flp (decide (b0.toNat < 128)) c0 : Nat) : Int)) (by rfl) (op_xorF (decide (b0.toNat < 128)) rfl (by rw [hflip]; rfl))) ?_
            refine wl_det rfl rfl rfl (op_assign rfl) ?_
            refine wl_nil ?_
            refine st_tn ?_
            refine w_seq ?_
            refine w_seq ?_
            refine w_region ?_
            refine wl_det rfl rfl rfl (op_move rfl) ?_
            refine wl_det rfl rfl rfl (op_eql rfl rfl) ?_
            refine wl_det rfl rfl rfl (op_move rfl) ?_
            refine wl_gsplit (t := 62) rfl (fun hg62 => ?_) (fun hg62 => ?_)
            · -- 62 is True
              refine wl_wanted_det rfl rfl rfl rfl rfl rfl rfl (op_move rfl) ?_
              refine wl_wanted_det rfl rfl rfl rfl rfl rfl rfl (op_eql rfl rfl) ?_
              refine wl_det rfl rfl rfl (op_pick_t rfl rfl) ?_
              refine wl_nil ?_
              refine st_tn ?_
              refine w_cond_d rfl (fun hc65 => ?_) (fun hc65 => ?_)
              · -- c65.t
                refine w_seq ?_
                refine w_region ?_
                refine wl_det rfl rfl rfl (op_assign rfl) ?_
                refine wl_det rfl rfl rfl (op_assign rfl) ?_
                refine wl_det rfl rfl rfl (op_assign rfl) ?_
                refine wl_nil ?_
                refine st_tn ?_
                refine w_ret ?_
                refine st_tr ?_
                refine st_br ?_
                refine st_tr ?_
                refine st_tr ?_
                refine st_br ?_
                refine st_tr ?_
                refine st_ret (vs := [_, _, _]) [] Try.results95 ⟨rfl, ⟨rfl, ⟨rfl, trivial⟩⟩⟩ rfl ?_
                refine ⟨_, rfl, ?_⟩
                have hi0 : i = 0 := by simpa using hg62
                rw [hnum, if_neg (by omega), if_neg (by omega), if_pos (head_zero hc0 hi0 (by omega) (by omega))]; exact ⟨rfl, rfl⟩
              · -- c65.f
                refine w_skip ?_
                refine st_tn ?_
                refine w_region ?_
                refine wl_det rfl rfl rfl (op_move rfl) ?_
                refine wl_det rfl rfl rfl (op_shlU8 rfl rfl hlt) ?_
                refine wl_det rfl rfl rfl (op_move rfl) ?_
                refine wl_det rfl rfl rfl (op_convU64 rfl (by rw [Try.underlying5]; rfl) Try.underlying125 (by omega)) ?_
                refine wl_det rfl rfl rfl (op_val (v' := .int .u64 ((val (raw s at_ (i + 1) (decide (b0.toNat < 128))) : Nat) : Int)) (by rw [hsucc, val_snoc]) (op_orU8 rfl rfl hlt hfl)) ?_
                refine wl_det rfl rfl rfl (op_assign rfl) ?_
                refine wl_nil ?_
                refine st_bn ?_
                refine st_tn ?_
                refine w_region ?_
                refine wl_det rfl rfl rfl (op_add' rfl rfl (by omega)) ?_
                refine wl_det rfl rfl rfl (op_move rfl) ?_
                refine wl_nil ?_
                refine st_roundK (x := i) (i + 1) [] (⟨by omega, fun _ => head_ne hc0 hz (by intro hi0; simp at hg62; omega) (by omega)⟩) (by show szB b0.toNat - (i + 1) < szB b0.toNat - i; omega) (.cons rfl (.cons rfl (.nil _))) (.cons rfl (.cons rfl (.cons rfl (.cons rfl (.cons rfl (.cons rfl (.nil _))))))) rfl (rfl) 
            · -- 62 is False
              refine wl_unwanted rfl rfl rfl rfl rfl rfl rfl rfl ?_
              refine wl_unwanted rfl rfl rfl rfl rfl rfl rfl rfl ?_
              refine wl_det rfl rfl rfl (op_pick_f rfl rfl) ?_
              refine wl_nil ?_
              refine st_tn ?_
              refine w_cond_f (rfl) ?_
              refine w_skip ?_
              refine st_tn ?_
              refine w_region ?_
              refine wl_det rfl rfl rfl (op_move rfl) ?_
              refine wl_det rfl rfl rfl (op_shlU8 rfl rfl hlt) ?_
              refine wl_det rfl rfl rfl (op_move rfl) ?_
              refine wl_det rfl rfl rfl (op_convU64 rfl (by rw [Try.underlying5]; rfl) Try.underlying125 (by omega)) ?_
              refine wl_det rfl rfl rfl (op_val (v' := .int .u64 ((val (raw s at_ (i + 1) (decide (b0.toNat < 128))) : Nat) : Int)) (by rw [hsucc, val_snoc]) (op_orU8 rfl rfl hlt hfl)) ?_
              refine wl_det rfl rfl rfl (op_assign rfl) ?_
              refine wl_nil ?_
              refine st_bn ?_
              refine st_tn ?_
              refine w_region ?_
              refine wl_det rfl rfl rfl (op_add' rfl rfl (by omega)) ?_
              refine wl_det rfl rfl rfl (op_move rfl) ?_
              refine wl_nil ?_
              refine st_roundK (x := i) (i + 1) [] (⟨by omega, fun _ => head_ne hc0 hz (by intro hi0; simp at hg62; omega) (by omega)⟩) (by show szB b0.toNat - (i + 1) < szB b0.toNat - i; omega) (.cons rfl (.cons rfl (.nil _))) (.cons rfl (.cons rfl (.cons rfl (.cons rfl (.cons rfl (.cons rfl (.nil _))))))) rfl (rfl) 
          · -- c48.f
            obtain rfl : i = szB b0.toNat := by omega
            have hhd : (raw s at_ (szB b0.toNat) (decide (b0.toNat < 128))).head? ≠ some 0 := by
              rcases Nat.eq_zero_or_pos (szB b0.toNat) with h0 | h0
              · rw [h0, raw_zero]; simp
              · exact hz h0
            have hpos : 0 < szB b0.toNat → 0 < val (raw s at_ (szB b0.toNat) (decide (b0.toNat < 128))) := fun h => val_pos hhd (raw_ne (by omega) h)
            refine w_exit ?_
            refine st_te ?_
            refine st_te ?_
            refine st_be ?_
            refine st_tn ?_
            refine w_seq ?_
            refine w_block ?_
            refine w_seq ?_
            refine w_seq ?_
            refine w_region ?_
            refine wl_det rfl rfl rfl (op_move rfl) ?_
            refine wl_det rfl rfl rfl (op_not_f rfl) ?_
            refine wl_det rfl rfl rfl (op_move rfl) ?_
            refine wl_wanted_det rfl rfl rfl rfl rfl rfl rfl (op_move rfl) ?_
            refine wl_wanted_det rfl rfl rfl rfl rfl rfl rfl (op_gtr rfl rfl) ?_
            refine wl_det rfl rfl rfl (op_pick_t rfl rfl) ?_
            refine wl_det rfl rfl rfl (op_assign rfl) ?_
            refine wl_nil ?_
            refine st_tn ?_
            refine w_cond_d rfl (fun hc72 => ?_) (fun hc72 => ?_)
            · -- c72.t
              refine w_skip ?_
              refine st_tn ?_
              refine w_cond_d rfl (fun hc72 => ?_) (fun hc72 => ?_)
              · -- c72.t
                refine w_seq ?_
                refine w_region ?_
                refine wl_det rfl rfl rfl (op_assign rfl) ?_
                refine wl_det rfl rfl rfl (op_assign rfl) ?_
                refine wl_det rfl rfl rfl (op_assign rfl) ?_
                refine wl_nil ?_
                refine st_tn ?_
                refine w_ret ?_
                refine st_br ?_
                refine st_tr ?_
                refine st_ret (vs := [_, _, _]) [] Try.results95 ⟨rfl, ⟨rfl, ⟨rfl, trivial⟩⟩⟩ rfl ?_
                refine ⟨_, rfl, ?_⟩
                rw [hnum, if_neg (by omega), if_neg (by omega), if_neg hhd, if_pos (by rw [hov]; omega)]; exact ⟨rfl, rfl⟩
              · -- c72.f
                refine w_seq ?_
                refine w_region ?_
                refine wl_det rfl rfl rfl (op_move rfl) ?_
                refine wl_det rfl rfl rfl (op_assign rfl) ?_
                refine wl_nil ?_
                refine st_tn ?_
                refine w_cond_f (rfl) ?_
                refine w_skip ?_
                refine st_bn ?_
                refine st_tn ?_
                refine w_seq ?_
                refine w_region ?_
                refine wl_det rfl rfl rfl (op_move rfl) ?_
                refine wl_det rfl rfl rfl (op_convI64 rfl (by rw [Try.underlying125]; rfl) Try.underlying3 (by omega)) ?_
                refine wl_det rfl rfl rfl (op_move rfl) ?_
                refine wl_det rfl rfl rfl (op_move rfl) ?_
                refine wl_det rfl rfl rfl (op_val (v' := .int .i64 ((at_ + 1 + szB b0.toNat : Nat) : Int)) (by congr 1; omega) (op_add' rfl rfl (by omega))) ?_
                refine wl_det rfl rfl rfl (op_assign rfl) ?_
                refine wl_det rfl rfl rfl (op_assign rfl) ?_
                refine wl_det rfl rfl rfl (op_assign rfl) ?_
                refine wl_nil ?_
                refine st_tn ?_
                refine w_ret ?_
                refine st_ret (vs := [_, _, _]) [] Try.results95 ⟨rfl, ⟨rfl, ⟨rfl, trivial⟩⟩⟩ rfl ?_
                refine ⟨_, rfl, ?_⟩
                rw [hnum, if_neg (by omega), if_neg (by omega), if_neg hhd, if_neg (by rw [hov]; omega)]; simp only [hneg, Bool.false_eq_true, if_false]; exact ⟨rfl, trivial⟩
            · -- c72.f
              refine w_region ?_
              refine wl_det rfl rfl rfl (op_move rfl) ?_
              refine wl_det rfl rfl rfl (op_gtr rfl rfl) ?_
              refine wl_det rfl rfl rfl (op_assign rfl) ?_
              refine wl_nil ?_
              refine st_tn ?_
              refine w_cond_d rfl (fun hc72 => ?_) (fun hc72 => ?_)
              · -- c72.t
                refine w_seq ?_
                refine w_region ?_
                refine wl_det rfl rfl rfl (op_assign rfl) ?_
                refine wl_det rfl rfl rfl (op_assign rfl) ?_
                refine wl_det rfl rfl rfl (op_assign rfl) ?_
                refine wl_nil ?_
                refine st_tn ?_
                refine w_ret ?_
                refine st_br ?_
                refine st_tr ?_
                refine st_ret (vs := [_, _, _]) [] Try.results95 ⟨rfl, ⟨rfl, ⟨rfl, trivial⟩⟩⟩ rfl ?_
                refine ⟨_, rfl, ?_⟩
                rw [hnum, if_neg (by omega), if_neg (by omega), if_neg hhd, if_pos (by rw [hov]; omega)]; exact ⟨rfl, rfl⟩
              · -- c72.f
                refine w_seq ?_
                refine w_region ?_
                refine wl_det rfl rfl rfl (op_move rfl) ?_
                refine wl_det rfl rfl rfl (op_assign rfl) ?_
                refine wl_nil ?_
                refine st_tn ?_
                refine w_cond_f (rfl) ?_
                refine w_skip ?_
                refine st_bn ?_
                refine st_tn ?_
                refine w_seq ?_
                refine w_region ?_
                refine wl_det rfl rfl rfl (op_move rfl) ?_
                refine wl_det rfl rfl rfl (op_convI64 rfl (by rw [Try.underlying125]; rfl) Try.underlying3 (by omega)) ?_
                refine wl_det rfl rfl rfl (op_move rfl) ?_
                refine wl_det rfl rfl rfl (op_move rfl) ?_
                refine wl_det rfl rfl rfl (op_val (v' := .int .i64 ((at_ + 1 + szB b0.toNat : Nat) : Int)) (by congr 1; omega) (op_add' rfl rfl (by omega))) ?_
                refine wl_det rfl rfl rfl (op_assign rfl) ?_
                refine wl_det rfl rfl rfl (op_assign rfl) ?_
                refine wl_det rfl rfl rfl (op_assign rfl) ?_
                refine wl_nil ?_
                refine st_tn ?_
                refine w_ret ?_
                refine st_ret (vs := [_, _, _]) [] Try.results95 ⟨rfl, ⟨rfl, ⟨rfl, trivial⟩⟩⟩ rfl ?_
                refine ⟨_, rfl, ?_⟩
                rw [hnum, if_neg (by omega), if_neg (by omega), if_neg hhd, if_neg (by rw [hov]; omega)]; simp only [hneg, Bool.false_eq_true, if_false]; exact ⟨rfl, trivial⟩

end Go.Proofs.Ytcbigmgakdanjaa
namespace Go.Proofs.Ytcbigmgakdanjaa
open Go Go.SL Go.RowKit Go.RdM
set_option linter.unusedVariables false
set_option linter.unusedSimpArgs false
theorem tB130re : placesB Try.prog 130 = some ([(0, 1), (1, 1), (2, 1)], [Value.string .empty, Value.int .i64 0, Value.int .i64 0]) := by kernel_rfl
theorem tF130_0re : fieldB Try.prog 130 0 0 = true := by kernel_rfl
theorem tF130_1re : fieldB Try.prog 130 1 1 = true := by kernel_rfl
theorem tF130_2re : fieldB Try.prog 130 2 2 = true := by kernel_rfl
theorem tMixre : Try.prog.follows .mixedOrders = true := by kernel_rfl
theorem tO28re : oneB Try.prog 28 = true := by kernel_rfl
theorem tO3re : oneB Try.prog 3 = true := by kernel_rfl
theorem tO9re : oneB Try.prog 9 = true := by kernel_rfl
theorem tZ28re : (Try.prog.info? 28).map (·.size) = some 1 := by kernel_rfl
theorem tZ3re : (Try.prog.info? 3).map (·.size) = some 1 := by kernel_rfl

theorem celR {σ : World} {F : List Res} {R : RL} {b T : Nat} {s : RdM.Bs} {r : Rd} (lab : Nat) (h : getL R lab = some (cel b (cellR s r) T)) : Ent σ (rs R ++ F) (At ⟨b, 0, none⟩ (cellR s r)) := Ent.lab h (says_cel 0)
set_option maxHeartbeats 400000 in
set_option maxRecDepth 100000 in
theorem rok_any {σ : World} {F : List Res} {b : Nat} {s : RdM.Bs} {r : Rd} (hb : Ent σ F (At ⟨b, 0, none⟩ (cellR s r))) :
    FnT Try.prog σ F 93 [.pointer (some ⟨b, 0, none⟩)] [] (fun u ρ => u = .bool (decide (r.e = 0)) ∧ ρ = []) := by
  refine fn_of 12 Try.func93 rfl Try.ntmps93 rfl ?_
  refine w_seq ?_
  refine w_region ?_
  refine wl_det rfl rfl rfl (op_assign rfl) ?_
  refine wl_nil ?_
  refine st_tn ?_
  refine w_seq ?_
  refine w_region ?_
  refine wl_det rfl rfl rfl (op_move rfl) ?_
  refine wl_det rfl rfl rfl (op_val (v' := .bool true) (by simp) (op_nePtr rfl Try.underlying116)) ?_
  refine wl_det rfl rfl rfl (op_move rfl) ?_
  refine wl_wanted_det rfl rfl rfl rfl rfl rfl rfl (op_move rfl) ?_
  refine wl_wanted_det rfl rfl rfl rfl rfl rfl rfl (op_nilCheck rfl) ?_
  refine wl_wanted_det rfl rfl rfl rfl rfl rfl rfl (op_fieldAddr (off := 2) rfl tF130_2re) ?_
  refine wl_wanted_det rfl rfl rfl rfl rfl rfl rfl (op_load1 rfl tO28re (Ent.app (Ent.fld hb 2) _)) ?_
  refine wl_wanted_det rfl rfl rfl rfl rfl rfl rfl (op_eql rfl rfl) ?_
  refine wl_det rfl rfl rfl (op_pick_t rfl rfl) ?_
  refine wl_det rfl rfl rfl (op_assign rfl) ?_
  refine wl_nil ?_
  refine st_tn ?_
  refine w_ret ?_
  refine st_ret (vs := [_]) [] Try.results93 ⟨rfl, trivial⟩ rfl ?_
  refine ⟨_, rfl, ?_⟩
  exact ⟨rfl, rfl⟩

set_option maxHeartbeats 400000 in
set_option maxRecDepth 100000 in
theorem rfail_any {σ : World} {F : List Res} {b : Nat} {s : RdM.Bs} {r : Rd} (e : Int) (he : r.e = 0) :
    FnT Try.prog σ F 96 [.pointer (some ⟨b, 0, none⟩), .int .i64 e] [(600, cel b (cellR s r) 130)] (fun u ρ => u = .tuple #[] ∧ ρ = [(600, cel b (cellR s ⟨r.at_, e⟩) 130)]) := by
  refine fn_of 13 Try.func96 rfl Try.ntmps96 rfl ?_
  refine w_seq ?_
  refine w_region ?_
  refine wl_det rfl rfl rfl (op_move rfl) ?_
  refine wl_det rfl rfl rfl (op_nilCheck rfl) ?_
  refine wl_det rfl rfl rfl (op_fieldAddr (off := 2) rfl tF130_2re) ?_
  refine wl_det rfl rfl rfl (op_load1 rfl tO28re (Ent.lab (l := 600) rfl (says_cel 2))) ?_
  refine wl_det rfl rfl rfl (op_eql rfl rfl) ?_
  refine wl_nil ?_
  refine st_tn ?_
  refine w_cond_d rfl (fun hc8 => ?_) (fun hc8 => ?_)
  · -- c8.t
    refine w_region ?_
    refine wl_det rfl rfl rfl (op_move rfl) ?_
    refine wl_det rfl rfl rfl (op_move rfl) ?_
    refine wl_det rfl rfl rfl (op_nilCheck rfl) ?_
    refine wl_det rfl rfl rfl (op_fieldAddr (off := 2) rfl tF130_2re) ?_
    refine wl_op0 [600] rfl rfl rfl (op_store rfl rfl tZ28re (by rfl) (by rfl) (by exact Nat.le_of_ble_eq_true rfl)) ?_
    rintro _ _ ⟨rfl, rfl⟩
    refine wl_nil ?_
    refine st_end (vs := []) [600] Try.results96 trivial rfl ?_
    refine ⟨[(600, _)], rfl, ?_⟩
    exact ⟨rfl, rfl⟩
  · -- c8.f
    exfalso; exact hc8 he

set_option maxHeartbeats 400000 in
set_option maxRecDepth 100000 in
theorem rsize_any {σ : World} {F : List Res} {b : Nat} {s : RdM.Bs} {r : Rd} (most more : Int) (he : r.e = 0) (hs : s.length ≤ 1099511627776) (hm : more ≠ 0) :
    FnT Try.prog σ F 94 [.pointer (some ⟨b, 0, none⟩), .int .i64 most, .int .i64 more] [(600, cel b (cellR s r) 130)] (fun u ρ => u = .tuple #[.int .i64 (if szE s r.at_ most more = 0 then (num s r.at_).1 else 0), .int .i64 ((if szE s r.at_ most more = 0 then (num s r.at_).2.1 else 0 : Nat) : Int), .bool (decide (szE s r.at_ most more = 0))] ∧ ρ = [(600, cel b (cellR s ⟨r.at_, szE s r.at_ most more⟩) 130)]) := by
  refine fn_of 48 Try.func94 rfl Try.ntmps94 rfl ?_
  have hbd := num_bd s r.at_
  refine w_seq ?_
  refine w_region ?_
  refine wl_det rfl rfl rfl (op_assign rfl) ?_
  refine wl_det rfl rfl rfl (op_assign rfl) ?_
  refine wl_det rfl rfl rfl (op_assign rfl) ?_
  refine wl_nil ?_
  refine st_tn ?_
  refine w_seq ?_
  refine w_region ?_
  refine wl_det rfl rfl rfl (op_move rfl) ?_
  refine wl_det rfl rfl rfl (op_move rfl) ?_
  refine wl_det rfl rfl rfl (op_nilCheck rfl) ?_
  refine wl_det rfl rfl rfl (op_fieldAddr (off := 1) rfl tF130_1re) ?_
  refine wl_det rfl rfl rfl (op_load1 rfl tO3re (Ent.lab (l := 600) rfl (says_cel 1))) ?_
  refine wl_det rfl rfl rfl (op_fn Try.func95 rfl rfl rfl (num_any (r := r) r.at_ (celR 600 rfl) hs)) ?_
  refine wl_det rfl rfl rfl (op_move rfl) ?_
  refine wl_det rfl rfl rfl (op_extract rfl rfl) ?_
  refine wl_det rfl rfl rfl (op_extract rfl rfl) ?_
  refine wl_det rfl rfl rfl (op_extract rfl rfl) ?_
  refine wl_det rfl rfl rfl (op_assign rfl) ?_
  refine wl_det rfl rfl rfl (op_assign rfl) ?_
  refine wl_det rfl rfl rfl (op_assign rfl) ?_
  refine wl_nil ?_
  refine st_tn ?_
  refine w_seq ?_
  refine w_block ?_
  refine w_seq ?_
  refine w_region ?_
  refine wl_det rfl rfl rfl (op_move rfl) ?_
  refine wl_det rfl rfl rfl (op_neq rfl rfl) ?_
  refine wl_det rfl rfl rfl (op_assign rfl) ?_
  refine wl_nil ?_
  refine st_tn ?_
  refine w_cond_d rfl (fun hc20 => ?_) (fun hc20 => ?_)
  · -- c20.t
    have hz : szE s r.at_ most more = (num s r.at_).2.2 := by unfold szE; rw [if_pos hc20]
    have hz0 : szE s r.at_ most more ≠ 0 := by rw [hz]; exact hc20
    refine w_skip ?_
    refine st_bn ?_
    refine st_tn ?_
    refine w_seq ?_
    refine w_seq ?_
    refine w_region ?_
    refine wl_det rfl rfl rfl (op_move rfl) ?_
    refine wl_det rfl rfl rfl (op_val (v' := .bool true) (by simp; exact hc20) (op_neq rfl rfl)) ?_
    refine wl_nil ?_
    refine st_tn ?_
    refine w_cond_t (rfl) ?_
    refine w_seq ?_
    refine w_region ?_
    refine wl_det rfl rfl rfl (op_move rfl) ?_
    refine wl_det rfl rfl rfl (op_move rfl) ?_
    refine wl_op [600] rfl rfl rfl rfl (op_fn Try.func96 rfl rfl rfl (rfail_any _ he)) ?_
    rintro _ _ ⟨rfl, rfl⟩
    refine wl_nil ?_
    refine st_tn ?_
    refine w_seq ?_
    refine w_region ?_
    refine wl_det rfl rfl rfl (op_assign rfl) ?_
    refine wl_det rfl rfl rfl (op_assign rfl) ?_
    refine wl_det rfl rfl rfl (op_assign rfl) ?_
    refine wl_nil ?_
    refine st_tn ?_
    refine w_ret ?_
    refine st_tr ?_
    refine st_ret (vs := [_, _, _]) [600] Try.results94 ⟨rfl, ⟨rfl, ⟨rfl, trivial⟩⟩⟩ rfl ?_
    refine ⟨[(600, _)], rfl, ?_⟩
    exact ⟨by rw [if_neg hz0, if_neg hz0, decide_eq_false hz0]; rfl, by rw [hz]⟩
  · -- c20.f
    refine w_seq ?_
    refine w_region ?_
    refine wl_det rfl rfl rfl (op_move rfl) ?_
    refine wl_det rfl rfl rfl (op_lss rfl rfl) ?_
    refine wl_det rfl rfl rfl (op_assign rfl) ?_
    refine wl_nil ?_
    refine st_tn ?_
    refine w_cond_d rfl (fun hc23 => ?_) (fun hc23 => ?_)
    · -- c23.t
      have hz : szE s r.at_ most more = 3 := by unfold szE; rw [if_neg hc20, if_pos hc23]
      have hz0 : szE s r.at_ most more ≠ 0 := by rw [hz]; simp
      refine w_region ?_
      refine wl_det rfl rfl rfl (op_assign rfl) ?_
      refine wl_nil ?_
      refine st_bn ?_
      refine st_tn ?_
      refine w_seq ?_
      refine w_seq ?_
      refine w_region ?_
      refine wl_det rfl rfl rfl (op_move rfl) ?_
      refine wl_det rfl rfl rfl (op_val (v' := .bool true) (by simp) (op_neq rfl rfl)) ?_
      refine wl_nil ?_
      refine st_tn ?_
      refine w_cond_t (rfl) ?_
      refine w_seq ?_
      refine w_region ?_
      refine wl_det rfl rfl rfl (op_move rfl) ?_
      refine wl_det rfl rfl rfl (op_move rfl) ?_
      refine wl_op [600] rfl rfl rfl rfl (op_fn Try.func96 rfl rfl rfl (rfail_any _ he)) ?_
      rintro _ _ ⟨rfl, rfl⟩
      refine wl_nil ?_
      refine st_tn ?_
      refine w_seq ?_
      refine w_region ?_
      refine wl_det rfl rfl rfl (op_assign rfl) ?_
      refine wl_det rfl rfl rfl (op_assign rfl) ?_
      refine wl_det rfl rfl rfl (op_assign rfl) ?_
      refine wl_nil ?_
      refine st_tn ?_
      refine w_ret ?_
      refine st_tr ?_
      refine st_ret (vs := [_, _, _]) [600] Try.results94 ⟨rfl, ⟨rfl, ⟨rfl, trivial⟩⟩⟩ rfl ?_
      refine ⟨[(600, _)], rfl, ?_⟩
      exact ⟨by rw [if_neg hz0, if_neg hz0, decide_eq_false hz0]; rfl, by rw [hz]⟩
    · -- c23.f
      refine w_seq ?_
      refine w_region ?_
      refine wl_det rfl rfl rfl (op_move rfl) ?_
      refine wl_det rfl rfl rfl (op_move rfl) ?_
      refine wl_det rfl rfl rfl (op_gtr rfl rfl) ?_
      refine wl_det rfl rfl rfl (op_assign rfl) ?_
      refine wl_nil ?_
      refine st_tn ?_
      refine w_cond_d rfl (fun hc26 => ?_) (fun hc26 => ?_)
      · -- c26.t
        have hz : szE s r.at_ most more = more := by unfold szE; rw [if_neg hc20, if_neg hc23, if_pos hc26]
        have hz0 : szE s r.at_ most more ≠ 0 := by rw [hz]; exact hm
        refine w_region ?_
        refine wl_det rfl rfl rfl (op_move rfl) ?_
        refine wl_det rfl rfl rfl (op_assign rfl) ?_
        refine wl_nil ?_
        refine st_bn ?_
        refine st_tn ?_
        refine w_seq ?_
        refine w_seq ?_
        refine w_region ?_
        refine wl_det rfl rfl rfl (op_move rfl) ?_
        refine wl_det rfl rfl rfl (op_val (v' := .bool true) (by simp; exact hm) (op_neq rfl rfl)) ?_
        refine wl_nil ?_
        refine st_tn ?_
        refine w_cond_t (rfl) ?_
        refine w_seq ?_
        refine w_region ?_
        refine wl_det rfl rfl rfl (op_move rfl) ?_
        refine wl_det rfl rfl rfl (op_move rfl) ?_
        refine wl_op [600] rfl rfl rfl rfl (op_fn Try.func96 rfl rfl rfl (rfail_any _ he)) ?_
        rintro _ _ ⟨rfl, rfl⟩
        refine wl_nil ?_
        refine st_tn ?_
        refine w_seq ?_
        refine w_region ?_
        refine wl_det rfl rfl rfl (op_assign rfl) ?_
        refine wl_det rfl rfl rfl (op_assign rfl) ?_
        refine wl_det rfl rfl rfl (op_assign rfl) ?_
        refine wl_nil ?_
        refine st_tn ?_
        refine w_ret ?_
        refine st_tr ?_
        refine st_ret (vs := [_, _, _]) [600] Try.results94 ⟨rfl, ⟨rfl, ⟨rfl, trivial⟩⟩⟩ rfl ?_
        refine ⟨[(600, _)], rfl, ?_⟩
        exact ⟨by rw [if_neg hz0, if_neg hz0, decide_eq_false hz0]; rfl, by rw [hz]⟩
      · -- c26.f
        refine w_seq ?_
        refine w_region ?_
        refine wl_det rfl rfl rfl (op_move rfl) ?_
        refine wl_det rfl rfl rfl (op_nilCheck rfl) ?_
        refine wl_det rfl rfl rfl (op_fieldAddr (off := 0) rfl tF130_0re) ?_
        refine wl_det rfl rfl rfl (op_load1 rfl tO9re (Ent.lab (l := 600) rfl (says_cel 0))) ?_
        refine wl_det rfl rfl rfl (op_lenBs rfl Try.underlying9) ?_
        refine wl_det rfl rfl rfl (op_move rfl) ?_
        refine wl_det rfl rfl rfl (op_sub' rfl rfl (by omega)) ?_
        refine wl_det rfl rfl rfl (op_move rfl) ?_
        refine wl_det rfl rfl rfl (op_lss rfl rfl) ?_
        refine wl_det rfl rfl rfl (op_assign rfl) ?_
        refine wl_nil ?_
        refine st_tn ?_
        refine w_cond_d rfl (fun hc31 => ?_) (fun hc31 => ?_)
        · -- c31.t
          have hz : szE s r.at_ most more = 4 := by unfold szE; rw [if_neg hc20, if_neg hc23, if_neg hc26, if_pos hc31]
          have hz0 : szE s r.at_ most more ≠ 0 := by rw [hz]; simp
          refine w_region ?_
          refine wl_det rfl rfl rfl (op_assign rfl) ?_
          refine wl_nil ?_
          refine st_bn ?_
          refine st_tn ?_
          refine w_seq ?_
          refine w_seq ?_
          refine w_region ?_
          refine wl_det rfl rfl rfl (op_move rfl) ?_
          refine wl_det rfl rfl rfl (op_val (v' := .bool true) (by simp) (op_neq rfl rfl)) ?_
          refine wl_nil ?_
          refine st_tn ?_
          refine w_cond_t (rfl) ?_
          refine w_seq ?_
          refine w_region ?_
          refine wl_det rfl rfl rfl (op_move rfl) ?_
          refine wl_det rfl rfl rfl (op_move rfl) ?_
          refine wl_op [600] rfl rfl rfl rfl (op_fn Try.func96 rfl rfl rfl (rfail_any _ he)) ?_
          rintro _ _ ⟨rfl, rfl⟩
          refine wl_nil ?_
          refine st_tn ?_
          refine w_seq ?_
          refine w_region ?_
          refine wl_det rfl rfl rfl (op_assign rfl) ?_
          refine wl_det rfl rfl rfl (op_assign rfl) ?_
          refine wl_det rfl rfl rfl (op_assign rfl) ?_
          refine wl_nil ?_
          refine st_tn ?_
          refine w_ret ?_
          refine st_tr ?_
          refine st_ret (vs := [_, _, _]) [600] Try.results94 ⟨rfl, ⟨rfl, ⟨rfl, trivial⟩⟩⟩ rfl ?_
          refine ⟨[(600, _)], rfl, ?_⟩
          exact ⟨by rw [if_neg hz0, if_neg hz0, decide_eq_false hz0]; rfl, by rw [hz]⟩
        · -- c31.f
          have hz : szE s r.at_ most more = 0 := by unfold szE; rw [if_neg hc20, if_neg hc23, if_neg hc26, if_neg hc31]
          refine w_skip ?_
          refine st_bn ?_
          refine st_tn ?_
          refine w_seq ?_
          refine w_seq ?_
          refine w_region ?_
          refine wl_det rfl rfl rfl (op_move rfl) ?_
          refine wl_det rfl rfl rfl (op_val (v' := .bool false) (by simp; omega) (op_neq rfl rfl)) ?_
          refine wl_nil ?_
          refine st_tn ?_
          refine w_cond_f (rfl) ?_
          refine w_skip ?_
          refine st_tn ?_
          refine w_seq ?_
          refine w_region ?_
          refine wl_det rfl rfl rfl (op_move rfl) ?_
          refine wl_det rfl rfl rfl (op_move rfl) ?_
          refine wl_det rfl rfl rfl (op_assign rfl) ?_
          refine wl_det rfl rfl rfl (op_assign rfl) ?_
          refine wl_det rfl rfl rfl (op_assign rfl) ?_
          refine wl_nil ?_
          refine st_tn ?_
          refine w_ret ?_
          refine st_ret (vs := [_, _, _]) [600] Try.results94 ⟨rfl, ⟨rfl, ⟨rfl, trivial⟩⟩⟩ rfl ?_
          refine ⟨[(600, _)], rfl, ?_⟩
          exact ⟨by rw [if_pos hz, if_pos hz, decide_eq_true hz]; rfl, by rw [hz, ← he]⟩

set_option maxHeartbeats 400000 in
set_option maxRecDepth 100000 in
theorem rnum_any {σ : World} {F : List Res} {b : Nat} {s : RdM.Bs} (r : Rd) (hs : s.length ≤ 1099511627776) :
    FnT Try.prog σ F 84 [.pointer (some ⟨b, 0, none⟩)] [(600, cel b (cellR s r) 130)] (fun u ρ => u = .int .i64 (rdN s r).1 ∧ ρ = [(600, cel b (cellR s (rdN s r).2) 130)]) := by
  refine fn_of 29 Try.func84 rfl Try.ntmps84 rfl ?_
  refine w_seq ?_
  refine w_region ?_
  refine wl_det rfl rfl rfl (op_assign rfl) ?_
  refine wl_nil ?_
  refine st_tn ?_
  refine w_seq ?_
  refine w_seq ?_
  refine w_region ?_
  refine wl_det rfl rfl rfl (op_move rfl) ?_
  refine wl_det rfl rfl rfl (op_fn Try.func93 rfl rfl rfl (rok_any (celR 600 rfl))) ?_
  refine wl_det rfl rfl rfl (op_not_d rfl) ?_
  refine wl_nil ?_
  refine st_tn ?_
  refine w_cond_d rfl (fun hc8 => ?_) (fun hc8 => ?_)
  · -- c8.t
    refine w_seq ?_
    refine w_region ?_
    refine wl_det rfl rfl rfl (op_assign rfl) ?_
    refine wl_nil ?_
    refine st_tn ?_
    refine w_ret ?_
    refine st_tr ?_
    refine st_ret (vs := [_]) [600] Try.results84 ⟨rfl, trivial⟩ rfl ?_
    refine ⟨[(600, _)], rfl, ?_⟩
    have hr : rdN s r = (0, r) := rdN_err hc8
    rw [hr]; exact ⟨rfl, rfl⟩
  · -- c8.f
    have he : r.e = 0 := Classical.not_not.1 hc8
    refine w_skip ?_
    refine st_tn ?_
    refine w_seq ?_
    refine w_region ?_
    refine wl_det rfl rfl rfl (op_move rfl) ?_
    refine wl_det rfl rfl rfl (op_move rfl) ?_
    refine wl_det rfl rfl rfl (op_nilCheck rfl) ?_
    refine wl_det rfl rfl rfl (op_fieldAddr (off := 1) rfl tF130_1re) ?_
    refine wl_det rfl rfl rfl (op_load1 rfl tO3re (Ent.lab (l := 600) rfl (says_cel 1))) ?_
    refine wl_det rfl rfl rfl (op_fn Try.func95 rfl rfl rfl (num_any (r := r) r.at_ (celR 600 rfl) hs)) ?_
    refine wl_det rfl rfl rfl (op_move rfl) ?_
    refine wl_det rfl rfl rfl (op_extract rfl rfl) ?_
    refine wl_det rfl rfl rfl (op_extract rfl rfl) ?_
    refine wl_det rfl rfl rfl (op_extract rfl rfl) ?_
    refine wl_det rfl rfl rfl (op_assign rfl) ?_
    refine wl_det rfl rfl rfl (op_assign rfl) ?_
    refine wl_det rfl rfl rfl (op_assign rfl) ?_
    refine wl_nil ?_
    refine st_tn ?_
    refine w_seq ?_
    refine w_seq ?_
    refine w_region ?_
    refine wl_det rfl rfl rfl (op_move rfl) ?_
    refine wl_det rfl rfl rfl (op_neq rfl rfl) ?_
    refine wl_nil ?_
    refine st_tn ?_
    refine w_cond_d rfl (fun hc20 => ?_) (fun hc20 => ?_)
    · -- c20.t
      refine w_seq ?_
      refine w_region ?_
      refine wl_det rfl rfl rfl (op_move rfl) ?_
      refine wl_det rfl rfl rfl (op_move rfl) ?_
      refine wl_op [600] rfl rfl rfl rfl (op_fn Try.func96 rfl rfl rfl (rfail_any _ he)) ?_
      rintro _ _ ⟨rfl, rfl⟩
      refine wl_nil ?_
      refine st_tn ?_
      refine w_seq ?_
      refine w_region ?_
      refine wl_det rfl rfl rfl (op_assign rfl) ?_
      refine wl_nil ?_
      refine st_tn ?_
      refine w_ret ?_
      refine st_tr ?_
      refine st_ret (vs := [_]) [600] Try.results84 ⟨rfl, trivial⟩ rfl ?_
      refine ⟨[(600, _)], rfl, ?_⟩
      have hr : rdN s r = (0, ⟨r.at_, (num s r.at_).2.2⟩) := by unfold rdN; rw [if_neg hc8, if_pos hc20]
      rw [hr]; exact ⟨rfl, rfl⟩
    · -- c20.f
      refine w_skip ?_
      refine st_tn ?_
      refine w_seq ?_
      refine w_region ?_
      refine wl_det rfl rfl rfl (op_move rfl) ?_
      refine wl_det rfl rfl rfl (op_move rfl) ?_
      refine wl_det rfl rfl rfl (op_nilCheck rfl) ?_
      refine wl_det rfl rfl rfl (op_fieldAddr (off := 1) rfl tF130_1re) ?_
      refine wl_op0 [600] rfl rfl rfl (op_store rfl rfl tZ3re (by rfl) (by rfl) (by exact Nat.le_of_ble_eq_true rfl)) ?_
      rintro _ _ ⟨rfl, rfl⟩
      refine wl_nil ?_
      refine st_tn ?_
      refine w_seq ?_
      refine w_region ?_
      refine wl_det rfl rfl rfl (op_move rfl) ?_
      refine wl_det rfl rfl rfl (op_assign rfl) ?_
      refine wl_nil ?_
      refine st_tn ?_
      refine w_ret ?_
      refine st_ret (vs := [_]) [600] Try.results84 ⟨rfl, trivial⟩ rfl ?_
      refine ⟨[(600, _)], rfl, ?_⟩
      have hr : rdN s r = ((num s r.at_).1, ⟨(num s r.at_).2.1, 0⟩) := by unfold rdN; rw [if_neg hc8, if_neg hc20]
      rw [hr, ← he]; exact ⟨rfl, rfl⟩

set_option maxHeartbeats 400000 in
set_option maxRecDepth 100000 in
theorem rcnt_any {σ : World} {F : List Res} {b : Nat} {s : RdM.Bs} (most : Int) (r : Rd) (hs : s.length ≤ 1099511627776) :
    FnT Try.prog σ F 86 [.pointer (some ⟨b, 0, none⟩), .int .i64 most] [(600, cel b (cellR s r) 130)] (fun u ρ => u = .int .i64 (rdC s most r).1 ∧ ρ = [(600, cel b (cellR s (rdC s most r).2) 130)]) := by
  refine fn_of 24 Try.func86 rfl Try.ntmps86 rfl ?_
  refine w_seq ?_
  refine w_region ?_
  refine wl_det rfl rfl rfl (op_assign rfl) ?_
  refine wl_nil ?_
  refine st_tn ?_
  refine w_seq ?_
  refine w_seq ?_
  refine w_region ?_
  refine wl_det rfl rfl rfl (op_move rfl) ?_
  refine wl_det rfl rfl rfl (op_fn Try.func93 rfl rfl rfl (rok_any (celR 600 rfl))) ?_
  refine wl_det rfl rfl rfl (op_not_d rfl) ?_
  refine wl_nil ?_
  refine st_tn ?_
  refine w_cond_d rfl (fun hc10 => ?_) (fun hc10 => ?_)
  · -- c10.t
    refine w_seq ?_
    refine w_region ?_
    refine wl_det rfl rfl rfl (op_assign rfl) ?_
    refine wl_nil ?_
    refine st_tn ?_
    refine w_ret ?_
    refine st_tr ?_
    refine st_ret (vs := [_]) [600] Try.results86 ⟨rfl, trivial⟩ rfl ?_
    refine ⟨[(600, _)], rfl, ?_⟩
    have hr : rdC s most r = (0, r) := by unfold rdC; rw [if_pos hc10]
    rw [hr]; exact ⟨rfl, rfl⟩
  · -- c10.f
    have he : r.e = 0 := Classical.not_not.1 hc10
    refine w_skip ?_
    refine st_tn ?_
    refine w_seq ?_
    refine w_region ?_
    refine wl_det rfl rfl rfl (op_move rfl) ?_
    refine wl_det rfl rfl rfl (op_move rfl) ?_
    refine wl_op [600] rfl rfl rfl rfl (op_fn Try.func94 rfl rfl rfl (rsize_any most 6 he hs (by simp))) ?_
    rintro _ _ ⟨rfl, rfl⟩
    refine wl_det rfl rfl rfl (op_move rfl) ?_
    refine wl_det rfl rfl rfl (op_extract rfl rfl) ?_
    refine wl_det rfl rfl rfl (op_extract rfl rfl) ?_
    refine wl_det rfl rfl rfl (op_extract rfl rfl) ?_
    refine wl_det rfl rfl rfl (op_assign rfl) ?_
    refine wl_det rfl rfl rfl (op_assign rfl) ?_
    refine wl_det rfl rfl rfl (op_assign rfl) ?_
    refine wl_nil ?_
    refine st_tn ?_
    refine w_seq ?_
    refine w_seq ?_
    refine w_region ?_
    refine wl_det rfl rfl rfl (op_move rfl) ?_
    refine wl_nil ?_
    refine st_tn ?_
    refine w_cond_d rfl (fun hc18 => ?_) (fun hc18 => ?_)
    · -- c18.t
      have hr : rdC s most r = ((num s r.at_).1, ⟨(num s r.at_).2.1, 0⟩) := by unfold rdC; rw [if_neg hc10, if_neg (fun h => h hc18)]
      rw [hr, hc18]
      simp only [if_true]
      refine w_region ?_
      refine wl_det rfl rfl rfl (op_move rfl) ?_
      refine wl_det rfl rfl rfl (op_move rfl) ?_
      refine wl_det rfl rfl rfl (op_nilCheck rfl) ?_
      refine wl_det rfl rfl rfl (op_fieldAddr (off := 1) rfl tF130_1re) ?_
      refine wl_op0 [600] rfl rfl rfl (op_store rfl rfl tZ3re (by rfl) (by rfl) (by exact Nat.le_of_ble_eq_true rfl)) ?_
      rintro _ _ ⟨rfl, rfl⟩
      refine wl_nil ?_
      refine st_tn ?_
      refine w_seq ?_
      refine w_region ?_
      refine wl_det rfl rfl rfl (op_move rfl) ?_
      refine wl_det rfl rfl rfl (op_assign rfl) ?_
      refine wl_nil ?_
      refine st_tn ?_
      refine w_ret ?_
      refine st_ret (vs := [_]) [600] Try.results86 ⟨rfl, trivial⟩ rfl ?_
      refine ⟨[(600, _)], rfl, ?_⟩
      exact ⟨rfl, rfl⟩
    · -- c18.f
      have hr : rdC s most r = (0, ⟨r.at_, szE s r.at_ most 6⟩) := by unfold rdC; rw [if_neg hc10, if_pos hc18]
      rw [hr]
      simp only [if_neg hc18]
      refine w_skip ?_
      refine st_tn ?_
      refine w_seq ?_
      refine w_region ?_
      refine wl_det rfl rfl rfl (op_move rfl) ?_
      refine wl_det rfl rfl rfl (op_assign rfl) ?_
      refine wl_nil ?_
      refine st_tn ?_
      refine w_ret ?_
      refine st_ret (vs := [_]) [600] Try.results86 ⟨rfl, trivial⟩ rfl ?_
      refine ⟨[(600, _)], rfl, ?_⟩
      exact ⟨rfl, rfl⟩

set_option maxHeartbeats 400000 in
set_option maxRecDepth 100000 in
theorem rerr_any {σ : World} {F : List Res} {b : Nat} {s : RdM.Bs} {r : Rd} (hb : Ent σ F (At ⟨b, 0, none⟩ (cellR s r))) :
    FnT Try.prog σ F 85 [.pointer (some ⟨b, 0, none⟩)] [] (fun u ρ => u = .int .i64 r.e ∧ ρ = []) := by
  refine fn_of 9 Try.func85 rfl Try.ntmps85 rfl ?_
  refine w_seq ?_
  refine w_region ?_
  refine wl_det rfl rfl rfl (op_assign rfl) ?_
  refine wl_nil ?_
  refine st_tn ?_
  refine w_seq ?_
  refine w_seq ?_
  refine w_region ?_
  refine wl_det rfl rfl rfl (op_move rfl) ?_
  refine wl_det rfl rfl rfl (op_val (v' := .bool false) (by simp) (op_eqPtr rfl Try.underlying116)) ?_
  refine wl_nil ?_
  refine st_tn ?_
  refine w_cond_f (rfl) ?_
  refine w_skip ?_
  refine st_tn ?_
  refine w_seq ?_
  refine w_region ?_
  refine wl_det rfl rfl rfl (op_move rfl) ?_
  refine wl_det rfl rfl rfl (op_nilCheck rfl) ?_
  refine wl_det rfl rfl rfl (op_fieldAddr (off := 2) rfl tF130_2re) ?_
  refine wl_det rfl rfl rfl (op_load1 rfl tO28re (Ent.app (Ent.fld hb 2) _)) ?_
  refine wl_det rfl rfl rfl (op_assign rfl) ?_
  refine wl_nil ?_
  refine st_tn ?_
  refine w_ret ?_
  refine st_ret (vs := [_]) [] Try.results85 ⟨rfl, trivial⟩ rfl ?_
  refine ⟨_, rfl, ?_⟩
  exact ⟨rfl, rfl⟩

set_option maxHeartbeats 400000 in
set_option maxRecDepth 100000 in
theorem rend_any {σ : World} {F : List Res} {b : Nat} {s : RdM.Bs} {r : Rd} (hb : Ent σ F (At ⟨b, 0, none⟩ (cellR s r))) :
    FnT Try.prog σ F 87 [.pointer (some ⟨b, 0, none⟩)] [] (fun u ρ => u = .int .i64 (endE s r) ∧ ρ = []) := by
  refine fn_of 27 Try.func87 rfl Try.ntmps87 rfl ?_
  refine w_seq ?_
  refine w_region ?_
  refine wl_det rfl rfl rfl (op_assign rfl) ?_
  refine wl_nil ?_
  refine st_tn ?_
  refine w_seq ?_
  refine w_block ?_
  refine w_seq ?_
  refine w_region ?_
  refine wl_det rfl rfl rfl (op_move rfl) ?_
  refine wl_det rfl rfl rfl (op_val (v' := .bool false) (by simp) (op_eqPtr rfl Try.underlying116)) ?_
  refine wl_det rfl rfl rfl (op_assign rfl) ?_
  refine wl_nil ?_
  refine st_tn ?_
  refine w_cond_f (rfl) ?_
  refine w_seq ?_
  refine w_region ?_
  refine wl_det rfl rfl rfl (op_move rfl) ?_
  refine wl_det rfl rfl rfl (op_nilCheck rfl) ?_
  refine wl_det rfl rfl rfl (op_fieldAddr (off := 2) rfl tF130_2re) ?_
  refine wl_det rfl rfl rfl (op_load1 rfl tO28re (Ent.app (Ent.fld hb 2) _)) ?_
  refine wl_det rfl rfl rfl (op_neq rfl rfl) ?_
  refine wl_det rfl rfl rfl (op_assign rfl) ?_
  refine wl_nil ?_
  refine st_tn ?_
  refine w_cond_d rfl (fun hc6 => ?_) (fun hc6 => ?_)
  · -- c6.t
    refine w_seq ?_
    refine w_region ?_
    refine wl_det rfl rfl rfl (op_move rfl) ?_
    refine wl_det rfl rfl rfl (op_nilCheck rfl) ?_
    refine wl_det rfl rfl rfl (op_fieldAddr (off := 2) rfl tF130_2re) ?_
    refine wl_det rfl rfl rfl (op_load1 rfl tO28re (Ent.app (Ent.fld hb 2) _)) ?_
    refine wl_det rfl rfl rfl (op_assign rfl) ?_
    refine wl_nil ?_
    refine st_tn ?_
    refine w_ret ?_
    refine st_br ?_
    refine st_tr ?_
    refine st_ret (vs := [_]) [] Try.results87 ⟨rfl, trivial⟩ rfl ?_
    refine ⟨_, rfl, ?_⟩
    unfold endE; rw [if_pos (by assumption)]; exact ⟨rfl, rfl⟩
  · -- c6.f
    refine w_seq ?_
    refine w_drawW (fun β => [⟨17, [], [], [], noW (_), false, [], []⟩, ⟨18, [0], [], [], noW (_), false, [], []⟩, ⟨19, [1], [], [], noW (_), false, [], []⟩, ⟨20, [2], [], [], noW (_), false, [], []⟩, ⟨21, [], [], [], noW (_), false, [], []⟩, ⟨22, [4], [], [], noW (_), false, [], []⟩, ⟨23, [5], [], [], noW (_), false, [], []⟩, ⟨24, [6], [], [], noW (_), false, [], []⟩, ⟨25, [7], [], [], noW (_), false, [], []⟩]) [] [0] [⟨17, [], [], false, [], []⟩, ⟨18, [0], [], false, [], []⟩, ⟨19, [1], [], false, [], []⟩, ⟨20, [2], [], false, [], []⟩, ⟨21, [], [], false, [], []⟩, ⟨22, [4], [], false, [], []⟩, ⟨23, [5], [], false, [], []⟩, ⟨24, [6], [], false, [], []⟩, ⟨25, [7], [], false, [], []⟩] [[], [], [], [], [], [], [], [], []] [[], [], [], [], [], [], [], [], []] tMixre (fun _ => by rfl) (fun _ => by rfl) (by kernel_rfl) (by kernel_rfl) (by rfl) (by rfl)
        (fun β => ⟨.p rfl (by intro X; exact op_move rfl),
        ⟨.p rfl (by intro X; rintro _ _ ⟨rfl, rfl⟩; exact op_nilCheck rfl),
        ⟨.p rfl (by intro X; rintro _ _ ⟨rfl, rfl⟩; exact op_fieldAddr (off := 1) rfl tF130_1re),
        ⟨.p rfl (by intro X; rintro _ _ ⟨rfl, rfl⟩; exact op_load1 rfl tO3re (Ent.app (Ent.app (Ent.fld hb 1) X) _)),
        ⟨.p rfl (by intro X; exact op_move rfl),
        ⟨.p rfl (by intro X; rintro _ _ ⟨rfl, rfl⟩; exact op_nilCheck rfl),
        ⟨.p rfl (by intro X; rintro _ _ ⟨rfl, rfl⟩; exact op_fieldAddr (off := 0) rfl tF130_0re),
        ⟨.p rfl (by intro X; rintro _ _ ⟨rfl, rfl⟩; exact op_load1 rfl tO9re (Ent.app (Ent.app (Ent.fld hb 0) X) _)),
        ⟨.p rfl (by intro X; rintro _ _ ⟨rfl, rfl⟩; exact op_lenBs rfl Try.underlying9),
        trivial⟩⟩⟩⟩⟩⟩⟩⟩⟩)
        (fun β β' => ⟨fun _ => by rfl, ⟨fun _ => by rfl, ⟨fun _ => by rfl, ⟨fun _ => by rfl, ⟨fun _ => by rfl, ⟨fun _ => by rfl, ⟨fun _ => by rfl, ⟨fun _ => by rfl, ⟨fun _ => by rfl, trivial⟩⟩⟩⟩⟩⟩⟩⟩⟩) ?_
    intro β
    rintro _ _ ⟨rfl, rfl⟩ _ _ ⟨rfl, rfl⟩ _ _ ⟨rfl, rfl⟩ _ _ ⟨rfl, rfl⟩ _ _ ⟨rfl, rfl⟩ _ _ ⟨rfl, rfl⟩ _ _ ⟨rfl, rfl⟩ _ _ ⟨rfl, rfl⟩ _ _ ⟨rfl, rfl⟩
    refine wl_norm (e' := [(20, _), (25, _)]) (.cons rfl (.cons rfl (.nil _))) (by dsimp only [cond_false, cond_true, List.nil_append, List.cons_append]) ?_
    refine wl_det rfl rfl rfl (op_lss rfl rfl) ?_
    refine wl_det rfl rfl rfl (op_assign rfl) ?_
    refine wl_nil ?_
    refine st_tn ?_
    refine w_cond_d rfl (fun hc16 => ?_) (fun hc16 => ?_)
    · -- c16.t
      refine w_seq ?_
      refine w_region ?_
      refine wl_det rfl rfl rfl (op_assign rfl) ?_
      refine wl_nil ?_
      refine st_tn ?_
      refine w_ret ?_
      refine st_br ?_
      refine st_tr ?_
      refine st_ret (vs := [_]) [] Try.results87 ⟨rfl, trivial⟩ rfl ?_
      refine ⟨_, rfl, ?_⟩
      unfold endE; rw [if_neg (by assumption), if_pos (by omega)]; exact ⟨rfl, rfl⟩
    · -- c16.f
      refine w_skip ?_
      refine st_bn ?_
      refine st_tn ?_
      refine w_seq ?_
      refine w_region ?_
      refine wl_det rfl rfl rfl (op_assign rfl) ?_
      refine wl_nil ?_
      refine st_tn ?_
      refine w_ret ?_
      refine st_ret (vs := [_]) [] Try.results87 ⟨rfl, trivial⟩ rfl ?_
      refine ⟨_, rfl, ?_⟩
      unfold endE; rw [if_neg (by assumption), if_neg (by omega)]; exact ⟨rfl, rfl⟩

set_option maxHeartbeats 400000 in
set_option maxRecDepth 100000 in
theorem rnew_any {σ : World} {F : List Res} (lab : Nat) (s : RdM.Bs) :
    FnT Try.prog σ F 72 [.string (str s)] [] (fun u ρ => ∃ b, u = .pointer (some ⟨b, 0, none⟩) ∧ ρ = [(lab, cel b (cellR s ⟨0, 0⟩) 130)]) := by
  refine fn_of 6 Try.func72 rfl Try.ntmps72 rfl ?_
  refine w_seq ?_
  refine w_region ?_
  refine wl_det rfl rfl rfl (op_assign rfl) ?_
  refine wl_nil ?_
  refine st_tn ?_
  refine w_seq ?_
  refine w_region ?_
  refine wl_det rfl rfl rfl (op_move rfl) ?_
  refine wl_det rfl rfl rfl (op_build tB130re rfl rfl) ?_
  refine wl_op [] rfl rfl rfl rfl (op_box (T := 130) (l := 5) rfl) ?_
  rintro _ _ ⟨b5, rfl, rfl⟩
  refine wl_det rfl rfl rfl (op_assign rfl) ?_
  refine wl_nil ?_
  refine st_tn ?_
  refine w_ret ?_
  refine st_ret (vs := [_]) [5] Try.results72 ⟨rfl, trivial⟩ rfl ?_
  refine ⟨[(lab, _)], rfl, ?_⟩
  exact ⟨_, rfl, rfl⟩

end Go.Proofs.Ytcbigmgakdanjaa
namespace Go.Proofs.Ytcbigmgakdanjaa
open Go Go.SL Go.RowKit Go.RdM
set_option linter.unusedVariables false
set_option linter.unusedSimpArgs false
theorem tF107_0wa : fieldB Try.prog 107 0 0 = true := by kernel_rfl
theorem tL27_1wa : zerosB Try.prog 27 5 1 1 = some [Value.int .u8 0] := by kernel_rfl
theorem tMixwa : Try.prog.follows .mixedOrders = true := by kernel_rfl
theorem tO27wa : oneB Try.prog 27 = true := by kernel_rfl
theorem tP27wa : appB Try.prog 27 5 1 1 = true := by kernel_rfl
theorem tZ27wa : (Try.prog.info? 27).map (·.size) = some 1 := by kernel_rfl

/-- How many bytes a number takes. -/
def nb (x : Nat) : Nat := if h : x = 0 then 0 else nb (x / 256) + 1
termination_by x
decreasing_by omega
theorem nb_pos {x : Nat} (h : 0 < x) : nb x = nb (x / 256) + 1 := by rw [nb, dif_neg (by omega)]
theorem nb_zero : nb 0 = 0 := by rw [nb, dif_pos rfl]
theorem nb_le : ∀ (k x : Nat), x < 256 ^ k → nb x ≤ k
  | 0, x, h => by
    have : x = 0 := by simpa using h
    subst this; rw [nb_zero]; omega
  | k + 1, x, h => by
    rcases Nat.eq_zero_or_pos x with h0 | h0
    · subst h0; rw [nb_zero]; omega
    · rw [nb_pos h0]
      have := nb_le k (x / 256) (by rw [Nat.pow_succ] at h; omega)
      omega
def byteAt (x j : Int) : UInt8 := UInt8.ofNat (x / 2 ^ (8 * j).toNat).toNat
def tops (x : Int) (k j : Nat) : List UInt8 := (List.range j).map fun i : Nat => byteAt x ((k : Int) - 1 - (i : Int))
theorem tops_succ (x : Int) (k j : Nat) : tops x k (j + 1) = tops x k j ++ [byteAt x ((k : Int) - 1 - (j : Int))] := by unfold tops; rw [List.range_succ, List.map_append]; rfl
theorem length_tops (x : Int) (k j : Nat) : (tops x k j).length = j := by unfold tops; simp
theorem u8_lt (b : UInt8) : (b.toNat : Int) < 256 := by have := b.toNat_lt; omega
/-- The form of a number that is not negative. -/
def encW (x : Int) : List UInt8 := UInt8.ofNat (128 + (nb x.toNat : Int)).toNat :: tops x (nb x.toNat) (nb x.toNat)
theorem length_encW (x : Int) : (encW x).length = nb x.toNat + 1 := by unfold encW; simp [length_tops]
set_option maxHeartbeats 400000 in
set_option maxRecDepth 100000 in
theorem magn_any {σ : World} {F : List Res} (x : Int) (h : 0 ≤ x ∧ x ≤ 9223372036854775807) : FnT Try.prog σ F 80 [.int .i64 x] [] (fun u ρ => u = .int .u64 x ∧ ρ = []) := by
  refine fn_of 10 Try.func80 rfl Try.ntmps80 rfl ?_
  refine w_seq ?_
  refine w_region ?_
  refine wl_det rfl rfl rfl (op_assign rfl) ?_
  refine wl_nil ?_
  refine st_tn ?_
  refine w_seq ?_
  refine w_seq ?_
  refine w_region ?_
  refine wl_det rfl rfl rfl (op_move rfl) ?_
  refine wl_det rfl rfl rfl (op_lss rfl rfl) ?_
  refine wl_nil ?_
  refine st_tn ?_
  refine w_cond_d rfl (fun hc4 => ?_) (fun hc4 => ?_)
  · -- c4.t
    exfalso; omega
  · -- c4.f
    refine w_skip ?_
    refine st_tn ?_
    refine w_seq ?_
    refine w_region ?_
    refine wl_det rfl rfl rfl (op_move rfl) ?_
    refine wl_det rfl rfl rfl (op_convU64 rfl (by rw [Try.underlying3]; rfl) Try.underlying125 (by omega)) ?_
    refine wl_det rfl rfl rfl (op_assign rfl) ?_
    refine wl_nil ?_
    refine st_tn ?_
    refine w_ret ?_
    refine st_ret (vs := [_]) [] Try.results80 ⟨rfl, trivial⟩ rfl ?_
    refine ⟨_, rfl, ?_⟩
    exact ⟨rfl, rfl⟩

-- CALL sleuth/encoding.magnitude magn_any _ (by omega)
set_option maxHeartbeats 1000000 in
set_option maxRecDepth 100000 in
theorem wnum_any {σ : World} {F : List Res} {b : Nat} {a : Option Addr} {c : Nat} {l : List UInt8} (x : Int) (hx : 0 ≤ x ∧ x ≤ 9223372036854775807) (hl : l.length ≤ 1099511627776) :
    FnT Try.prog σ F 65 [.pointer (some ⟨b, 0, none⟩), .int .i64 x] [(100, cel b [.slice a l.length c] 107), (101, slW 5 encU 1 (.slice a l.length c) l)]
      (fun u ρ => ∃ a' c', u = .tuple #[] ∧ ρ = [(100, cel b [.slice a' (l ++ encW x).length c'] 107), (101, slW 5 encU 1 (.slice a' (l ++ encW x).length c') (l ++ encW x))]) := by
  refine fn_of 68 Try.func65 rfl Try.ntmps65 rfl ?_
  obtain ⟨m, rfl⟩ := Int.eq_ofNat_of_zero_le hx.1
  have hk : nb m ≤ 8 := nb_le 8 m (by have := hx.2; omega)
  refine w_seq ?_
  refine w_seq ?_
  refine w_region ?_
  refine wl_det rfl rfl rfl (op_move rfl) ?_
  refine wl_det rfl rfl rfl (op_eqPtr rfl Try.underlying124) ?_
  refine wl_nil ?_
  refine st_tn ?_
  refine w_cond_f (rfl) ?_
  refine w_skip ?_
  refine st_tn ?_
  refine w_seq ?_
  refine w_region ?_
  refine wl_det rfl rfl rfl (op_move rfl) ?_
  refine wl_det rfl rfl rfl (op_fn Try.func80 rfl rfl rfl (magn_any _ (by omega))) ?_
  refine wl_det rfl rfl rfl (op_assign rfl) ?_
  refine wl_det rfl rfl rfl (op_assign rfl) ?_
  refine wl_nil ?_
  refine st_tn ?_
  refine w_seq ?_
  refine w_seq ?_
  refine w_region ?_
  refine wl_det rfl rfl rfl (op_move rfl) ?_
  refine wl_det rfl rfl rfl (op_assign rfl) ?_
  refine wl_nil ?_
  refine st_tn ?_
  refine w_block ?_
  refine w_loopK (X := Nat × Nat) (fun z => z.1 + nb z.2 = nb m ∧ z.2 ≤ m) (fun z => [(5, .int .i64 z.1), (6, .int .u64 z.2)]) (fun _ => []) (fun z => z.2) ((0, m)) [(0, _), (1, _), (4, _)] [(100, _), (101, _)] (⟨Nat.zero_add _, Nat.le_refl _⟩) (.cons rfl (.cons rfl (.nil _))) (.cons rfl (.cons rfl (.cons rfl (.nil _)))) [100, 101] rfl (rfl) ?_
  rintro ⟨i, y⟩ ⟨hi, hy⟩
  refine w_norm2 (by dsimp only [List.cons_append, List.nil_append]) (by dsimp only [List.cons_append, List.nil_append]) ?_
  dsimp only at hi hy
  refine w_seq ?_
  refine w_seq ?_
  refine w_region ?_
  refine wl_det rfl rfl rfl (op_move rfl) ?_
  refine wl_det rfl rfl rfl (op_gtr rfl rfl) ?_
  refine wl_nil ?_
  refine st_tn ?_
  refine w_cond_d rfl (fun hc15 => ?_) (fun hc15 => ?_)
  · -- c15.t
    refine w_skip ?_
    refine st_tn ?_
    refine w_seq ?_
    refine w_block ?_
    refine w_region ?_
    refine wl_det rfl rfl rfl (op_move rfl) ?_
    refine wl_det rfl rfl rfl (op_add' rfl rfl (by omega)) ?_
    refine wl_det rfl rfl rfl (op_assign rfl) ?_
    refine wl_nil ?_
    refine st_bn ?_
    refine st_tn ?_
    refine w_region ?_
    refine wl_det rfl rfl rfl (op_move rfl) ?_
    refine wl_det rfl rfl rfl (op_shrN rfl rfl (by omega) (by omega)) ?_
    refine wl_det rfl rfl rfl (op_assign rfl) ?_
    refine wl_nil ?_
    refine st_roundK (x := (i, y)) ((i + 1, y / 256)) [100, 101] (by have := nb_pos (x := y) (by omega); exact ⟨by show i + 1 + nb (y / 256) = nb m; omega, by show y / 256 ≤ m; omega⟩) (by show y / 256 < y; omega) (.cons rfl (.cons (by show some (Value.int .u64 ((y : Int) / 2 ^ (8 : Int).toNat)) = some (Value.int .u64 ((y / 256 : Nat) : Int)); congr 2) (.nil _))) (.cons rfl (.cons rfl (.cons rfl (.nil _)))) rfl (rfl) 
  · -- c15.f
    refine w_exit ?_
    refine st_te ?_
    refine st_te ?_
    refine st_be ?_
    refine st_tn ?_
    refine w_seq ?_
    have hyz : y = 0 := by omega
    have hin : i = nb m := by rw [hyz, nb_zero] at hi; omega
    refine w_region ?_
    refine wl_det rfl rfl rfl (op_assign rfl) ?_
    refine wl_nil ?_
    refine st_tn ?_
    refine w_seq ?_
    refine w_seq ?_
    refine w_region ?_
    refine wl_det rfl rfl rfl (op_move rfl) ?_
    refine wl_det rfl rfl rfl (op_lss rfl rfl) ?_
    refine wl_nil ?_
    refine st_tn ?_
    refine w_cond_d rfl (fun hc21 => ?_) (fun hc21 => ?_)
    · -- c21.t
      exfalso; omega
    · -- c21.f
      refine w_region ?_
      refine wl_det rfl rfl rfl (op_move rfl) ?_
      refine wl_det rfl rfl rfl (op_move rfl) ?_
      refine wl_det rfl rfl rfl (op_nilCheck rfl) ?_
      refine wl_det rfl rfl rfl (op_fieldAddr (off := 0) rfl tF107_0wa) ?_
      refine wl_det rfl rfl rfl (op_load1 rfl tO27wa (Ent.lab (l := 100) rfl (says_cel 0))) ?_
      refine wl_det rfl rfl rfl (op_move rfl) ?_
      refine wl_det rfl rfl rfl (op_add' rfl rfl (by omega)) ?_
      refine wl_det rfl rfl rfl (op_convU rfl (by rw [Try.underlying3]; rfl) Try.underlying5 (by omega)) ?_
      refine wl_op [] rfl rfl rfl rfl (op_buildSlice (enc := encU) (l := [_]) (lab := 42) tL27_1wa rfl rfl (fun _ => rfl) rfl) ?_
      rintro _ _ ⟨a42, c42, rfl, rfl⟩
      refine wl_op [101] rfl rfl rfl rfl (op_append (lab := 101) (lab' := 43) rfl rfl tP27wa enc1U (Sl.lab 42 rfl (by simp [maxLen])) (by first | omega | (simp; omega) | (simp [length_tops]; omega)) (by first | omega | (simp; omega) | (simp [length_tops]; omega))) ?_
      rintro _ _ ⟨a43, c43, rfl, rfl⟩
      refine wl_det rfl rfl rfl (op_nilCheck rfl) ?_
      refine wl_det rfl rfl rfl (op_fieldAddr (off := 0) rfl tF107_0wa) ?_
      refine wl_op0 [100] rfl rfl rfl (op_store rfl rfl tZ27wa (by rfl) (by rfl) (by exact Nat.le_of_ble_eq_true rfl)) ?_
      rintro _ _ ⟨rfl, rfl⟩
      refine wl_nil ?_
      refine st_tn ?_
      refine w_seq ?_
      refine w_region ?_
      refine wl_det rfl rfl rfl (op_move rfl) ?_
      refine wl_det rfl rfl rfl (op_sub' rfl rfl (by omega)) ?_
      refine wl_det rfl rfl rfl (op_assign rfl) ?_
      refine wl_nil ?_
      refine st_tn ?_
      refine w_block ?_
      refine w_loopK (X := Nat × Option Addr × Nat) (fun z => z.1 ≤ nb m) (fun z => [(8, .int .i64 ((nb m : Int) - 1 - z.1))]) (fun z => [(100, cel b [.slice z.2.1 (l ++ [UInt8.ofNat (128 + (nb m : Int)).toNat] ++ tops m (nb m) z.1).length z.2.2] 107), (101, slW 5 encU 1 (.slice z.2.1 (l ++ [UInt8.ofNat (128 + (nb m : Int)).toNat] ++ tops m (nb m) z.1).length z.2.2) (l ++ [UInt8.ofNat (128 + (nb m : Int)).toNat] ++ tops m (nb m) z.1))]) (fun z => nb m - z.1) ((0, a43, c43)) [(0, _), (4, _), (7, _)] [] (Nat.zero_le _) (.cons (by rw [← hin]; show some (Value.int .i64 ((i : Int) - 1)) = _; rw [show ((i : Int) - 1 - (0 : Nat)) = (i : Int) - 1 by omega]) (.nil _)) (.cons rfl (.cons rfl (.cons rfl (.nil _)))) [100, 43] rfl (by rw [← hin, show tops m i 0 = [] from rfl]; simp only [List.append_nil]; rfl) ?_
      rintro ⟨j, a2, c2⟩ hj
      refine w_norm2 (by dsimp only [List.cons_append, List.nil_append]) (by dsimp only [List.cons_append, List.nil_append]) ?_
      dsimp only at hj
      refine w_seq ?_
      refine w_seq ?_
      refine w_region ?_
      refine wl_det rfl rfl rfl (op_move rfl) ?_
      refine wl_det rfl rfl rfl (op_geq rfl rfl) ?_
      refine wl_nil ?_
      refine st_tn ?_
      refine w_cond_d rfl (fun hc49 => ?_) (fun hc49 => ?_)
      · -- c49.t
        refine w_skip ?_
        refine st_tn ?_
        refine w_seq ?_
        refine w_block ?_
        refine w_draw (D := [⟨52, [], [], [], _, false, [], []⟩, ⟨53, [], [], [], _, false, [], []⟩, ⟨54, [1], [], [], _, false, [], []⟩, ⟨55, [2], [], [], _, false, [], []⟩, ⟨56, [3], [], [], _, false, [], []⟩, ⟨57, [], [], [], _, false, [], []⟩, ⟨58, [], [], [], _, false, [], []⟩, ⟨59, [6], [], [], _, false, [], []⟩, ⟨60, [5, 7], [], [], _, false, [], []⟩, ⟨61, [8], [], [], _, false, [], []⟩, ⟨62, [], [], [], _, false, [], []⟩, ⟨63, [9, 10], [], [], _, false, [], []⟩, ⟨64, [11], [], [], _, false, [], []⟩, ⟨65, [4, 12], [], [(101, _)], _, false, [], []⟩]) [101] [0, 4, 8, 7] [⟨52, [], [], false, [], []⟩, ⟨53, [], [], false, [], []⟩, ⟨54, [1], [], false, [], []⟩, ⟨55, [2], [], false, [], []⟩, ⟨56, [3], [], false, [], []⟩, ⟨57, [], [], false, [], []⟩, ⟨58, [], [], false, [], []⟩, ⟨59, [6], [], false, [], []⟩, ⟨60, [5, 7], [], false, [], []⟩, ⟨61, [8], [], false, [], []⟩, ⟨62, [], [], false, [], []⟩, ⟨63, [9, 10], [], false, [], []⟩, ⟨64, [11], [], false, [], []⟩, ⟨65, [4, 12], [], false, [], []⟩] tMixwa (by rfl) (by kernel_rfl) (by rfl) (by rfl)
            ⟨.plain rfl (by intro X; exact op_move rfl),
            ⟨.plain rfl (by intro X; exact op_move rfl),
            ⟨.plain rfl (by intro X; rintro _ _ ⟨rfl, rfl⟩; exact op_nilCheck rfl),
            ⟨.plain rfl (by intro X; rintro _ _ ⟨rfl, rfl⟩; exact op_fieldAddr (off := 0) rfl tF107_0wa),
            ⟨.plain rfl (by intro X; rintro _ _ ⟨rfl, rfl⟩; exact op_load1 rfl tO27wa (Ent.lab (l := 100) rfl (says_cel 0))),
            ⟨.plain rfl (by intro X; exact op_move rfl),
            ⟨.plain rfl (by intro X; exact op_move rfl),
            ⟨.plain rfl (by intro X; rintro _ _ ⟨rfl, rfl⟩; exact op_mul' rfl rfl (by omega)),
            ⟨.plain rfl (by intro X; rintro _ _ ⟨rfl, rfl⟩ _ _ ⟨rfl, rfl⟩; exact op_shrN rfl rfl (by omega) (by omega)),
            ⟨.plain rfl (by intro X; rintro _ _ ⟨rfl, rfl⟩; exact op_convU rfl (by rw [Try.underlying125]; rfl) Try.underlying5 (Int.ediv_nonneg (by omega) (by exact Int.pow_nonneg (by omega)))),
            ⟨.plain rfl (by intro X; exact op_move rfl),
            ⟨.plain rfl (by intro X; rintro _ _ ⟨rfl, rfl⟩ _ _ ⟨rfl, rfl⟩; exact op_xor8 rfl rfl ⟨Int.natCast_nonneg _, u8_lt _⟩),
            ⟨.plain rfl (by intro X; rintro _ _ ⟨rfl, rfl⟩; exact op_buildSlice (enc := encU) (l := [_]) (lab := 64) tL27_1wa rfl rfl (fun _ => rfl) rfl),
            ⟨.plain rfl (by intro X; rintro _ _ ⟨rfl, rfl⟩ _ _ ⟨a64, c64, rfl, rfl⟩; exact op_append (lab := 101) (lab' := 65) rfl rfl tP27wa enc1U (Sl.lab 64 rfl (by simp [maxLen])) (by first | omega | (simp; omega) | (simp [length_tops]; omega)) (by first | omega | (simp; omega) | (simp [length_tops]; omega))),
            trivial⟩⟩⟩⟩⟩⟩⟩⟩⟩⟩⟩⟩⟩⟩ ?_
        rintro _ _ ⟨rfl, rfl⟩ _ _ ⟨rfl, rfl⟩ _ _ ⟨rfl, rfl⟩ _ _ ⟨rfl, rfl⟩ _ _ ⟨rfl, rfl⟩ _ _ ⟨rfl, rfl⟩ _ _ ⟨rfl, rfl⟩ _ _ ⟨rfl, rfl⟩ _ _ ⟨rfl, rfl⟩ _ _ ⟨rfl, rfl⟩ _ _ ⟨rfl, rfl⟩ _ _ ⟨rfl, rfl⟩ _ _ ⟨a64, c64, rfl, rfl⟩ _ _ ⟨a65, c65, rfl, rfl⟩
        refine wl_norm (e' := [(0, _), (4, _), (7, _), (8, _), (52, _), (65, _)]) (.cons rfl (.cons rfl (.cons rfl (.cons rfl (.cons rfl (.cons rfl (.nil _))))))) (by dsimp only [cond_false, cond_true, List.nil_append, List.cons_append]) ?_
        refine wl_det rfl rfl rfl (op_nilCheck rfl) ?_
        refine wl_det rfl rfl rfl (op_fieldAddr (off := 0) rfl tF107_0wa) ?_
        refine wl_op0 [100] rfl rfl rfl (op_store rfl rfl tZ27wa (by rfl) (by rfl) (by exact Nat.le_of_ble_eq_true rfl)) ?_
        rintro _ _ ⟨rfl, rfl⟩
        refine wl_nil ?_
        refine st_bn ?_
        refine st_tn ?_
        refine w_region ?_
        refine wl_det rfl rfl rfl (op_move rfl) ?_
        refine wl_det rfl rfl rfl (op_sub' rfl rfl (by omega)) ?_
        refine wl_det rfl rfl rfl (op_assign rfl) ?_
        refine wl_nil ?_
        refine st_roundK (x := (j, a2, c2)) ((j + 1, a65, c65)) [100, 65] (by show j + 1 ≤ nb m; omega) (by show nb m - (j + 1) < nb m - j; omega) (.cons (by show some (Value.int .i64 ((nb m : Int) - 1 - (j : Int) - 1)) = some (Value.int .i64 ((nb m : Int) - 1 - ((j + 1 : Nat) : Int))); congr 2; omega) (.nil _)) (.cons rfl (.cons rfl (.cons rfl (.nil _)))) rfl (by show rs [_, _] = rs [_, _]; rw [tops_succ, ← List.append_assoc]; rfl) 
      · -- c49.f
        refine w_exit ?_
        refine st_te ?_
        refine st_te ?_
        refine st_be ?_
        refine st_end (vs := []) [100, 101] Try.results65 trivial rfl ?_
        refine ⟨[(100, _), (101, _)], rfl, ?_⟩
        have hjk : j = nb m := by omega
        have hfin : l ++ encW m = l ++ [UInt8.ofNat (128 + (nb m : Int)).toNat] ++ tops m (nb m) j := by rw [hjk]; unfold encW; simp
        refine ⟨a2, c2, rfl, ?_⟩; rw [hfin]

theorem nb_be (x : Nat) : nb x = (RdM.be x).length := by
  induction x using Nat.strongRecOn with
  | _ x ih =>
    rcases Nat.eq_zero_or_pos x with h | h
    · subst h; rw [nb_zero, RdM.be_zero]; rfl
    · rw [nb_pos h, RdM.be_pos h, ih (x / 256) (by omega)]; simp
theorem byteAt_zero (x : Nat) : byteAt x 0 = UInt8.ofNat x := by
  unfold byteAt
  simp
theorem byteAt_div {x : Nat} {j : Nat} : byteAt ((x / 256 : Nat) : Int) j = byteAt x ((j : Int) + 1) := by
  unfold byteAt
  congr 2
  have h1 : (8 * (j : Int)).toNat = 8 * j := by omega
  have h2 : (8 * ((j : Int) + 1)).toNat = 8 + 8 * j := by omega
  rw [h1, h2, Int.pow_add]
  have : ((x / 256 : Nat) : Int) = (x : Int) / 2 ^ 8 := by omega
  rw [this, Int.ediv_ediv, if_neg (fun h => absurd h.1 (by decide)), Int.sub_zero]
theorem tops_be (x : Nat) : tops x (nb x) (nb x) = RdM.be x := by
  induction x using Nat.strongRecOn with
  | _ x ih =>
    rcases Nat.eq_zero_or_pos x with h | h
    · subst h; rw [nb_zero, RdM.be_zero]; rfl
    · have hi := ih (x / 256) (by omega)
      rw [RdM.be_pos h, ← hi, nb_pos h, tops_succ]
      congr 1
      · unfold tops
        apply List.map_congr_left
        intro i hi
        have hi := List.mem_range.1 hi
        obtain ⟨j, hj⟩ : ∃ j : Nat, ((nb (x / 256) : Nat) : Int) - 1 - i = j := ⟨nb (x / 256) - 1 - i, by omega⟩
        have hj2 : ((nb (x / 256) + 1 : Nat) : Int) - 1 - i = (j : Int) + 1 := by omega
        rw [hj, hj2, byteAt_div]
      · rw [show ((nb (x / 256) + 1 : Nat) : Int) - 1 - ((nb (x / 256) : Nat) : Int) = 0 by omega, byteAt_zero]
theorem encW_eq (x : Int) : encW x = RdM.encN x := by
  unfold encW RdM.encN
  rcases Int.le_total 0 x with h | h
  · obtain ⟨m, rfl⟩ := Int.eq_ofNat_of_zero_le h
    rw [Int.toNat_natCast, tops_be, nb_be]
    congr 1
  · have : x.toNat = 0 := by omega
    rw [this, nb_zero, RdM.be_zero]; rfl
theorem wnum {σ : World} {F : List Res} {b : Nat} {a : Option Addr} {c : Nat} {l : List UInt8} (l1 l2 : Nat) (x : Int) (hx : 0 ≤ x ∧ x ≤ 9223372036854775807) (hl : l.length ≤ 1099511627776) :
    FnT Try.prog σ F 65 [.pointer (some ⟨b, 0, none⟩), .int .i64 x] [(l1, cel b [.slice a l.length c] 107), (l2, slW 5 encU 1 (.slice a l.length c) l)]
      (fun u ρ => ∃ a' c', u = .tuple #[] ∧ ρ = [(l1, cel b [.slice a' (l ++ RdM.encN x).length c'] 107), (l2, slW 5 encU 1 (.slice a' (l ++ RdM.encN x).length c') (l ++ RdM.encN x))]) :=
  fn_lab (wnum_any x hx hl) rfl fun u ρ ⟨a', c', h1, h2⟩ => ⟨_, ⟨a', c', h1, rfl⟩, by rw [h2, ← encW_eq]; rfl⟩
set_option maxHeartbeats 400000 in
set_option maxRecDepth 100000 in
theorem wbytes {σ : World} {F : List Res} {b : Nat} {a : Option Addr} {c : Nat} {l : List UInt8} (hb : Ent σ F (At ⟨b, 0, none⟩ [.slice a l.length c])) (h : Sl σ F encU 1 (.slice a l.length c) l) :
    FnT Try.prog σ F 67 [.pointer (some ⟨b, 0, none⟩)] [] (fun u ρ => u = .string (str l) ∧ ρ = []) := by
  refine fn_of 10 Try.func67 rfl Try.ntmps67 rfl ?_
  refine w_seq ?_
  refine w_region ?_
  refine wl_det rfl rfl rfl (op_assign rfl) ?_
  refine wl_nil ?_
  refine st_tn ?_
  refine w_seq ?_
  refine w_seq ?_
  refine w_region ?_
  refine wl_det rfl rfl rfl (op_move rfl) ?_
  refine wl_det rfl rfl rfl (op_eqPtr rfl Try.underlying124) ?_
  refine wl_nil ?_
  refine st_tn ?_
  refine w_cond_f (rfl) ?_
  refine w_skip ?_
  refine st_tn ?_
  refine w_seq ?_
  refine w_region ?_
  refine wl_det rfl rfl rfl (op_move rfl) ?_
  refine wl_det rfl rfl rfl (op_nilCheck rfl) ?_
  refine wl_det rfl rfl rfl (op_fieldAddr (off := 0) rfl tF107_0wa) ?_
  refine wl_det rfl rfl rfl (op_load1 rfl tO27wa (Ent.app (Ent.fld hb 0) _)) ?_
  refine wl_det rfl rfl rfl (op_bytesStr rfl Try.underlying27 Try.underlying5 Try.underlying9 (by first | exact Sl.app (by assumption) _ | exact Sl.app (Sl.app (by assumption) _) _)) ?_
  refine wl_det rfl rfl rfl (op_assign rfl) ?_
  refine wl_nil ?_
  refine st_tn ?_
  refine w_ret ?_
  refine st_ret (vs := [_]) [] Try.results67 ⟨rfl, trivial⟩ rfl ?_
  refine ⟨_, rfl, ?_⟩
  exact ⟨rfl, rfl⟩

end Go.Proofs.Ytcbigmgakdanjaa
namespace Go.Proofs.Ytcbigmgakdanjaa
open Go Go.SL Go.RowKit Go.RdM Go.WalM
set_option linter.unusedVariables false
set_option linter.unusedSimpArgs false

set_option maxHeartbeats 400000 in
set_option maxRecDepth 100000 in
theorem zbit_any {σ : World} {F : List Res} (r : Nat) (h : r < 4294967296) : FnT Try.prog σ F 91 [.int .u32 r] [] (fun u ρ => u = .int .u32 (sumB r) ∧ ρ = []) := by
  refine fn_of 11 Try.func91 rfl Try.ntmps91 rfl ?_
  refine w_seq ?_
  refine w_region ?_
  refine wl_det rfl rfl rfl (op_assign rfl) ?_
  refine wl_nil ?_
  refine st_tn ?_
  refine w_seq ?_
  refine w_seq ?_
  refine w_region ?_
  refine wl_det rfl rfl rfl (op_move rfl) ?_
  refine wl_det rfl rfl rfl (op_and1U32 rfl rfl h) ?_
  refine wl_det rfl rfl rfl (op_eql rfl rfl) ?_
  refine wl_nil ?_
  refine st_tn ?_
  refine w_cond_d rfl (fun hc5 => ?_) (fun hc5 => ?_)
  · -- c5.t
    refine w_seq ?_
    refine w_region ?_
    refine wl_det rfl rfl rfl (op_move rfl) ?_
    refine wl_det rfl rfl rfl (op_shr1U32 rfl rfl) ?_
    refine wl_det rfl rfl rfl (op_xorU32 (b := 2197175160) rfl rfl (by omega) (by decide)) ?_
    refine wl_det rfl rfl rfl (op_assign rfl) ?_
    refine wl_nil ?_
    refine st_tn ?_
    refine w_ret ?_
    refine st_tr ?_
    refine st_ret (vs := [_]) [] Try.results91 ⟨rfl, trivial⟩ rfl ?_
    refine ⟨_, rfl, ?_⟩
    have hr : sumB r = (r / 2) ^^^ 2197175160 := by unfold sumB; rw [if_pos (by omega)]
    rw [hr]; exact ⟨rfl, rfl⟩
  · -- c5.f
    refine w_skip ?_
    refine st_tn ?_
    refine w_seq ?_
    refine w_region ?_
    refine wl_det rfl rfl rfl (op_move rfl) ?_
    refine wl_det rfl rfl rfl (op_shr1U32 rfl rfl) ?_
    refine wl_det rfl rfl rfl (op_assign rfl) ?_
    refine wl_nil ?_
    refine st_tn ?_
    refine w_ret ?_
    refine st_ret (vs := [_]) [] Try.results91 ⟨rfl, trivial⟩ rfl ?_
    refine ⟨_, rfl, ?_⟩
    have hr : sumB r = r / 2 := by unfold sumB; rw [if_neg (by omega)]
    rw [hr]; exact ⟨rfl, rfl⟩

def sumI (r : Nat) : Nat → Nat
  | 0 => r
  | k + 1 => sumB (sumI r k)
theorem sumI_lt {r : Nat} (h : r < 4294967296) : ∀ k, sumI r k < 4294967296
  | 0 => h
  | k + 1 => sumB_lt (sumI_lt h k)
theorem sumR_snoc (r : Nat) (s : RdM.Bs) (b : UInt8) : sumR r (s ++ [b]) = sumI (sumR r s ^^^ b.toNat) 8 := by unfold sumR; rw [List.foldl_append]; rfl
theorem xorb_lt {r : Nat} {b : UInt8} (h : r < 4294967296) : r ^^^ b.toNat < 4294967296 := by
  have := b.toNat_lt
  exact Nat.xor_lt_two_pow (n := 32) (by omega) (by omega)
set_option maxHeartbeats 1000000 in
set_option maxRecDepth 100000 in
theorem ext_any {σ : World} {F : List Res} (s : RdM.Bs) (hs : s.length ≤ 1099511627776) : FnT Try.prog σ F 81 [.int .u32 0, .string (str s)] [] (fun u ρ => u = .int .u32 (crc s) ∧ ρ = []) := by
  refine fn_of 28 Try.func81 rfl Try.ntmps81 rfl ?_
  refine w_seq ?_
  refine w_region ?_
  refine wl_det rfl rfl rfl (op_assign rfl) ?_
  refine wl_nil ?_
  refine st_tn ?_
  refine w_seq ?_
  refine w_region ?_
  refine wl_det rfl rfl rfl (op_move rfl) ?_
  refine wl_det rfl rfl rfl (op_val (v' := .int .u32 ((4294967295 : Nat) : Int)) (by rfl) (op_notU32 (a := 0) rfl (by decide))) ?_
  refine wl_det rfl rfl rfl (op_assign rfl) ?_
  refine wl_nil ?_
  refine st_tn ?_
  refine w_seq ?_
  refine w_seq ?_
  refine w_region ?_
  refine wl_det rfl rfl rfl (op_move rfl) ?_
  refine wl_det rfl rfl rfl (op_lenBs rfl Try.underlying9) ?_
  refine wl_det rfl rfl rfl (op_move rfl) ?_
  refine wl_nil ?_
  refine st_tn ?_
  refine w_block ?_
  refine w_loopQ (X := Nat × Nat) (fun z => z.2 ≤ s.length ∧ z.1 = sumR 4294967295 (s.take z.2)) (fun z => [(5, .int .u32 (z.1)), (11, .int .i64 (z.2))]) (fun _ => []) (fun z => s.length - z.2) ((4294967295, 0)) [(1, _), (10, _)] [] [] rfl (rfl) (.cons rfl (.cons rfl (.nil _))) (.cons rfl (.cons rfl (.nil _))) (by
      try dsimp only
      exact ⟨Nat.zero_le _, rfl⟩) ?_
  rintro ⟨r, i⟩ ⟨hi, hr⟩
  refine w_norm2 (by dsimp only [List.cons_append, List.nil_append]) (by dsimp only [List.cons_append, List.nil_append]) ?_
  try dsimp only at hi hr ⊢
  refine w_seq ?_
  refine w_region ?_
  refine wl_det rfl rfl rfl (op_lss rfl rfl) ?_
  refine wl_nil ?_
  refine st_tn ?_
  refine w_seq ?_
  refine w_cond_d rfl (fun hc12 => ?_) (fun hc12 => ?_)
  · -- c12.t
    obtain ⟨b, hb⟩ := getE (l := s) (i := i) (by omega)
    have hrl : r < 4294967296 := by rw [hr]; exact sumR_lt (by omega)
    have hsn : sumR 4294967295 (s.take (i + 1)) = sumI (r ^^^ b.toNat) 8 := by rw [take_snoc hb, sumR_snoc, hr]
    refine w_skip ?_
    refine st_tn ?_
    refine w_seq ?_
    refine w_block ?_
    refine w_seq ?_
    refine w_region ?_
    refine wl_det rfl rfl rfl (op_move rfl) ?_
    refine wl_det rfl rfl rfl (op_assign rfl) ?_
    refine wl_nil ?_
    refine st_tn ?_
    refine w_seq ?_
    refine w_region ?_
    refine wl_det rfl rfl rfl (op_move rfl) ?_
    refine wl_det rfl rfl rfl (op_move rfl) ?_
    refine wl_det rfl rfl rfl (op_move rfl) ?_
    refine wl_det rfl rfl rfl (op_idxBs rfl rfl Try.underlying9 (by assumption)) ?_
    refine wl_det rfl rfl rfl (op_conv8U32 rfl (by rw [Try.underlying5]; rfl) Try.underlying110) ?_
    refine wl_det rfl rfl rfl (op_xorU32 rfl rfl hrl (by have := b.toNat_lt; omega)) ?_
    refine wl_det rfl rfl rfl (op_assign rfl) ?_
    refine wl_nil ?_
    refine st_tn ?_
    refine w_seq ?_
    refine w_region ?_
    refine wl_det rfl rfl rfl (op_move rfl) ?_
    refine wl_nil ?_
    refine st_tn ?_
    refine w_block ?_
    refine w_loopQ (X := Nat × Nat) (fun z => z.2 ≤ 8 ∧ z.1 = sumI (r ^^^ b.toNat) z.2) (fun z => [(5, .int .u32 (z.1)), (20, .int .i64 (z.2))]) (fun _ => []) (fun z => 8 - z.2) ((r ^^^ b.toNat, 0)) [(1, _), (10, _), (11, _)] [] [] rfl (rfl) (.cons rfl (.cons rfl (.nil _))) (.cons rfl (.cons rfl (.cons rfl (.nil _)))) (by
        try dsimp only
        exact ⟨Nat.zero_le _, rfl⟩) ?_
    rintro ⟨q, j⟩ ⟨hj, hq⟩
    refine w_norm2 (by dsimp only [List.cons_append, List.nil_append]) (by dsimp only [List.cons_append, List.nil_append]) ?_
    try dsimp only at hj hq ⊢
    refine w_seq ?_
    refine w_region ?_
    refine wl_det rfl rfl rfl (op_lss rfl rfl) ?_
    refine wl_nil ?_
    refine st_tn ?_
    refine w_seq ?_
    refine w_cond_d rfl (fun hc21 => ?_) (fun hc21 => ?_)
    · -- c21.t
      refine w_skip ?_
      refine st_tn ?_
      refine w_seq ?_
      refine w_block ?_
      refine w_region ?_
      refine wl_det rfl rfl rfl (op_move rfl) ?_
      refine wl_det rfl rfl rfl (op_fn Try.func91 rfl rfl rfl (zbit_any q (by rw [hq]; exact sumI_lt (xorb_lt hrl) j))) ?_
      refine wl_det rfl rfl rfl (op_assign rfl) ?_
      refine wl_nil ?_
      refine st_bn ?_
      refine st_tn ?_
      refine w_region ?_
      refine wl_det rfl rfl rfl (op_add' rfl rfl (by omega)) ?_
      refine wl_det rfl rfl rfl (op_move rfl) ?_
      refine wl_nil ?_
      refine st_roundQ (x := (q, j)) ((sumB q, j + 1)) [] rfl (rfl) (.cons rfl (.cons rfl (.nil _))) (.cons rfl (.cons rfl (.cons rfl (.nil _)))) (by
          try dsimp only
          exact ⟨by omega, by rw [hq]; rfl⟩) (by
          try dsimp only
          omega) 
    · -- c21.f
      have hq8 : q = sumR 4294967295 (s.take (i + 1)) := by rw [hsn, hq, show j = 8 by omega]
      subst hq8
      refine w_exit ?_
      refine st_te ?_
      refine st_te ?_
      refine st_be ?_
      refine st_bn ?_
      refine st_tn ?_
      refine w_region ?_
      refine wl_det rfl rfl rfl (op_add' rfl rfl (by omega)) ?_
      refine wl_det rfl rfl rfl (op_move rfl) ?_
      refine wl_nil ?_
      refine st_roundQ (x := (r, i)) ((sumR 4294967295 (s.take (i + 1)), i + 1)) [] rfl (rfl) (.cons rfl (.cons rfl (.nil _))) (.cons rfl (.cons rfl (.nil _))) (by
          try dsimp only
          exact ⟨by omega, rfl⟩) (by
          try dsimp only
          omega) 
  · -- c12.f
    refine w_exit ?_
    refine st_te ?_
    refine st_te ?_
    refine st_be ?_
    refine st_tn ?_
    refine w_seq ?_
    refine w_region ?_
    refine wl_det rfl rfl rfl (op_move rfl) ?_
    refine wl_det rfl rfl rfl (op_notU32 rfl (by rw [hr]; exact sumR_lt (by omega))) ?_
    refine wl_det rfl rfl rfl (op_assign rfl) ?_
    refine wl_nil ?_
    refine st_tn ?_
    refine w_ret ?_
    refine st_ret (vs := [_]) [] Try.results81 ⟨rfl, trivial⟩ rfl ?_
    refine ⟨_, rfl, ?_⟩
    have hfin : r ^^^ 4294967295 = crc s := by rw [hr, List.take_of_length_le (by omega)]; rfl
    rw [hfin]; exact ⟨rfl, rfl⟩

set_option maxHeartbeats 400000 in
set_option maxRecDepth 100000 in
theorem sum_any {σ : World} {F : List Res} (s : RdM.Bs) (hs : s.length ≤ 1099511627776) : FnT Try.prog σ F 68 [.string (str s)] [] (fun u ρ => u = .int .u32 (crc s) ∧ ρ = []) := by
  refine fn_of 5 Try.func68 rfl Try.ntmps68 rfl ?_
  refine w_seq ?_
  refine w_region ?_
  refine wl_det rfl rfl rfl (op_assign rfl) ?_
  refine wl_nil ?_
  refine st_tn ?_
  refine w_seq ?_
  refine w_region ?_
  refine wl_det rfl rfl rfl (op_move rfl) ?_
  refine wl_det rfl rfl rfl (op_fn Try.func81 rfl rfl rfl (ext_any s hs)) ?_
  refine wl_det rfl rfl rfl (op_assign rfl) ?_
  refine wl_nil ?_
  refine st_tn ?_
  refine w_ret ?_
  refine st_ret (vs := [_]) [] Try.results68 ⟨rfl, trivial⟩ rfl ?_
  refine ⟨_, rfl, ?_⟩
  exact ⟨rfl, rfl⟩

end Go.Proofs.Ytcbigmgakdanjaa
namespace Go.Proofs.Ytcbigmgakdanjaa
open Go Go.SL Go.RowKit Go.RdM Go.WalM
set_option linter.unusedVariables false
set_option linter.unusedSimpArgs false
theorem tF107_0wc : fieldB Try.prog 107 0 0 = true := by kernel_rfl
theorem tN107wc : (Try.prog.info? 107).bind (·.zero) = some (Value.agg #[Value.slice none 0 0]) := by kernel_rfl
theorem tO27wc : oneB Try.prog 27 = true := by kernel_rfl
theorem tO9wc : oneB Try.prog 9 = true := by kernel_rfl
theorem tP27wc : appB Try.prog 27 5 1 1 = true := by kernel_rfl
theorem tS35wc : sliceB Try.prog 35 9 1 = true := by kernel_rfl
theorem tZ27wc : (Try.prog.info? 27).map (·.size) = some 1 := by kernel_rfl

set_option maxHeartbeats 400000 in
set_option maxRecDepth 100000 in
theorem wtext_any {σ : World} {F : List Res} {b : Nat} {a : Option Addr} {c : Nat} {l : List UInt8} (x : RdM.Bs) (hx : x.length ≤ 1099511627776) (hl : l.length ≤ 1099511627776) :
    FnT Try.prog σ F 66 [.pointer (some ⟨b, 0, none⟩), .string (str x)] [(100, cel b [.slice a l.length c] 107), (101, slW 5 encU 1 (.slice a l.length c) l)]
      (fun u ρ => ∃ a' c', u = .tuple #[] ∧ ρ = [(100, cel b [.slice a' (l ++ txt x).length c'] 107), (101, slW 5 encU 1 (.slice a' (l ++ txt x).length c') (l ++ txt x))]) := by
  refine fn_of 19 Try.func66 rfl Try.ntmps66 rfl ?_
  have hn := RdM.encN_le (x := (x.length : Int)) (by omega)
  refine w_seq ?_
  refine w_seq ?_
  refine w_region ?_
  refine wl_det rfl rfl rfl (op_move rfl) ?_
  refine wl_det rfl rfl rfl (op_eqPtr rfl Try.underlying124) ?_
  refine wl_nil ?_
  refine st_tn ?_
  refine w_cond_f (rfl) ?_
  refine w_skip ?_
  refine st_tn ?_
  refine w_seq ?_
  refine w_region ?_
  refine wl_det rfl rfl rfl (op_move rfl) ?_
  refine wl_det rfl rfl rfl (op_move rfl) ?_
  refine wl_det rfl rfl rfl (op_lenBs rfl Try.underlying9) ?_
  refine wl_op [100, 101] rfl rfl rfl rfl (op_fn Try.func65 rfl rfl rfl (wnum 100 101 (x.length : Int) (by omega) hl)) ?_
  rintro _ _ ⟨a9, c9, rfl, rfl⟩
  refine wl_nil ?_
  refine st_tn ?_
  refine w_region ?_
  refine wl_det rfl rfl rfl (op_move rfl) ?_
  refine wl_det rfl rfl rfl (op_move rfl) ?_
  refine wl_det rfl rfl rfl (op_nilCheck rfl) ?_
  refine wl_det rfl rfl rfl (op_fieldAddr (off := 0) rfl tF107_0wc) ?_
  refine wl_det rfl rfl rfl (op_load1 rfl tO27wc (Ent.lab (l := 100) rfl (says_cel 0))) ?_
  refine wl_det rfl rfl rfl (op_move rfl) ?_
  refine wl_op [101] rfl rfl rfl rfl (op_appendS (lab := 101) (lab' := 16) rfl rfl tP27wc Try.underlying9 (by simp only [List.length_append]; omega)) ?_
  rintro _ _ ⟨a16, c16, rfl, rfl⟩
  refine wl_det rfl rfl rfl (op_nilCheck rfl) ?_
  refine wl_det rfl rfl rfl (op_fieldAddr (off := 0) rfl tF107_0wc) ?_
  refine wl_op0 [100] rfl rfl rfl (op_store rfl rfl tZ27wc (by rfl) (by rfl) (by exact Nat.le_of_ble_eq_true rfl)) ?_
  rintro _ _ ⟨rfl, rfl⟩
  refine wl_nil ?_
  refine st_end (vs := []) [100, 16] Try.results66 trivial rfl ?_
  refine ⟨[(100, _), (101, _)], rfl, ?_⟩
  unfold txt; rw [← List.append_assoc]; exact ⟨_, _, rfl, rfl⟩

theorem wtext {σ : World} {F : List Res} {b : Nat} {a : Option Addr} {c : Nat} {l : List UInt8} (l1 l2 : Nat) (x : RdM.Bs) (hx : x.length ≤ 1099511627776) (hl : l.length ≤ 1099511627776) :
    FnT Try.prog σ F 66 [.pointer (some ⟨b, 0, none⟩), .string (str x)] [(l1, cel b [.slice a l.length c] 107), (l2, slW 5 encU 1 (.slice a l.length c) l)]
      (fun u ρ => ∃ a' c', u = .tuple #[] ∧ ρ = [(l1, cel b [.slice a' (l ++ txt x).length c'] 107), (l2, slW 5 encU 1 (.slice a' (l ++ txt x).length c') (l ++ txt x))]) :=
  fn_lab (wtext_any x hx hl) rfl fun u ρ ⟨a', c', h1, h2⟩ => ⟨_, ⟨a', c', h1, rfl⟩, by rw [h2]; rfl⟩
theorem celW {σ : World} {F : List Res} {R : RL} {b T : Nat} {v : Value} (lab : Nat) (h : getL R lab = some (cel b [v] T)) : Ent σ (rs R ++ F) (At ⟨b, 0, none⟩ [v]) := Ent.lab h (says_cel 0)
theorem flat_snoc (g : List RdM.Bs) {i : Nat} {x : RdM.Bs} (h : g[i]? = some x) : ((g.take (i + 1)).map txt).flatten = ((g.take i).map txt).flatten ++ txt x := by
  rw [take_snoc h]; simp
theorem flat_le {g : List RdM.Bs} (hg : OkG g) (i : Nat) : (((g.take i).map txt).flatten).length ≤ 16777216 + 2560 := by
  have h1 := sum_txt (g := g.take i) fun r hr => hg.rc r (List.mem_of_mem_take hr)
  have h2 := List.length_take_le' i g
  have h3 := hg.len
  have : (g.take i).length * 65545 ≤ 256 * 65545 := Nat.mul_le_mul_right _ (by omega)
  omega
set_option maxHeartbeats 1000000 in
set_option maxRecDepth 100000 in
theorem encode_any {σ : World} {F : List Res} {a : Option Addr} {c : Nat} (f : Nat) (g : List RdM.Bs) (h : Sl σ F encT 1 (.slice a g.length c) g) (hg : OkG g) (hf : f ≤ 1099511627776) :
    FnT Try.prog σ F 46 [.int .i64 f, .slice a g.length c] [] (fun u ρ => u = .string (str (encG f g)) ∧ ρ = []) := by
  refine fn_of 30 Try.func46 rfl Try.ntmps46 rfl ?_
  have hgl := hg.len
  have hN1 := RdM.encN_le (x := (f : Int)) (by omega)
  have hN2 := RdM.encN_le (x := (g.length : Int)) (by omega)
  have hbl := body_le hg hf
  have hcr := crc_lt (body f g)
  refine w_seq ?_
  refine w_region ?_
  refine wl_det rfl rfl rfl (op_assign rfl) ?_
  refine wl_nil ?_
  refine st_tn ?_
  refine w_seq ?_
  refine w_region ?_
  refine wl_op [] rfl rfl rfl rfl (op_alloc (l := 5) tN107wc) ?_
  rintro _ _ ⟨b5, rfl, rfl⟩
  refine wl_op [] rfl rfl rfl rfl (op_alloc (l := 6) tN107wc) ?_
  rintro _ _ ⟨b6, rfl, rfl⟩
  refine wl_nil ?_
  refine st_tn ?_
  refine w_seq ?_
  refine w_emp 105 (slO_nil 5 1) ?_
  refine w_emp 106 (slO_nil 5 1) ?_
  refine w_region ?_
  refine wl_det rfl rfl rfl (op_move rfl) ?_
  refine wl_op [5, 105] rfl rfl rfl rfl (op_fn Try.func65 rfl rfl rfl (wnum (l := []) 5 105 (f : Int) (by omega) (by simp))) ?_
  rintro _ _ ⟨a10, c10, rfl, rfl⟩
  refine wl_nil ?_
  refine st_tn ?_
  refine w_seq ?_
  refine w_region ?_
  refine wl_det rfl rfl rfl (op_move rfl) ?_
  refine wl_det rfl rfl rfl (op_lenT rfl tS35wc (Sl.ent (by first | exact Sl.app (by assumption) _ | exact Sl.app (Sl.app (by assumption) _) _))) ?_
  refine wl_op [5, 105] rfl rfl rfl rfl (op_fn Try.func65 rfl rfl rfl (wnum 5 105 (g.length : Int) (by omega) (by simp; omega))) ?_
  rintro _ _ ⟨a13, c13, rfl, rfl⟩
  refine wl_nil ?_
  refine st_tn ?_
  refine w_seq ?_
  refine w_seq ?_
  refine w_region ?_
  refine wl_det rfl rfl rfl (op_move rfl) ?_
  refine wl_det rfl rfl rfl (op_lenT rfl tS35wc (Sl.ent (by first | exact Sl.app (by assumption) _ | exact Sl.app (Sl.app (by assumption) _) _))) ?_
  refine wl_det rfl rfl rfl (op_move rfl) ?_
  refine wl_nil ?_
  refine st_tn ?_
  refine w_block ?_
  refine w_loopQ (X := Nat × List UInt8 × Option Addr × Nat) (fun z => z.1 ≤ g.length ∧ z.2.1 = encN f ++ encN g.length ++ ((g.take z.1).map txt).flatten) (fun z => [(16, .int .i64 (z.1))]) (fun z => [(105, slW 5 encU 1 (.slice (z.2.2.1) (z.2.1).length (z.2.2.2)) (z.2.1)), (5, cel b5 [.slice (z.2.2.1) (z.2.1).length (z.2.2.2)] 107)]) (fun z => g.length - z.1) ((0, [] ++ encN f ++ encN g.length, _, _)) [(5, _), (6, _), (14, _), (15, _)] [(6, _), (106, _)] [105, 5, 6, 106] rfl (rfl) (.cons rfl (.nil _)) (.cons rfl (.cons rfl (.cons rfl (.cons rfl (.nil _))))) (by
      try dsimp only
      exact ⟨Nat.zero_le _, by simp⟩) ?_
  rintro ⟨i, out, a_out, c_out⟩ ⟨hi, hout⟩
  refine w_norm2 (by dsimp only [List.cons_append, List.nil_append]) (by dsimp only [List.cons_append, List.nil_append]) ?_
  try dsimp only at hi hout ⊢
  refine w_seq ?_
  refine w_region ?_
  refine wl_det rfl rfl rfl (op_lss rfl rfl) ?_
  refine wl_nil ?_
  refine st_tn ?_
  refine w_seq ?_
  refine w_cond_d rfl (fun hc17 => ?_) (fun hc17 => ?_)
  · -- c17.t
    obtain ⟨x, hx⟩ := getE (l := g) (i := i) (by omega)
    have hxl := hg.rc x (List.mem_of_getElem? hx)
    have hfl := flat_le hg i
    have hol : out.length ≤ 1099511627776 := by rw [hout, List.length_append, List.length_append]; omega
    refine w_skip ?_
    refine st_tn ?_
    refine w_seq ?_
    refine w_block ?_
    refine w_seq ?_
    refine w_region ?_
    refine wl_det rfl rfl rfl (op_idx rfl rfl tS35wc (Sl.ent (by first | exact Sl.app (by assumption) _ | exact Sl.app (Sl.app (by assumption) _) _)) (by omega)) ?_
    refine wl_det rfl rfl rfl (op_ldx rfl tO9wc (by first | exact Sl.app (by assumption) _ | exact Sl.app (Sl.app (by assumption) _) _) (by assumption) (by rfl)) ?_
    refine wl_det rfl rfl rfl (op_assign rfl) ?_
    refine wl_nil ?_
    refine st_tn ?_
    refine w_region ?_
    refine wl_det rfl rfl rfl (op_move rfl) ?_
    refine wl_op [5, 105] rfl rfl rfl rfl (op_fn Try.func66 rfl rfl rfl (wtext 5 105 x (by omega) hol)) ?_
    rintro _ _ ⟨a21, c21, rfl, rfl⟩
    refine wl_nil ?_
    refine st_bn ?_
    refine st_tn ?_
    refine w_region ?_
    refine wl_det rfl rfl rfl (op_add' rfl rfl (by omega)) ?_
    refine wl_det rfl rfl rfl (op_move rfl) ?_
    refine wl_nil ?_
    refine st_roundQ (x := (i, out, a_out, c_out)) ((i + 1, out ++ txt x, _, _)) [105, 5, 6, 106] rfl (rfl) (.cons rfl (.nil _)) (.cons rfl (.cons rfl (.cons rfl (.cons rfl (.nil _))))) (by
        try dsimp only
        exact ⟨by omega, by rw [hout, flat_snoc g hx, ← List.append_assoc]⟩) (by
        try dsimp only
        omega) 
  · -- c17.f
    have hob : out = body f g := by rw [hout, take_all (by omega)]; rfl
    subst hob
    refine w_exit ?_
    refine st_te ?_
    refine st_te ?_
    refine st_be ?_
    refine st_tn ?_
    refine w_seq ?_
    refine w_region ?_
    refine wl_det rfl rfl rfl (op_fn Try.func67 rfl rfl rfl (wbytes (celW 5 rfl) (Sl.lab 105 rfl (by unfold maxLen; omega)))) ?_
    refine wl_op [6, 106] rfl rfl rfl rfl (op_fn Try.func66 rfl rfl rfl (wtext (l := []) 6 106 (body f g) (by omega) (by simp))) ?_
    rintro _ _ ⟨a24, c24, rfl, rfl⟩
    refine wl_nil ?_
    refine st_tn ?_
    refine w_seq ?_
    refine w_region ?_
    refine wl_det rfl rfl rfl (op_fn Try.func67 rfl rfl rfl (wbytes (celW 5 rfl) (Sl.lab 105 rfl (by unfold maxLen; omega)))) ?_
    refine wl_det rfl rfl rfl (op_fn Try.func68 rfl rfl rfl (sum_any (body f g) (by omega))) ?_
    refine wl_det rfl rfl rfl (op_convI64 rfl (by rw [Try.underlying110]; rfl) Try.underlying3 (by omega)) ?_
    refine wl_op [6, 106] rfl rfl rfl rfl (op_fn Try.func65 rfl rfl rfl (wnum 6 106 (crc (body f g) : Int) (by omega) (by have := txt_le (x := body f g) (by omega); simp; omega))) ?_
    rintro _ _ ⟨a28, c28, rfl, rfl⟩
    refine wl_nil ?_
    refine st_tn ?_
    refine w_seq ?_
    refine w_region ?_
    refine wl_det rfl rfl rfl (op_fn Try.func67 rfl rfl rfl (wbytes (celW 6 rfl) (Sl.lab 106 rfl (by have := txt_le (x := body f g) (by omega); have := RdM.encN_le (x := (crc (body f g) : Int)) (by omega); unfold maxLen; simp; omega)))) ?_
    refine wl_det rfl rfl rfl (op_assign rfl) ?_
    refine wl_nil ?_
    refine st_tn ?_
    refine w_ret ?_
    refine st_ret (vs := [_]) [] Try.results46 ⟨rfl, trivial⟩ rfl ?_
    refine ⟨_, rfl, ?_⟩
    exact ⟨rfl, rfl⟩

end Go.Proofs.Ytcbigmgakdanjaa
namespace Go.Proofs.Ytcbigmgakdanjaa
open Go Go.SL Go.RowKit Go.RdM Go.WalM
set_option linter.unusedVariables false
set_option linter.unusedSimpArgs false
theorem tF130_0wd : fieldB Try.prog 130 0 0 = true := by kernel_rfl
theorem tF130_1wd : fieldB Try.prog 130 1 1 = true := by kernel_rfl
theorem tMixwd : Try.prog.follows .mixedOrders = true := by kernel_rfl
theorem tO3wd : oneB Try.prog 3 = true := by kernel_rfl
theorem tO9wd : oneB Try.prog 9 = true := by kernel_rfl
theorem tZ3wd : (Try.prog.info? 3).map (·.size) = some 1 := by kernel_rfl

theorem szE_ok {s : RdM.Bs} {at_ : Nat} {most more : Int} (h : szE s at_ most more = 0) (hm : more ≠ 0) : (num s at_).2.2 = 0 ∧ 0 ≤ (num s at_).1 ∧ (num s at_).1 ≤ most ∧ (num s at_).1 + (num s at_).2.1 ≤ s.length := by
  unfold szE at h
  split at h
  · rename_i h1; exact absurd h h1
  · rename_i h1
    have h1 := Classical.not_not.1 h1
    split at h
    · simp at h
    · split at h
      · exact absurd h hm
      · split at h
        · simp at h
        · omega
set_option maxHeartbeats 400000 in
set_option maxRecDepth 100000 in
theorem rtxt_any {σ : World} {F : List Res} {b : Nat} {s : RdM.Bs} (most : Int) (r : Rd) (hs : s.length ≤ 1099511627776) :
    FnT Try.prog σ F 83 [.pointer (some ⟨b, 0, none⟩), .int .i64 most] [(600, cel b (cellR s r) 130)] (fun u ρ => u = .string (str (rdT s most r).1) ∧ ρ = [(600, cel b (cellR s (rdT s most r).2) 130)]) := by
  refine fn_of 36 Try.func83 rfl Try.ntmps83 rfl ?_
  refine w_seq ?_
  refine w_region ?_
  refine wl_det rfl rfl rfl (op_assign rfl) ?_
  refine wl_nil ?_
  refine st_tn ?_
  refine w_seq ?_
  refine w_seq ?_
  refine w_region ?_
  refine wl_det rfl rfl rfl (op_move rfl) ?_
  refine wl_det rfl rfl rfl (op_fn Try.func93 rfl rfl rfl (rok_any (celR 600 rfl))) ?_
  refine wl_det rfl rfl rfl (op_not_d rfl) ?_
  refine wl_nil ?_
  refine st_tn ?_
  refine w_cond_d rfl (fun hc10 => ?_) (fun hc10 => ?_)
  · -- c10.t
    refine w_seq ?_
    refine w_region ?_
    refine wl_det rfl rfl rfl (op_assign rfl) ?_
    refine wl_nil ?_
    refine st_tn ?_
    refine w_ret ?_
    refine st_tr ?_
    refine st_ret (vs := [_]) [600] Try.results83 ⟨rfl, trivial⟩ rfl ?_
    refine ⟨[(600, _)], rfl, ?_⟩
    have hr : rdT s most r = ([], r) := by unfold rdT; rw [if_pos hc10]
    rw [hr]; exact ⟨rfl, rfl⟩
  · -- c10.f
    have he : r.e = 0 := Classical.not_not.1 hc10
    refine w_skip ?_
    refine st_tn ?_
    refine w_seq ?_
    refine w_region ?_
    refine wl_det rfl rfl rfl (op_move rfl) ?_
    refine wl_det rfl rfl rfl (op_move rfl) ?_
    refine wl_op [600] rfl rfl rfl rfl (op_fn Try.func94 rfl rfl rfl (rsize_any most 5 he hs (by simp))) ?_
    rintro _ _ ⟨rfl, rfl⟩
    refine wl_det rfl rfl rfl (op_move rfl) ?_
    refine wl_det rfl rfl rfl (op_extract rfl rfl) ?_
    refine wl_det rfl rfl rfl (op_extract rfl rfl) ?_
    refine wl_det rfl rfl rfl (op_extract rfl rfl) ?_
    refine wl_det rfl rfl rfl (op_assign rfl) ?_
    refine wl_det rfl rfl rfl (op_assign rfl) ?_
    refine wl_det rfl rfl rfl (op_assign rfl) ?_
    refine wl_nil ?_
    refine st_tn ?_
    refine w_seq ?_
    refine w_seq ?_
    refine w_region ?_
    refine wl_det rfl rfl rfl (op_move rfl) ?_
    refine wl_det rfl rfl rfl (op_not_d rfl) ?_
    refine wl_nil ?_
    refine st_tn ?_
    refine w_cond_d rfl (fun hc19 => ?_) (fun hc19 => ?_)
    · -- c19.t
      have hr : rdT s most r = ([], ⟨r.at_, szE s r.at_ most 5⟩) := by unfold rdT; rw [if_neg hc10, if_pos hc19]
      rw [hr]
      simp only [if_neg hc19]
      refine w_seq ?_
      refine w_region ?_
      refine wl_det rfl rfl rfl (op_assign rfl) ?_
      refine wl_nil ?_
      refine st_tn ?_
      refine w_ret ?_
      refine st_tr ?_
      refine st_ret (vs := [_]) [600] Try.results83 ⟨rfl, trivial⟩ rfl ?_
      refine ⟨[(600, _)], rfl, ?_⟩
      exact ⟨rfl, rfl⟩
    · -- c19.f
      have hc0 : szE s r.at_ most 5 = 0 := Classical.not_not.1 hc19
      have hr : rdT s most r = ((s.take ((num s r.at_).2.1 + (num s r.at_).1.toNat)).drop (num s r.at_).2.1, ⟨(num s r.at_).2.1 + (num s r.at_).1.toNat, 0⟩) := by unfold rdT; rw [if_neg hc10, if_neg hc19]
      rw [hr, hc0]
      simp only [if_true]
      obtain ⟨hz1, hz2, hz3, hz4⟩ := szE_ok hc0 (by simp)
      have hto : (num s r.at_).2.1 + (num s r.at_).1 = (((num s r.at_).2.1 + (num s r.at_).1.toNat : Nat) : Int) := by omega
      refine w_skip ?_
      refine st_tn ?_
      refine w_seq ?_
      refine w_region ?_
      refine wl_det rfl rfl rfl (op_move rfl) ?_
      refine wl_det rfl rfl rfl (op_move rfl) ?_
      refine wl_det rfl rfl rfl (op_move rfl) ?_
      refine wl_det rfl rfl rfl (op_val (v' := .int .i64 (((num s r.at_).2.1 + (num s r.at_).1.toNat : Nat) : Int)) (by rw [hto]) (op_add' rfl rfl (by omega))) ?_
      refine wl_det rfl rfl rfl (op_nilCheck rfl) ?_
      refine wl_det rfl rfl rfl (op_fieldAddr (off := 1) rfl tF130_1wd) ?_
      refine wl_op0 [600] rfl rfl rfl (op_store rfl rfl tZ3wd (by rfl) (by rfl) (by exact Nat.le_of_ble_eq_true rfl)) ?_
      rintro _ _ ⟨rfl, rfl⟩
      refine wl_nil ?_
      refine st_tn ?_
      refine w_seq ?_
      refine w_draw (D := [⟨26, [], [], [], _, false, [], []⟩, ⟨27, [0], [], [], _, false, [], []⟩, ⟨28, [1], [], [], _, false, [], []⟩, ⟨29, [2], [], [], _, false, [], []⟩, ⟨30, [], [], [], _, false, [], []⟩, ⟨31, [], [], [], _, false, [], []⟩, ⟨32, [5], [], [], _, false, [], []⟩, ⟨33, [6], [], [], _, false, [], []⟩, ⟨34, [7], [], [], _, false, [], []⟩]) [] [0, 6] [⟨26, [], [], false, [], []⟩, ⟨27, [0], [], false, [], []⟩, ⟨28, [1], [], false, [], []⟩, ⟨29, [2], [], false, [], []⟩, ⟨30, [], [], false, [], []⟩, ⟨31, [], [], false, [], []⟩, ⟨32, [5], [], false, [], []⟩, ⟨33, [6], [], false, [], []⟩, ⟨34, [7], [], false, [], []⟩] tMixwd (by rfl) (by kernel_rfl) (by rfl) (by rfl)
          ⟨.plain rfl (by intro X; exact op_move rfl),
          ⟨.plain rfl (by intro X; rintro _ _ ⟨rfl, rfl⟩; exact op_nilCheck rfl),
          ⟨.plain rfl (by intro X; rintro _ _ ⟨rfl, rfl⟩; exact op_fieldAddr (off := 0) rfl tF130_0wd),
          ⟨.plain rfl (by intro X; rintro _ _ ⟨rfl, rfl⟩; exact op_load1 rfl tO9wd (Ent.lab (l := 600) rfl (says_cel 0))),
          ⟨.plain rfl (by intro X; exact op_move rfl),
          ⟨.plain rfl (by intro X; exact op_move rfl),
          ⟨.plain rfl (by intro X; rintro _ _ ⟨rfl, rfl⟩; exact op_nilCheck rfl),
          ⟨.plain rfl (by intro X; rintro _ _ ⟨rfl, rfl⟩; exact op_fieldAddr (off := 1) rfl tF130_1wd),
          ⟨.plain rfl (by intro X; rintro _ _ ⟨rfl, rfl⟩; exact op_load1 rfl tO3wd (Ent.lab (l := 600) rfl (says_cel 1))),
          trivial⟩⟩⟩⟩⟩⟩⟩⟩⟩ ?_
      rintro _ _ ⟨rfl, rfl⟩ _ _ ⟨rfl, rfl⟩ _ _ ⟨rfl, rfl⟩ _ _ ⟨rfl, rfl⟩ _ _ ⟨rfl, rfl⟩ _ _ ⟨rfl, rfl⟩ _ _ ⟨rfl, rfl⟩ _ _ ⟨rfl, rfl⟩ _ _ ⟨rfl, rfl⟩
      refine wl_norm (e' := [(29, _), (30, _), (34, _)]) (.cons rfl (.cons rfl (.cons rfl (.nil _)))) (by dsimp only [cond_false, cond_true, List.nil_append, List.cons_append]) ?_
      refine wl_det rfl rfl rfl (op_sliceBs rfl rfl rfl Try.underlying9 (by omega) (by omega)) ?_
      refine wl_det rfl rfl rfl (op_assign rfl) ?_
      refine wl_nil ?_
      refine st_tn ?_
      refine w_ret ?_
      refine st_ret (vs := [_]) [600] Try.results83 ⟨rfl, trivial⟩ rfl ?_
      refine ⟨[(600, _)], rfl, ?_⟩
      exact ⟨rfl, rfl⟩

end Go.Proofs.Ytcbigmgakdanjaa
namespace Go.Proofs.Ytcbigmgakdanjaa
open Go Go.SL Go.RowKit Go.RdM Go.WalM
set_option linter.unusedVariables false
set_option linter.unusedSimpArgs false
theorem tF130_0we : fieldB Try.prog 130 0 0 = true := by kernel_rfl
theorem tF130_1we : fieldB Try.prog 130 1 1 = true := by kernel_rfl
theorem tL35_1we : zerosB Try.prog 35 9 1 1 = some [Value.string .empty] := by kernel_rfl
theorem tMixwe : Try.prog.follows .mixedOrders = true := by kernel_rfl
theorem tO3we : oneB Try.prog 3 = true := by kernel_rfl
theorem tO9we : oneB Try.prog 9 = true := by kernel_rfl
theorem tP35we : appB Try.prog 35 9 1 16 = true := by kernel_rfl
theorem tS35we : sliceB Try.prog 35 9 1 = true := by kernel_rfl

section
variable {σ : World} {F : List Res} {b : Nat} {s : RdM.Bs} {r r' : Rd}
theorem rtxt_to (lab : Nat) {most : Int} {x : RdM.Bs} (h : rdT s most r = (x, r')) (hs : s.length ≤ 1099511627776) :
    FnT Try.prog σ F 83 [.pointer (some ⟨b, 0, none⟩), .int .i64 most] [(lab, cel b (cellR s r) 130)] (fun u ρ => u = .string (str x) ∧ ρ = [(lab, cel b (cellR s r') 130)]) :=
  fn_lab (rtxt_any most r hs) rfl fun u ρ ⟨h1, h2⟩ => ⟨_, ⟨by rw [h1, h], rfl⟩, by rw [h2, h]; rfl⟩
theorem rnum_to (lab : Nat) {x : Int} (h : rdN s r = (x, r')) (hs : s.length ≤ 1099511627776) :
    FnT Try.prog σ F 84 [.pointer (some ⟨b, 0, none⟩)] [(lab, cel b (cellR s r) 130)] (fun u ρ => u = .int .i64 x ∧ ρ = [(lab, cel b (cellR s r') 130)]) :=
  fn_lab (rnum_any r hs) rfl fun u ρ ⟨h1, h2⟩ => ⟨_, ⟨by rw [h1, h], rfl⟩, by rw [h2, h]; rfl⟩
theorem rcnt_to (lab : Nat) {most : Int} {x : Int} (h : rdC s most r = (x, r')) (hs : s.length ≤ 1099511627776) :
    FnT Try.prog σ F 86 [.pointer (some ⟨b, 0, none⟩), .int .i64 most] [(lab, cel b (cellR s r) 130)] (fun u ρ => u = .int .i64 x ∧ ρ = [(lab, cel b (cellR s r') 130)]) :=
  fn_lab (rcnt_any most r hs) rfl fun u ρ ⟨h1, h2⟩ => ⟨_, ⟨by rw [h1, h], rfl⟩, by rw [h2, h]; rfl⟩
end
set_option maxHeartbeats 400000 in
set_option maxRecDepth 100000 in
theorem rleft_any {σ : World} {F : List Res} {b : Nat} {s : RdM.Bs} {r : Rd} (hr : r.at_ ≤ s.length) (hs : s.length ≤ 1099511627776) (hb : Ent σ F (At ⟨b, 0, none⟩ (cellR s r))) :
    FnT Try.prog σ F 73 [.pointer (some ⟨b, 0, none⟩)] [] (fun u ρ => u = .int .i64 ((s.length : Int) - r.at_) ∧ ρ = []) := by
  refine fn_of 15 Try.func73 rfl Try.ntmps73 rfl ?_
  refine w_seq ?_
  refine w_region ?_
  refine wl_det rfl rfl rfl (op_assign rfl) ?_
  refine wl_nil ?_
  refine st_tn ?_
  refine w_seq ?_
  refine w_seq ?_
  refine w_region ?_
  refine wl_det rfl rfl rfl (op_move rfl) ?_
  refine wl_det rfl rfl rfl (op_val (v' := .bool false) (by simp) (op_eqPtr rfl Try.underlying116)) ?_
  refine wl_nil ?_
  refine st_tn ?_
  refine w_cond_f (rfl) ?_
  refine w_skip ?_
  refine st_tn ?_
  refine w_seq ?_
  refine w_drawW (fun β => [⟨5, [], [], [], noW (_), false, [], []⟩, ⟨6, [0], [], [], noW (_), false, [], []⟩, ⟨7, [1], [], [], noW (_), false, [], []⟩, ⟨8, [2], [], [], noW (_), false, [], []⟩, ⟨9, [3], [], [], noW (_), false, [], []⟩, ⟨10, [], [], [], noW (_), false, [], []⟩, ⟨11, [5], [], [], noW (_), false, [], []⟩, ⟨12, [6], [], [], noW (_), false, [], []⟩, ⟨13, [7], [], [], noW (_), false, [], []⟩]) [] [0] [⟨5, [], [], false, [], []⟩, ⟨6, [0], [], false, [], []⟩, ⟨7, [1], [], false, [], []⟩, ⟨8, [2], [], false, [], []⟩, ⟨9, [3], [], false, [], []⟩, ⟨10, [], [], false, [], []⟩, ⟨11, [5], [], false, [], []⟩, ⟨12, [6], [], false, [], []⟩, ⟨13, [7], [], false, [], []⟩] [[], [], [], [], [], [], [], [], []] [[], [], [], [], [], [], [], [], []] tMixwe (fun _ => by rfl) (fun _ => by rfl) (by kernel_rfl) (by kernel_rfl) (by rfl) (by rfl)
      (fun β => ⟨.p rfl (by intro X; exact op_move rfl),
      ⟨.p rfl (by intro X; rintro _ _ ⟨rfl, rfl⟩; exact op_nilCheck rfl),
      ⟨.p rfl (by intro X; rintro _ _ ⟨rfl, rfl⟩; exact op_fieldAddr (off := 0) rfl tF130_0we),
      ⟨.p rfl (by intro X; rintro _ _ ⟨rfl, rfl⟩; exact op_load1 rfl tO9we (Ent.app (Ent.app (Ent.fld hb 0) X) _)),
      ⟨.p rfl (by intro X; rintro _ _ ⟨rfl, rfl⟩; exact op_lenBs rfl Try.underlying9),
      ⟨.p rfl (by intro X; exact op_move rfl),
      ⟨.p rfl (by intro X; rintro _ _ ⟨rfl, rfl⟩; exact op_nilCheck rfl),
      ⟨.p rfl (by intro X; rintro _ _ ⟨rfl, rfl⟩; exact op_fieldAddr (off := 1) rfl tF130_1we),
      ⟨.p rfl (by intro X; rintro _ _ ⟨rfl, rfl⟩; exact op_load1 rfl tO3we (Ent.app (Ent.app (Ent.fld hb 1) X) _)),
      trivial⟩⟩⟩⟩⟩⟩⟩⟩⟩)
      (fun β β' => ⟨fun _ => by rfl, ⟨fun _ => by rfl, ⟨fun _ => by rfl, ⟨fun _ => by rfl, ⟨fun _ => by rfl, ⟨fun _ => by rfl, ⟨fun _ => by rfl, ⟨fun _ => by rfl, ⟨fun _ => by rfl, trivial⟩⟩⟩⟩⟩⟩⟩⟩⟩) ?_
  intro β
  rintro _ _ ⟨rfl, rfl⟩ _ _ ⟨rfl, rfl⟩ _ _ ⟨rfl, rfl⟩ _ _ ⟨rfl, rfl⟩ _ _ ⟨rfl, rfl⟩ _ _ ⟨rfl, rfl⟩ _ _ ⟨rfl, rfl⟩ _ _ ⟨rfl, rfl⟩ _ _ ⟨rfl, rfl⟩
  refine wl_norm (e' := [(9, _), (13, _)]) (.cons rfl (.cons rfl (.nil _))) (by dsimp only [cond_false, cond_true, List.nil_append, List.cons_append]) ?_
  refine wl_det rfl rfl rfl (op_sub' rfl rfl (by omega)) ?_
  refine wl_det rfl rfl rfl (op_assign rfl) ?_
  refine wl_nil ?_
  refine st_tn ?_
  refine w_ret ?_
  refine st_ret (vs := [_]) [] Try.results73 ⟨rfl, trivial⟩ rfl ?_
  refine ⟨_, rfl, ?_⟩
  exact ⟨rfl, rfl⟩

/-- The bytes before the i-th record of a body. -/
def pre (f : Nat) (g : List RdM.Bs) (i : Nat) : RdM.Bs := RdM.encN f ++ RdM.encN g.length ++ ((g.take i).map txt).flatten
theorem body_at {f : Nat} {g : List RdM.Bs} {i : Nat} {x : RdM.Bs} (h : g[i]? = some x) : body f g = pre f g i ++ txt x ++ ((g.drop (i + 1)).map txt).flatten := by
  have hlt := (List.getElem?_eq_some_iff.1 h).1
  have hre := (List.getElem?_eq_some_iff.1 h).2
  have hspl : g = g.take i ++ x :: g.drop (i + 1) := by rw [← hre, ← List.drop_eq_getElem_cons hlt, List.take_append_drop]
  unfold body pre
  conv => lhs; rw [show (g.map txt).flatten = ((g.take i ++ x :: g.drop (i + 1)).map txt).flatten by rw [← hspl]]
  rw [List.map_append, List.flatten_append, List.map_cons, List.flatten_cons]
  simp only [List.append_assoc]
theorem body_txt {f : Nat} {g : List RdM.Bs} (hg : OkG g) {i : Nat} {x : RdM.Bs} (h : g[i]? = some x) : rdT (body f g) 65536 ⟨(pre f g i).length, 0⟩ = (x, ⟨(pre f g (i + 1)).length, 0⟩) := by
  have hx := hg.rc x (List.mem_of_getElem? h)
  rw [rdT_enc (by omega) (by omega) (body_at h)]
  unfold pre
  rw [flat_snoc g h, ← List.append_assoc, List.length_append (bs := txt x)]
theorem body_num {f : Nat} {g : List RdM.Bs} (hf : f ≤ 1099511627776) : rdN (body f g) ⟨0, 0⟩ = ((f : Int), ⟨(RdM.encN f).length, 0⟩) := by
  have := rdN_enc (p := []) (q := RdM.encN g.length ++ (g.map txt).flatten) (x := (f : Int)) (s := body f g) (by omega) (by unfold body; simp)
  simpa using this
theorem txt_ge : ∀ g : List RdM.Bs, g.length ≤ ((g.map txt).flatten).length
  | [] => by simp
  | x :: g => by
    have := txt_ge g
    have h1 : 0 < (txt x).length := by unfold txt RdM.encN; simp
    rw [List.map_cons, List.flatten_cons, List.length_append, List.length_cons]; omega
theorem body_cnt {f : Nat} {g : List RdM.Bs} (hg : OkG g) : rdC (body f g) 256 ⟨(RdM.encN f).length, 0⟩ = ((g.length : Int), ⟨(pre f g 0).length, 0⟩) := by
  have hl := hg.len
  have := txt_ge g
  rw [rdC_enc (p := RdM.encN f) (q := (g.map txt).flatten) (x := (g.length : Int)) (by omega) (by omega) (by omega) (by unfold body; rfl)]
  unfold pre; simp
section
variable {p q : RdM.Bs} {f : Nat} {g : List RdM.Bs} {S : RdM.Bs}
theorem group_txt (hg : OkG g) (hf : f ≤ 1099511627776) (hS : S = p ++ encG f g ++ q) : rdT S 1073741824 ⟨p.length, 0⟩ = (body f g, ⟨(p ++ txt (body f g)).length, 0⟩) := by
  have hb := body_le hg hf
  rw [rdT_enc (x := body f g) (q := RdM.encN (crc (body f g)) ++ q) (by omega) (by omega) (by rw [hS]; unfold encG; simp only [List.append_assoc]), List.length_append]
theorem group_num (hS : S = p ++ encG f g ++ q) : rdN S ⟨(p ++ txt (body f g)).length, 0⟩ = ((crc (body f g) : Int), ⟨(p ++ encG f g).length, 0⟩) := by
  have hc := crc_lt (body f g)
  rw [rdN_enc (p := p ++ txt (body f g)) (q := q) (x := (crc (body f g) : Int)) (by omega) (by rw [hS]; unfold encG; simp only [List.append_assoc])]
  unfold encG
  rw [← List.append_assoc, List.length_append (bs := RdM.encN _)]
end
set_option maxHeartbeats 1000000 in
set_option maxRecDepth 100000 in
theorem dec_ok {σ : World} {F : List Res} {b : Nat} {p q S : RdM.Bs} {f : Nat} {g : List RdM.Bs} (lab : Nat) (hg : OkG g) (hf : f ≤ 1099511627776) (hS : S = p ++ encG f g ++ q) (hs : S.length ≤ 1099511627776) :
    FnT Try.prog σ F 74 [.pointer (some ⟨b, 0, none⟩)] [(600, cel b (cellR S ⟨p.length, 0⟩) 130)] (fun u ρ => ∃ a c, u = .tuple #[.int .i64 f, .slice a g.length c, .bool true] ∧ ρ = [(600, cel b (cellR S ⟨(p ++ encG f g).length, 0⟩) 130), (lab, slW 9 encT 1 (.slice a g.length c) g)]) := by
  refine fn_of 46 Try.func74 rfl Try.ntmps74 rfl ?_
  have hgl := hg.len
  have hgp := List.length_pos_iff.2 hg.ne
  have hbl := body_le hg hf
  have hcr := crc_lt (body f g)
  refine w_seq ?_
  refine w_region ?_
  refine wl_det rfl rfl rfl (op_assign rfl) ?_
  refine wl_det rfl rfl rfl (op_assign rfl) ?_
  refine wl_det rfl rfl rfl (op_assign rfl) ?_
  refine wl_nil ?_
  refine st_tn ?_
  refine w_seq ?_
  refine w_region ?_
  refine wl_det rfl rfl rfl (op_move rfl) ?_
  refine wl_op [600] rfl rfl rfl rfl (op_fn Try.func83 rfl rfl rfl (rtxt_to 600 (group_txt hg hf hS) hs)) ?_
  rintro _ _ ⟨rfl, rfl⟩
  refine wl_det rfl rfl rfl (op_assign rfl) ?_
  refine wl_nil ?_
  refine st_tn ?_
  refine w_seq ?_
  refine w_region ?_
  refine wl_det rfl rfl rfl (op_move rfl) ?_
  refine wl_op [600] rfl rfl rfl rfl (op_fn Try.func84 rfl rfl rfl (rnum_to 600 (group_num hS) hs)) ?_
  rintro _ _ ⟨rfl, rfl⟩
  refine wl_det rfl rfl rfl (op_assign rfl) ?_
  refine wl_nil ?_
  refine st_tn ?_
  refine w_seq ?_
  refine w_seq ?_
  refine w_region ?_
  refine wl_det rfl rfl rfl (op_move rfl) ?_
  refine wl_det rfl rfl rfl (op_fn Try.func85 rfl rfl rfl (rerr_any (celR 600 rfl))) ?_
  refine wl_det rfl rfl rfl (op_val (v' := .bool false) (by simp) (op_neq rfl rfl)) ?_
  refine wl_det rfl rfl rfl (op_move rfl) ?_
  refine wl_wanted_det rfl rfl rfl rfl rfl rfl rfl (op_move rfl) ?_
  refine wl_wanted_det rfl rfl rfl rfl rfl rfl rfl (op_move rfl) ?_
  refine wl_wanted_det rfl rfl rfl rfl rfl rfl rfl (op_fn Try.func68 rfl rfl rfl (sum_any (body f g) (by omega))) ?_
  refine wl_wanted_det rfl rfl rfl rfl rfl rfl rfl (op_convI64 rfl (by rw [Try.underlying110]; rfl) Try.underlying3 (by omega)) ?_
  refine wl_wanted_det rfl rfl rfl rfl rfl rfl rfl (op_val (v' := .bool false) (by simp) (op_neq rfl rfl)) ?_
  refine wl_det rfl rfl rfl (op_pick_f rfl rfl) ?_
  refine wl_nil ?_
  refine st_tn ?_
  refine w_cond_f (rfl) ?_
  refine w_skip ?_
  refine st_tn ?_
  refine w_seq ?_
  refine w_region ?_
  refine wl_det rfl rfl rfl (op_move rfl) ?_
  refine wl_op [] rfl rfl rfl rfl (op_fn Try.func72 rfl rfl rfl (rnew_any 23 (body f g))) ?_
  rintro _ _ ⟨b23, rfl, rfl⟩
  refine wl_det rfl rfl rfl (op_assign rfl) ?_
  refine wl_nil ?_
  refine st_tn ?_
  refine w_seq ?_
  refine w_region ?_
  refine wl_det rfl rfl rfl (op_move rfl) ?_
  refine wl_op [23] rfl rfl rfl rfl (op_fn Try.func84 rfl rfl rfl (rnum_to 23 (body_num hf) (by omega))) ?_
  rintro _ _ ⟨rfl, rfl⟩
  refine wl_det rfl rfl rfl (op_assign rfl) ?_
  refine wl_nil ?_
  refine st_tn ?_
  refine w_seq ?_
  refine w_seq ?_
  refine w_region ?_
  refine wl_det rfl rfl rfl (op_move rfl) ?_
  refine wl_op [23] rfl rfl rfl rfl (op_fn Try.func86 rfl rfl rfl (rcnt_to 23 (body_cnt hg) (by omega))) ?_
  rintro _ _ ⟨rfl, rfl⟩
  refine wl_det rfl rfl rfl (op_move rfl) ?_
  refine wl_nil ?_
  refine st_tn ?_
  refine w_block ?_
  refine w_emp 3 (slO_nil 9 1) ?_
  refine w_loopQ (X := Nat × List (List UInt8) × Option Addr × Nat × RdM.Rd) (fun z => z.1 ≤ g.length ∧ z.2.1 = g.take z.1 ∧ z.2.2.2.2 = ⟨(pre f g z.1).length, 0⟩) (fun z => [(28, .int .i64 (z.1)), (3, .slice (z.2.2.1) (z.2.1).length (z.2.2.2.1))]) (fun z => [(3, slW 9 encT 1 (.slice (z.2.2.1) (z.2.1).length (z.2.2.2.1)) (z.2.1)), (23, cel b23 (cellR (body f g) (z.2.2.2.2)) 130)]) (fun z => g.length - z.1) ((0, [], none, 0, ⟨(pre f g 0).length, 0⟩)) [(2, _), (7, _), (27, _)] [(600, _)] [3, 23, 600] rfl (rfl) (.cons rfl (.cons rfl (.nil _))) (.cons rfl (.cons rfl (.cons rfl (.nil _)))) (by
      try dsimp only
      exact ⟨Nat.zero_le _, rfl, rfl⟩) ?_
  rintro ⟨i, recs, a_recs, c_recs, r⟩ ⟨hi, hrecs, hr⟩
  refine w_norm2 (by dsimp only [List.cons_append, List.nil_append]) (by dsimp only [List.cons_append, List.nil_append]) ?_
  try dsimp only at hi hrecs hr ⊢
  refine w_seq ?_
  refine w_region ?_
  refine wl_det rfl rfl rfl (op_lss rfl rfl) ?_
  refine wl_nil ?_
  refine st_tn ?_
  refine w_seq ?_
  refine w_cond_d rfl (fun hc29 => ?_) (fun hc29 => ?_)
  · -- c29.t
    obtain ⟨x, hx⟩ := getE (l := g) (i := i) (by omega)
    have htx : rdT (body f g) 65536 r = (x, ⟨(pre f g (i + 1)).length, 0⟩) := by rw [hr]; exact body_txt hg hx
    have hrl : recs.length ≤ 256 := by rw [hrecs, List.length_take]; omega
    refine w_skip ?_
    refine st_tn ?_
    refine w_seq ?_
    refine w_block ?_
    refine w_region ?_
    refine wl_det rfl rfl rfl (op_move rfl) ?_
    refine wl_det rfl rfl rfl (op_move rfl) ?_
    refine wl_op [23] rfl rfl rfl rfl (op_fn Try.func83 rfl rfl rfl (rtxt_to 23 htx (by omega))) ?_
    rintro _ _ ⟨rfl, rfl⟩
    refine wl_op [] rfl rfl rfl rfl (op_buildSlice (enc := encT) (l := [x]) (lab := 33) tL35_1we rfl rfl (fun _ => rfl) rfl) ?_
    rintro _ _ ⟨a33, c33, rfl, rfl⟩
    refine wl_op [3] rfl rfl rfl rfl (op_append (lab := 3) (lab' := 34) rfl rfl tP35we enc1T (Sl.lab 33 rfl (by simp [maxLen])) (by simp; omega) (by simp; omega)) ?_
    rintro _ _ ⟨a34, c34, rfl, rfl⟩
    refine wl_det rfl rfl rfl (op_assign rfl) ?_
    refine wl_nil ?_
    refine st_bn ?_
    refine st_tn ?_
    refine w_region ?_
    refine wl_det rfl rfl rfl (op_add' rfl rfl (by omega)) ?_
    refine wl_det rfl rfl rfl (op_move rfl) ?_
    refine wl_nil ?_
    refine st_roundQ (x := (i, recs, a_recs, c_recs, r)) ((i + 1, recs ++ [x], _, _, ⟨(pre f g (i + 1)).length, 0⟩)) [34, 23, 600] rfl (rfl) (.cons rfl (.cons rfl (.nil _))) (.cons rfl (.cons rfl (.cons rfl (.nil _)))) (by
        try dsimp only
        exact ⟨by omega, by rw [hrecs, take_snoc hx], rfl⟩) (by
        try dsimp only
        omega) 
  · -- c29.f
    have hrg : recs = g := by rw [hrecs, take_all (by omega)]
    subst hrg
    have hen : endE (body f recs) r = 0 := by
      rw [hr]
      unfold endE
      rw [if_neg (by simp), if_neg]
      show ¬ (pre f recs i).length < (body f recs).length
      have : pre f recs i = body f recs := by unfold pre body; rw [take_all (by omega)]
      rw [this]; exact Nat.lt_irrefl _
    refine w_exit ?_
    refine st_te ?_
    refine st_te ?_
    refine st_be ?_
    refine st_tn ?_
    refine w_seq ?_
    refine w_region ?_
    refine wl_det rfl rfl rfl (op_move rfl) ?_
    refine wl_det rfl rfl rfl (op_move rfl) ?_
    refine wl_det rfl rfl rfl (op_move rfl) ?_
    refine wl_det rfl rfl rfl (op_val (v' := .int .i64 0) (by rw [hen]) (op_fn Try.func87 rfl rfl rfl (rend_any (celR 23 rfl)))) ?_
    refine wl_det rfl rfl rfl (op_val (v' := .bool true) (by simp) (op_eql rfl rfl)) ?_
    refine wl_det rfl rfl rfl (op_move rfl) ?_
    refine wl_wanted_det rfl rfl rfl rfl rfl rfl rfl (op_move rfl) ?_
    refine wl_wanted_det rfl rfl rfl rfl rfl rfl rfl (op_lenT rfl tS35we (Sl.ent (Sl.lab 3 rfl (by unfold maxLen; omega)))) ?_
    refine wl_wanted_det rfl rfl rfl rfl rfl rfl rfl (op_val (v' := .bool true) (by simp; omega) (op_gtr rfl rfl)) ?_
    refine wl_det rfl rfl rfl (op_pick_t rfl rfl) ?_
    refine wl_det rfl rfl rfl (op_assign rfl) ?_
    refine wl_det rfl rfl rfl (op_assign rfl) ?_
    refine wl_det rfl rfl rfl (op_assign rfl) ?_
    refine wl_nil ?_
    refine st_tn ?_
    refine w_ret ?_
    refine st_ret (vs := [_, _, _]) [600, 3] Try.results74 ⟨rfl, ⟨rfl, ⟨rfl, trivial⟩⟩⟩ rfl ?_
    refine ⟨[(600, _), (lab, _)], rfl, ?_⟩
    exact ⟨_, _, rfl, rfl⟩

set_option maxHeartbeats 400000 in
set_option maxRecDepth 100000 in
theorem dec_no {σ : World} {F : List Res} {b : Nat} {S : RdM.Bs} {r : Rd} (h : (rdN S (rdT S 1073741824 r).2).2.e ≠ 0) (hs : S.length ≤ 1099511627776) :
    FnT Try.prog σ F 74 [.pointer (some ⟨b, 0, none⟩)] [(600, cel b (cellR S r) 130)] (fun u ρ => u = .tuple #[.int .i64 0, .slice none 0 0, .bool false] ∧ ρ = [(600, cel b (cellR S (rdN S (rdT S 1073741824 r).2).2) 130)]) := by
  refine fn_of 46 Try.func74 rfl Try.ntmps74 rfl ?_
  refine w_seq ?_
  refine w_region ?_
  refine wl_det rfl rfl rfl (op_assign rfl) ?_
  refine wl_det rfl rfl rfl (op_assign rfl) ?_
  refine wl_det rfl rfl rfl (op_assign rfl) ?_
  refine wl_nil ?_
  refine st_tn ?_
  refine w_seq ?_
  refine w_region ?_
  refine wl_det rfl rfl rfl (op_move rfl) ?_
  refine wl_op [600] rfl rfl rfl rfl (op_fn Try.func83 rfl rfl rfl (rtxt_any 1073741824 r hs)) ?_
  rintro _ _ ⟨rfl, rfl⟩
  refine wl_det rfl rfl rfl (op_assign rfl) ?_
  refine wl_nil ?_
  refine st_tn ?_
  refine w_seq ?_
  refine w_region ?_
  refine wl_det rfl rfl rfl (op_move rfl) ?_
  refine wl_op [600] rfl rfl rfl rfl (op_fn Try.func84 rfl rfl rfl (rnum_any (rdT S 1073741824 r).2 hs)) ?_
  rintro _ _ ⟨rfl, rfl⟩
  refine wl_det rfl rfl rfl (op_assign rfl) ?_
  refine wl_nil ?_
  refine st_tn ?_
  refine w_seq ?_
  refine w_seq ?_
  refine w_region ?_
  refine wl_det rfl rfl rfl (op_move rfl) ?_
  refine wl_det rfl rfl rfl (op_fn Try.func85 rfl rfl rfl (rerr_any (celR 600 rfl))) ?_
  refine wl_det rfl rfl rfl (op_val (v' := .bool true) (by simp; exact h) (op_neq rfl rfl)) ?_
  refine wl_det rfl rfl rfl (op_move rfl) ?_
  refine wl_unwanted rfl rfl rfl rfl rfl rfl rfl rfl ?_
  refine wl_unwanted rfl rfl rfl rfl rfl rfl rfl rfl ?_
  refine wl_unwanted rfl rfl rfl rfl rfl rfl rfl rfl ?_
  refine wl_unwanted rfl rfl rfl rfl rfl rfl rfl rfl ?_
  refine wl_unwanted rfl rfl rfl rfl rfl rfl rfl rfl ?_
  refine wl_det rfl rfl rfl (op_pick_t rfl rfl) ?_
  refine wl_nil ?_
  refine st_tn ?_
  refine w_cond_t (rfl) ?_
  refine w_seq ?_
  refine w_region ?_
  refine wl_det rfl rfl rfl (op_assign rfl) ?_
  refine wl_det rfl rfl rfl (op_assign rfl) ?_
  refine wl_det rfl rfl rfl (op_assign rfl) ?_
  refine wl_nil ?_
  refine st_tn ?_
  refine w_ret ?_
  refine st_tr ?_
  refine st_ret (vs := [_, _, _]) [600] Try.results74 ⟨rfl, ⟨rfl, ⟨rfl, trivial⟩⟩⟩ rfl ?_
  refine ⟨[(600, _)], rfl, ?_⟩
  exact ⟨rfl, rfl⟩

end Go.Proofs.Ytcbigmgakdanjaa
namespace Go.Proofs.Ytcbigmgakdanjaa
open Go Go.SL Go.RowKit Go.RdM Go.WalM
set_option linter.unusedVariables false
set_option linter.unusedSimpArgs false
theorem tF76_1wf : fieldB Try.prog 76 1 1 = true := by kernel_rfl
theorem tMixwf : Try.prog.follows .mixedOrders = true := by kernel_rfl
theorem tN105wf : (Try.prog.info? 105).bind (·.zero) = some (Value.agg #[Value.int .u8 0, Value.int .u8 0, Value.int .u8 0, Value.int .u8 0, Value.int .u8 0, Value.int .u8 0]) := by kernel_rfl
theorem tO9wf : oneB Try.prog 9 = true := by kernel_rfl

def encRow (x : Nat × Nat × Nat × Nat) : List Value := [.int .i64 x.1, .int .i64 x.2.1, .int .i64 x.2.2.1, .int .i64 x.2.2.2]
theorem enc1Row : Enc1 encRow 4 := ⟨fun _ => rfl, fun a u h => by simp [encRow] at h; rcases h with rfl | rfl | rfl | rfl <;> rfl⟩
/-- A log as it is laid out: its segments' numbers, what waits. -/
structure Lr where
  rows : List (Nat × Nat × Nat × Nat)
  pend : List RdM.Bs
  fresh : Bool
  broken : Bool
/-- The cells of a log: its disk, its name, its segments, its records, what waits, whether the next group begins a segment, whether it is broken. -/
def cellL (d : Nat) (nm : RdM.Bs) (v : Lr) (m : Nat) (a : Option Addr) (c : Nat) (p : Option Addr) (cp : Nat) : List Value :=
  [.pointer (some ⟨d, 0, none⟩), .string (str nm), .slice a v.rows.length c, .map (some m), .slice p v.pend.length cp, .bool v.fresh, .bool v.broken]
theorem tR105wf : arrB Try.prog 105 6 1 = true := by kernel_rfl
theorem tZ5wf : (Try.prog.info? 5).map (·.size) = some 1 := by kernel_rfl
theorem dig_high : ∀ k n, dig (k + 1) n = UInt8.ofNat (48 + n / 10 ^ k % 10) :: dig k n
  | 0, n => by simp [dig]
  | k + 1, n => by
    rw [dig, dig_high k, dig, Nat.div_div_eq_div_mul, ← Nat.pow_succ', List.cons_append]
/-- The digits that are written, the last ones first. -/
def fil (n i : Nat) : List UInt8 := List.replicate (6 - i) 0 ++ dig i n
theorem len_fil {n i : Nat} (h : i ≤ 6) : (fil n i).length = 6 := by unfold fil; rw [List.length_append, List.length_replicate, len_dig]; omega
theorem fil_set {n i : Nat} (h : i < 6) : setsL ((fil n i).map cu) (5 - i) [Value.int .u8 ((UInt8.ofNat (48 + n / 10 ^ i % 10)).toNat : Int)] = (fil n (i + 1)).map cu := by
  show ((fil n i).map cu).set (5 - i) (cu (UInt8.ofNat (48 + n / 10 ^ i % 10))) = _
  rw [← List.map_set]
  congr 1
  unfold fil
  rw [dig_high]
  have h1 : 6 - i = (5 - i) + 1 := by omega
  have h2 : 6 - (i + 1) = 5 - i := by omega
  rw [h1, h2, List.replicate_succ', List.append_assoc, List.set_append_right _ _ (by simp)]
  simp
theorem fil_six (n : Nat) : fil n 6 = dig 6 n := by unfold fil; simp
set_option maxHeartbeats 1000000 in
set_option maxRecDepth 100000 in
theorem file_any {σ : World} {F : List Res} {b d m c cp : Nat} {nm : RdM.Bs} {v : Lr} {a p : Option Addr} (n : Nat) (hn : n ≤ 999999) (hnm : nm.length ≤ 64) (hd : Ent σ F (At ⟨b, 0, none⟩ (cellL d nm v m a c p cp))) :
    FnT Try.prog σ F 45 [.pointer (some ⟨b, 0, none⟩), .int .i64 n] [] (fun u ρ => u = .string (str (fileN nm n)) ∧ ρ = []) := by
  refine fn_of 28 Try.func45 rfl Try.ntmps45 rfl ?_
  refine w_seq ?_
  refine w_region ?_
  refine wl_det rfl rfl rfl (op_assign rfl) ?_
  refine wl_nil ?_
  refine st_tn ?_
  refine w_seq ?_
  refine w_region ?_
  refine wl_op [] rfl rfl rfl rfl (op_alloc (l := 5) tN105wf) ?_
  rintro _ _ ⟨b5, rfl, rfl⟩
  refine wl_nil ?_
  refine st_tn ?_
  refine w_seq ?_
  refine w_seq ?_
  refine w_region ?_
  refine wl_det rfl rfl rfl (op_move rfl) ?_
  refine wl_nil ?_
  refine st_tn ?_
  refine w_block ?_
  refine w_loopQ (X := Nat × Nat) (fun z => z.2 ≤ 6 ∧ z.1 = n / 10 ^ z.2) (fun z => [(1, .int .i64 (z.1)), (7, .int .i64 (z.2))]) (fun z => [(5, cel b5 ((fil n (z.2)).map cu) 105)]) (fun z => 6 - z.2) ((n, 0)) [(0, _), (5, _)] [] [5] rfl (rfl) (.cons rfl (.cons rfl (.nil _))) (.cons rfl (.cons rfl (.nil _))) (by
      try dsimp only
      exact ⟨Nat.zero_le _, by simp⟩) ?_
  rintro ⟨k, i⟩ ⟨hi, hk⟩
  refine w_norm2 (by dsimp only [List.cons_append, List.nil_append]) (by dsimp only [List.cons_append, List.nil_append]) ?_
  try dsimp only at hi hk ⊢
  refine w_seq ?_
  refine w_region ?_
  refine wl_det rfl rfl rfl (op_lss rfl rfl) ?_
  refine wl_nil ?_
  refine st_tn ?_
  refine w_seq ?_
  refine w_cond_d rfl (fun hc8 => ?_) (fun hc8 => ?_)
  · -- c8.t
    have hkb : k ≤ 999999 := by rw [hk]; exact Nat.le_trans (Nat.div_le_self _ _) hn
    refine w_skip ?_
    refine st_tn ?_
    refine w_seq ?_
    refine w_block ?_
    refine w_seq ?_
    refine w_region ?_
    refine wl_det rfl rfl rfl (op_move rfl) ?_
    refine wl_det rfl rfl rfl (op_assign rfl) ?_
    refine wl_nil ?_
    refine st_tn ?_
    refine w_seq ?_
    refine w_region ?_
    refine wl_det rfl rfl rfl (op_move rfl) ?_
    refine wl_det rfl rfl rfl (op_val (v' := .int .i64 ((5 - i : Nat) : Int)) (by rw [show (5 : Int) - i = ((5 - i : Nat) : Int) by omega]) (op_sub' rfl rfl (by omega))) ?_
    refine wl_det rfl rfl rfl (op_move rfl) ?_
    refine wl_det rfl rfl rfl (op_remN rfl rfl (by omega) (by omega)) ?_
    refine wl_det rfl rfl rfl (op_add' rfl rfl (by omega)) ?_
    refine wl_det rfl rfl rfl (op_val (v' := .int .u8 ((UInt8.ofNat (48 + n / 10 ^ i % 10)).toNat : Int)) (by rw [show (48 + (k : Int) % 10).toNat = 48 + n / 10 ^ i % 10 by rw [← hk]; omega]) (op_convU rfl (by rw [Try.underlying3]; rfl) Try.underlying5 (by omega))) ?_
    refine wl_det rfl rfl rfl (op_val (v' := .pointer (some ⟨b5, 5 - i, none⟩)) (by rw [Addr.add_mid, Nat.zero_add, Nat.mul_one]) (op_idxArr (i := 5 - i) rfl rfl tR105wf (by omega))) ?_
    refine wl_op0 [5] rfl rfl rfl (op_store (l := 5) rfl rfl tZ5wf (by rfl) (by rfl) (by rw [List.length_map, len_fil hi]; show 5 - i + 1 ≤ 6; omega)) ?_
    rintro _ _ ⟨rfl, rfl⟩
    refine wl_nil ?_
    refine st_tn ?_
    refine w_region ?_
    refine wl_det rfl rfl rfl (op_move rfl) ?_
    refine wl_det rfl rfl rfl (op_quoN rfl rfl (by omega) (by omega) (by omega)) ?_
    refine wl_det rfl rfl rfl (op_assign rfl) ?_
    refine wl_nil ?_
    refine st_bn ?_
    refine st_tn ?_
    refine w_region ?_
    refine wl_det rfl rfl rfl (op_add' rfl rfl (by omega)) ?_
    refine wl_det rfl rfl rfl (op_move rfl) ?_
    refine wl_nil ?_
    refine st_roundQ (x := (k, i)) ((k / 10, i + 1)) [5] rfl (by show rs [_] = rs [_]; rw [← fil_set (by omega)]; rfl) (.cons rfl (.cons rfl (.nil _))) (.cons rfl (.cons rfl (.nil _))) (by
        try dsimp only
        exact ⟨by omega, by rw [hk, Nat.div_div_eq_div_mul, Nat.pow_succ]⟩) (by
        try dsimp only
        omega) 
  · -- c8.f
    refine w_exit ?_
    refine st_te ?_
    refine st_te ?_
    refine st_be ?_
    refine st_tn ?_
    refine w_seq ?_
    refine w_draw (D := [⟨20, [], [], [], _, false, [], []⟩, ⟨21, [0], [], [], _, false, [], []⟩, ⟨22, [1], [], [], _, false, [], []⟩, ⟨23, [2], [], [], _, false, [], []⟩, ⟨24, [3], [], [], _, false, [], []⟩, ⟨25, [], [], [], _, false, [], []⟩, ⟨26, [5], [], [], _, false, [], []⟩]) [] [0, 5] [⟨20, [], [], false, [], []⟩, ⟨21, [0], [], false, [], []⟩, ⟨22, [1], [], false, [], []⟩, ⟨23, [2], [], false, [], []⟩, ⟨24, [3], [], false, [], []⟩, ⟨25, [], [], false, [], []⟩, ⟨26, [5], [], false, [], []⟩] tMixwf (by rfl) (by kernel_rfl) (by rfl) (by rfl)
        ⟨.plain rfl (by intro X; exact op_move rfl),
        ⟨.plain rfl (by intro X; rintro _ _ ⟨rfl, rfl⟩; exact op_nilCheck rfl),
        ⟨.plain rfl (by intro X; rintro _ _ ⟨rfl, rfl⟩; exact op_fieldAddr (off := 1) rfl tF76_1wf),
        ⟨.plain rfl (by intro X; rintro _ _ ⟨rfl, rfl⟩; exact op_load1 rfl tO9wf (Ent.app (Ent.app (Ent.fld hd 1) X) _)),
        ⟨.plain rfl (by intro X; rintro _ _ ⟨rfl, rfl⟩; exact op_catBs rfl rfl (by simp; omega)),
        ⟨.plain rfl (by intro X; exact op_sliceArr rfl tR105wf (by decide)),
        ⟨.plain rfl (by intro X; rintro _ _ ⟨rfl, rfl⟩; exact op_bytesStr (l := fil n i) rfl Try.underlying27 Try.underlying5 Try.underlying9 (Sl.cellsN 5 rfl (len_fil hi) (by simp [maxLen]))),
        trivial⟩⟩⟩⟩⟩⟩⟩ ?_
    rintro _ _ ⟨rfl, rfl⟩ _ _ ⟨rfl, rfl⟩ _ _ ⟨rfl, rfl⟩ _ _ ⟨rfl, rfl⟩ _ _ ⟨rfl, rfl⟩ _ _ ⟨rfl, rfl⟩ _ _ ⟨rfl, rfl⟩
    refine wl_norm (e' := [(24, _), (26, _)]) (.cons rfl (.cons rfl (.nil _))) (by dsimp only [cond_false, cond_true, List.nil_append, List.cons_append]) ?_
    refine wl_det rfl rfl rfl (op_catBs rfl rfl (by rw [len_fil hi]; simp; omega)) ?_
    refine wl_det rfl rfl rfl (op_assign rfl) ?_
    refine wl_nil ?_
    refine st_tn ?_
    refine w_ret ?_
    refine st_ret (vs := [_]) [] Try.results45 ⟨rfl, trivial⟩ rfl ?_
    refine ⟨_, rfl, ?_⟩
    have hfin : fil n i = dig 6 n := by rw [show i = 6 by omega, fil_six]
    rw [hfin]; exact ⟨rfl, rfl⟩

end Go.Proofs.Ytcbigmgakdanjaa
namespace Go.Proofs.Ytcbigmgakdanjaa
open Go Go.SL Go.RowKit Go.RdM Go.WalM
set_option linter.unusedVariables false
set_option linter.unusedSimpArgs false
theorem tF76_1wg : fieldB Try.prog 76 1 1 = true := by kernel_rfl
theorem tO5wg : oneB Try.prog 5 = true := by kernel_rfl
theorem tO9wg : oneB Try.prog 9 = true := by kernel_rfl
theorem tS27wg : sliceB Try.prog 27 5 1 = true := by kernel_rfl

set_option maxHeartbeats 400000 in
set_option maxRecDepth 100000 in
theorem hasp_any {σ : World} {F : List Res} (s p : RdM.Bs) (hs : s.length ≤ 1099511627776) (hp : p.length ≤ 1099511627776) : FnT Try.prog σ F 92 [.string (str s), .string (str p)] [] (fun u ρ => u = .bool (decide (s.take p.length = p)) ∧ ρ = []) := by
  refine fn_of 18 Try.func92 rfl Try.ntmps92 rfl ?_
  refine w_seq ?_
  refine w_region ?_
  refine wl_det rfl rfl rfl (op_assign rfl) ?_
  refine wl_nil ?_
  refine st_tn ?_
  refine w_seq ?_
  by_cases hl : p.length ≤ s.length
  · -- hl+
    refine w_region ?_
    refine wl_det rfl rfl rfl (op_move rfl) ?_
    refine wl_det rfl rfl rfl (op_lenBs rfl Try.underlying9) ?_
    refine wl_det rfl rfl rfl (op_move rfl) ?_
    refine wl_det rfl rfl rfl (op_lenBs rfl Try.underlying9) ?_
    refine wl_det rfl rfl rfl (op_val (v' := .bool true) (by simp [hl]) (op_geq rfl rfl)) ?_
    refine wl_det rfl rfl rfl (op_move rfl) ?_
    refine wl_wanted_det rfl rfl rfl rfl rfl rfl rfl (op_move rfl) ?_
    refine wl_wanted_det rfl rfl rfl rfl rfl rfl rfl (op_move rfl) ?_
    refine wl_wanted_det rfl rfl rfl rfl rfl rfl rfl (op_lenBs rfl Try.underlying9) ?_
    refine wl_wanted_det rfl rfl rfl rfl rfl rfl rfl (op_sliceRBs rfl rfl Try.underlying9 (by omega)) ?_
    refine wl_wanted_det rfl rfl rfl rfl rfl rfl rfl (op_move rfl) ?_
    refine wl_wanted_det rfl rfl rfl rfl rfl rfl rfl (op_eqBs rfl rfl) ?_
    refine wl_det rfl rfl rfl (op_pick_t rfl rfl) ?_
    refine wl_det rfl rfl rfl (op_assign rfl) ?_
    refine wl_nil ?_
    refine st_tn ?_
    refine w_ret ?_
    refine st_ret (vs := [_]) [] Try.results92 ⟨rfl, trivial⟩ rfl ?_
    refine ⟨_, rfl, ?_⟩
    refine ⟨?_, rfl⟩
    first | rfl | (have : ¬ s.take p.length = p := fun h => by have := congrArg List.length h; rw [List.length_take] at this; omega
                   simp [retv, this])
  · -- hl-
    refine w_region ?_
    refine wl_det rfl rfl rfl (op_move rfl) ?_
    refine wl_det rfl rfl rfl (op_lenBs rfl Try.underlying9) ?_
    refine wl_det rfl rfl rfl (op_move rfl) ?_
    refine wl_det rfl rfl rfl (op_lenBs rfl Try.underlying9) ?_
    refine wl_det rfl rfl rfl (op_val (v' := .bool false) (by simp; omega) (op_geq rfl rfl)) ?_
    refine wl_det rfl rfl rfl (op_move rfl) ?_
    refine wl_unwanted rfl rfl rfl rfl rfl rfl rfl rfl ?_
    refine wl_unwanted rfl rfl rfl rfl rfl rfl rfl rfl ?_
    refine wl_unwanted rfl rfl rfl rfl rfl rfl rfl rfl ?_
    refine wl_unwanted rfl rfl rfl rfl rfl rfl rfl rfl ?_
    refine wl_unwanted rfl rfl rfl rfl rfl rfl rfl rfl ?_
    refine wl_unwanted rfl rfl rfl rfl rfl rfl rfl rfl ?_
    refine wl_det rfl rfl rfl (op_pick_f rfl rfl) ?_
    refine wl_det rfl rfl rfl (op_assign rfl) ?_
    refine wl_nil ?_
    refine st_tn ?_
    refine w_ret ?_
    refine st_ret (vs := [_]) [] Try.results92 ⟨rfl, trivial⟩ rfl ?_
    refine ⟨_, rfl, ?_⟩
    refine ⟨?_, rfl⟩
    first | rfl | (have : ¬ s.take p.length = p := fun h => by have := congrArg List.length h; rw [List.length_take] at this; omega
                   simp [retv, this])

set_option maxHeartbeats 400000 in
set_option maxRecDepth 100000 in
theorem cut0_any {σ : World} {F : List Res} (s p : RdM.Bs) (hs : s.length ≤ 1099511627776) (hp : p.length ≤ 1099511627776) : FnT Try.prog σ F 82 [.string (str s), .string (str p)] [] (fun u ρ => u = .tuple #[.string (str (if s.take p.length = p then s.drop p.length else s)), .bool (decide (s.take p.length = p))] ∧ ρ = []) := by
  refine fn_of 15 Try.func82 rfl Try.ntmps82 rfl ?_
  refine w_seq ?_
  refine w_region ?_
  refine wl_det rfl rfl rfl (op_assign rfl) ?_
  refine wl_det rfl rfl rfl (op_assign rfl) ?_
  refine wl_nil ?_
  refine st_tn ?_
  refine w_seq ?_
  refine w_seq ?_
  refine w_region ?_
  refine wl_det rfl rfl rfl (op_move rfl) ?_
  refine wl_det rfl rfl rfl (op_move rfl) ?_
  refine wl_det rfl rfl rfl (op_fn Try.func92 rfl rfl rfl (hasp_any s p hs hp)) ?_
  refine wl_det rfl rfl rfl (op_not_d rfl) ?_
  refine wl_nil ?_
  refine st_tn ?_
  refine w_cond_d rfl (fun hc9 => ?_) (fun hc9 => ?_)
  · -- c9.t
    refine w_seq ?_
    refine w_region ?_
    refine wl_det rfl rfl rfl (op_move rfl) ?_
    refine wl_det rfl rfl rfl (op_assign rfl) ?_
    refine wl_det rfl rfl rfl (op_assign rfl) ?_
    refine wl_nil ?_
    refine st_tn ?_
    refine w_ret ?_
    refine st_tr ?_
    refine st_ret (vs := [_, _]) [] Try.results82 ⟨rfl, ⟨rfl, trivial⟩⟩ rfl ?_
    refine ⟨_, rfl, ?_⟩
    rw [if_neg hc9, decide_eq_false hc9]; exact ⟨rfl, rfl⟩
  · -- c9.f
    have hc : s.take p.length = p := Classical.not_not.1 hc9
    have hle : p.length ≤ s.length := by have := congrArg List.length hc; rw [List.length_take] at this; omega
    refine w_skip ?_
    refine st_tn ?_
    refine w_seq ?_
    refine w_region ?_
    refine wl_det rfl rfl rfl (op_move rfl) ?_
    refine wl_det rfl rfl rfl (op_move rfl) ?_
    refine wl_det rfl rfl rfl (op_lenBs rfl Try.underlying9) ?_
    refine wl_det rfl rfl rfl (op_sliceLBs rfl rfl Try.underlying9 (by omega)) ?_
    refine wl_det rfl rfl rfl (op_assign rfl) ?_
    refine wl_det rfl rfl rfl (op_assign rfl) ?_
    refine wl_nil ?_
    refine st_tn ?_
    refine w_ret ?_
    refine st_ret (vs := [_, _]) [] Try.results82 ⟨rfl, ⟨rfl, trivial⟩⟩ rfl ?_
    refine ⟨_, rfl, ?_⟩
    rw [if_pos hc, decide_eq_true hc]; exact ⟨rfl, rfl⟩

set_option maxHeartbeats 400000 in
set_option maxRecDepth 100000 in
theorem cutp_any {σ : World} {F : List Res} (s p : RdM.Bs) (hs : s.length ≤ 1099511627776) (hp : p.length ≤ 1099511627776) : FnT Try.prog σ F 70 [.string (str s), .string (str p)] [] (fun u ρ => u = .tuple #[.string (str (if s.take p.length = p then s.drop p.length else s)), .bool (decide (s.take p.length = p))] ∧ ρ = []) := by
  refine fn_of 11 Try.func70 rfl Try.ntmps70 rfl ?_
  refine w_seq ?_
  refine w_region ?_
  refine wl_det rfl rfl rfl (op_assign rfl) ?_
  refine wl_det rfl rfl rfl (op_assign rfl) ?_
  refine wl_nil ?_
  refine st_tn ?_
  refine w_seq ?_
  refine w_region ?_
  refine wl_det rfl rfl rfl (op_move rfl) ?_
  refine wl_det rfl rfl rfl (op_move rfl) ?_
  refine wl_det rfl rfl rfl (op_fn Try.func82 rfl rfl rfl (cut0_any s p hs hp)) ?_
  refine wl_det rfl rfl rfl (op_extract rfl rfl) ?_
  refine wl_det rfl rfl rfl (op_extract rfl rfl) ?_
  refine wl_det rfl rfl rfl (op_assign rfl) ?_
  refine wl_det rfl rfl rfl (op_assign rfl) ?_
  refine wl_nil ?_
  refine st_tn ?_
  refine w_ret ?_
  refine st_ret (vs := [_, _]) [] Try.results70 ⟨rfl, ⟨rfl, trivial⟩⟩ rfl ?_
  refine ⟨_, rfl, ?_⟩
  exact ⟨rfl, rfl⟩

theorem isD_take {s : RdM.Bs} {i : Nat} {b : UInt8} (h : s[i]? = some b) (hn : isD (s.take i)) (hb : 48 ≤ b.toNat ∧ b.toNat ≤ 57) : isD (s.take (i + 1)) := by
  rw [take_snoc h]
  intro q hq
  rcases List.mem_append.1 hq with hq | hq
  · exact hn q hq
  · rw [List.mem_singleton] at hq; subst hq; exact hb
set_option maxHeartbeats 1000000 in
set_option maxRecDepth 100000 in
theorem parse_any {σ : World} {F : List Res} {b d m c cp : Nat} {nm : RdM.Bs} {v : Lr} {a p : Option Addr} (fl : RdM.Bs) (hnm : nm.length ≤ 64) (hfl : fl.length ≤ 1099511627776) (hd : Ent σ F (At ⟨b, 0, none⟩ (cellL d nm v m a c p cp))) :
    FnT Try.prog σ F 52 [.pointer (some ⟨b, 0, none⟩), .string (str fl)] [] (fun u ρ => u = .tuple #[.int .i64 (((parseN nm fl).getD 0 : Nat) : Int), .bool (parseN nm fl).isSome] ∧ ρ = []) := by
  refine fn_of 51 Try.func52 rfl Try.ntmps52 rfl ?_
  refine w_seq ?_
  refine w_region ?_
  refine wl_det rfl rfl rfl (op_assign rfl) ?_
  refine wl_det rfl rfl rfl (op_assign rfl) ?_
  refine wl_nil ?_
  refine st_tn ?_
  refine w_seq ?_
  refine w_region ?_
  refine wl_det rfl rfl rfl (op_move rfl) ?_
  refine wl_det rfl rfl rfl (op_move rfl) ?_
  refine wl_det rfl rfl rfl (op_nilCheck rfl) ?_
  refine wl_det rfl rfl rfl (op_fieldAddr (off := 1) rfl tF76_1wg) ?_
  refine wl_det rfl rfl rfl (op_load1 rfl tO9wg (Ent.app (Ent.fld hd 1) _)) ?_
  refine wl_det rfl rfl rfl (op_catBs rfl rfl (by simp; omega)) ?_
  refine wl_det rfl rfl rfl (op_fn Try.func70 rfl rfl rfl (cutp_any fl (nm ++ [46]) hfl (by simp; omega))) ?_
  refine wl_det rfl rfl rfl (op_move rfl) ?_
  refine wl_det rfl rfl rfl (op_extract rfl rfl) ?_
  refine wl_det rfl rfl rfl (op_extract rfl rfl) ?_
  refine wl_det rfl rfl rfl (op_assign rfl) ?_
  refine wl_det rfl rfl rfl (op_assign rfl) ?_
  refine wl_nil ?_
  refine st_tn ?_
  refine w_seq ?_
  refine w_seq ?_
  by_cases hpf : fl.take (nm ++ [46]).length = nm ++ [46]
  · -- hpf+
    obtain ⟨s, hsd⟩ : ∃ s, s = fl.drop (nm ++ [46]).length := ⟨_, rfl⟩
    have hsl : s.length ≤ 1099511627776 := by rw [hsd, List.length_drop]; omega
    have hif : (if fl.take (nm ++ [46]).length = nm ++ [46] then fl.drop (nm ++ [46]).length else fl) = s := by rw [if_pos hpf, hsd]
    rw [hif]
    refine w_region ?_
    refine wl_det rfl rfl rfl (op_move rfl) ?_
    refine wl_det rfl rfl rfl (op_val (v' := .bool false) (by rw [decide_eq_false (fun h => h hpf)]) (op_not_d rfl)) ?_
    refine wl_det rfl rfl rfl (op_move rfl) ?_
    refine wl_wanted_det rfl rfl rfl rfl rfl rfl rfl (op_move rfl) ?_
    refine wl_wanted_det rfl rfl rfl rfl rfl rfl rfl (op_lenBs rfl Try.underlying9) ?_
    refine wl_wanted_det rfl rfl rfl rfl rfl rfl rfl (op_neq rfl rfl) ?_
    refine wl_det rfl rfl rfl (op_pick_f rfl rfl) ?_
    refine wl_nil ?_
    refine st_tn ?_
    refine w_cond_d rfl (fun hc27 => ?_) (fun hc27 => ?_)
    · -- c27.t
      refine w_seq ?_
      refine w_region ?_
      refine wl_det rfl rfl rfl (op_assign rfl) ?_
      refine wl_det rfl rfl rfl (op_assign rfl) ?_
      refine wl_nil ?_
      refine st_tn ?_
      refine w_ret ?_
      refine st_tr ?_
      refine st_ret (vs := [_, _]) [] Try.results52 ⟨rfl, ⟨rfl, trivial⟩⟩ rfl ?_
      refine ⟨_, rfl, ?_⟩
      have hno : parseN nm fl = none := by unfold parseN; rw [← hsd, if_neg (fun h => by have := h.2.1; omega)]
      rw [hno]; exact ⟨rfl, rfl⟩
    · -- c27.f
      have h6 : s.length = 6 := by omega
      refine w_skip ?_
      refine st_tn ?_
      refine w_seq ?_
      refine w_region ?_
      refine wl_det rfl rfl rfl (op_assign rfl) ?_
      refine wl_nil ?_
      refine st_tn ?_
      refine w_seq ?_
      refine w_seq ?_
      refine w_region ?_
      refine wl_det rfl rfl rfl (op_move rfl) ?_
      refine wl_op [] rfl rfl rfl rfl (op_strBytes (lab := 29) rfl Try.underlying9 Try.underlying27 Try.underlying5 (by unfold maxLen; omega)) ?_
      rintro _ _ ⟨g29, c29, rfl, rfl⟩
      refine wl_det rfl rfl rfl (op_lenT rfl tS27wg (Sl.ent (Sl.labStr 29 rfl (by unfold maxLen; omega)))) ?_
      refine wl_det rfl rfl rfl (op_move rfl) ?_
      refine wl_nil ?_
      refine st_tn ?_
      refine w_block ?_
      refine w_loopQ (X := Nat × Nat) (fun z => z.2 ≤ s.length ∧ isD (s.take z.2) ∧ z.1 = dval (s.take z.2)) (fun z => [(8, .int .i64 (z.1)), (31, .int .i64 (z.2))]) (fun _ => []) (fun z => s.length - z.2) ((0, 0)) [(29, _), (30, _)] [(29, _)] [29] rfl (rfl) (.cons rfl (.cons rfl (.nil _))) (.cons rfl (.cons rfl (.nil _))) (by
          try dsimp only
          exact ⟨Nat.zero_le _, by intro q hq; simp at hq, rfl⟩) ?_
      rintro ⟨n, i⟩ ⟨hi, hisd, hn⟩
      refine w_norm2 (by dsimp only [List.cons_append, List.nil_append]) (by dsimp only [List.cons_append, List.nil_append]) ?_
      try dsimp only at hi hisd hn ⊢
      refine w_seq ?_
      refine w_region ?_
      refine wl_det rfl rfl rfl (op_lss rfl rfl) ?_
      refine wl_nil ?_
      refine st_tn ?_
      refine w_seq ?_
      refine w_cond_d rfl (fun hc32 => ?_) (fun hc32 => ?_)
      · -- c32.t
        obtain ⟨x, hx⟩ := getE (l := s) (i := i) (by omega)
        have hnb : n < 10 ^ 6 := by
          rw [hn]
          refine Nat.lt_of_lt_of_le (dval_lt _ hisd) (Nat.pow_le_pow_right (by omega) ?_)
          rw [List.length_take]; omega
        have hsv : dval (s.take (i + 1)) = 10 * n + (x.toNat - 48) := by rw [take_snoc hx, dval_snoc, hn]
        refine w_skip ?_
        refine st_tn ?_
        refine w_seq ?_
        refine w_block ?_
        refine w_seq ?_
        refine w_region ?_
        refine wl_det rfl rfl rfl (op_idx rfl rfl tS27wg (Sl.ent (Sl.labStr 29 rfl (by unfold maxLen; omega))) (by omega)) ?_
        refine wl_det rfl rfl rfl (op_ldx rfl tO5wg (Sl.labStr 29 rfl (by unfold maxLen; omega)) (by assumption) (by rfl)) ?_
        refine wl_det rfl rfl rfl (op_assign rfl) ?_
        refine wl_nil ?_
        refine st_tn ?_
        refine w_seq ?_
        refine w_seq ?_
        refine w_cutL [(40, .bool (decide (x.toNat < 48 ∨ x.toNat > 57)))] [8, 10, 29, 30, 31] [29] rfl (fun K' hK => ?_) ?_
        · -- cut r8
          refine w_region ?_
          refine wl_det rfl rfl rfl (op_move rfl) ?_
          refine wl_det rfl rfl rfl (op_lss rfl rfl) ?_
          refine wl_det rfl rfl rfl (op_move rfl) ?_
          refine wl_gsplit (t := 37) rfl (fun hg37 => ?_) (fun hg37 => ?_)
          · -- 37 is True
            refine wl_unwanted rfl rfl rfl rfl rfl rfl rfl rfl ?_
            refine wl_unwanted rfl rfl rfl rfl rfl rfl rfl rfl ?_
            refine wl_det rfl rfl rfl (op_pick_t rfl rfl) ?_
            refine wl_nil ?_
            refine st_tn ?_
            exact cut_done1 [29] hK rfl (by first | (rw [decide_eq_decide]; omega) | (symm; rw [decide_eq_false_iff_not]; omega) | (symm; rw [decide_eq_true_iff]; omega) | (simp; done) | (simp; omega) | (simp [*]; done) | (simp [*]; omega)) (by rfl) rfl rfl
          · -- 37 is False
            refine wl_wanted_det rfl rfl rfl rfl rfl rfl rfl (op_move rfl) ?_
            refine wl_wanted_det rfl rfl rfl rfl rfl rfl rfl (op_gtr rfl rfl) ?_
            refine wl_det rfl rfl rfl (op_pick_f rfl rfl) ?_
            refine wl_nil ?_
            refine st_tn ?_
            exact cut_done1 [29] hK rfl (by first | (rw [decide_eq_decide]; omega) | (symm; rw [decide_eq_false_iff_not]; omega) | (symm; rw [decide_eq_true_iff]; omega) | (simp; done) | (simp; omega) | (simp [*]; done) | (simp [*]; omega)) (by rfl) rfl rfl
        · -- behind r8
          show W _ _ _ _ _ [(40, _), (8, _), (10, _), (29, _), (30, _), (31, _)] [(29, _)] _
          refine w_cond_d rfl (fun hc40 => ?_) (fun hc40 => ?_)
          · -- c40.t
            refine w_seq ?_
            refine w_region ?_
            refine wl_det rfl rfl rfl (op_assign rfl) ?_
            refine wl_det rfl rfl rfl (op_assign rfl) ?_
            refine wl_nil ?_
            refine st_tn ?_
            refine w_ret ?_
            refine st_tr ?_
            refine st_br ?_
            refine st_tr ?_
            refine st_tr ?_
            refine st_br ?_
            refine st_tr ?_
            refine st_ret (vs := [_, _]) [] Try.results52 ⟨rfl, ⟨rfl, trivial⟩⟩ rfl ?_
            refine ⟨_, rfl, ?_⟩
            have hno : parseN nm fl = none := by
              unfold parseN; rw [← hsd, if_neg]
              intro h
              have := h.2.2.1 x (List.mem_of_getElem? hx)
              omega
            rw [hno]; exact ⟨rfl, rfl⟩
          · -- c40.f
            refine w_skip ?_
            refine st_tn ?_
            refine w_region ?_
            refine wl_det rfl rfl rfl (op_move rfl) ?_
            refine wl_det rfl rfl rfl (op_mul' rfl rfl (by omega)) ?_
            refine wl_det rfl rfl rfl (op_move rfl) ?_
            refine wl_det rfl rfl rfl (op_sub8 rfl rfl (by omega)) ?_
            refine wl_det rfl rfl rfl (op_convI64 rfl (by rw [Try.underlying5]; rfl) Try.underlying3 (by omega)) ?_
            refine wl_det rfl rfl rfl (op_val (v' := .int .i64 ((dval (s.take (i + 1)) : Nat) : Int)) (by rw [hsv]; congr 1; omega) (op_add' rfl rfl (by omega))) ?_
            refine wl_det rfl rfl rfl (op_assign rfl) ?_
            refine wl_nil ?_
            refine st_bn ?_
            refine st_tn ?_
            refine w_region ?_
            refine wl_det rfl rfl rfl (op_add' rfl rfl (by omega)) ?_
            refine wl_det rfl rfl rfl (op_move rfl) ?_
            refine wl_nil ?_
            refine st_roundQ (x := (n, i)) ((dval (s.take (i + 1)), i + 1)) [29] rfl (rfl) (.cons rfl (.cons rfl (.nil _))) (.cons rfl (.cons rfl (.nil _))) (by
                try dsimp only
                exact ⟨by omega, isD_take hx (by assumption) (by omega), rfl⟩) (by
                try dsimp only
                omega) 
      · -- c32.f
        refine w_exit ?_
        refine st_te ?_
        refine st_te ?_
        refine st_be ?_
        refine st_tn ?_
        refine w_seq ?_
        refine w_region ?_
        refine wl_det rfl rfl rfl (op_move rfl) ?_
        refine wl_det rfl rfl rfl (op_move rfl) ?_
        refine wl_det rfl rfl rfl (op_gtr rfl rfl) ?_
        refine wl_det rfl rfl rfl (op_assign rfl) ?_
        refine wl_det rfl rfl rfl (op_assign rfl) ?_
        refine wl_nil ?_
        refine st_tn ?_
        refine w_ret ?_
        refine st_ret (vs := [_, _]) [] Try.results52 ⟨rfl, ⟨rfl, trivial⟩⟩ rfl ?_
        refine ⟨_, rfl, ?_⟩
        rw [take_all (by omega)] at hn hisd
        have hpn : parseN nm fl = if 0 < n then some n else none := by
          unfold parseN
          rw [← hsd, hn]
          by_cases h0 : 0 < dval s
          · rw [if_pos ⟨hpf, h6, hisd, h0⟩, if_pos h0]
          · rw [if_neg (fun h => h0 h.2.2.2), if_neg h0]
        rw [hpn]
        by_cases h0 : 0 < n
        · rw [if_pos h0, decide_eq_true (by omega)]; exact ⟨rfl, rfl⟩
        · rw [if_neg h0, decide_eq_false (by omega), show n = 0 by omega]; exact ⟨rfl, rfl⟩
  · -- hpf-
    have hno : parseN nm fl = none := by unfold parseN; rw [if_neg (fun h => hpf h.1)]
    refine w_region ?_
    refine wl_det rfl rfl rfl (op_move rfl) ?_
    refine wl_det rfl rfl rfl (op_val (v' := .bool true) (by rw [decide_eq_true hpf]) (op_not_d rfl)) ?_
    refine wl_det rfl rfl rfl (op_move rfl) ?_
    refine wl_unwanted rfl rfl rfl rfl rfl rfl rfl rfl ?_
    refine wl_unwanted rfl rfl rfl rfl rfl rfl rfl rfl ?_
    refine wl_unwanted rfl rfl rfl rfl rfl rfl rfl rfl ?_
    refine wl_det rfl rfl rfl (op_pick_t rfl rfl) ?_
    refine wl_nil ?_
    refine st_tn ?_
    refine w_cond_t (rfl) ?_
    refine w_seq ?_
    refine w_region ?_
    refine wl_det rfl rfl rfl (op_assign rfl) ?_
    refine wl_det rfl rfl rfl (op_assign rfl) ?_
    refine wl_nil ?_
    refine st_tn ?_
    refine w_ret ?_
    refine st_tr ?_
    refine st_ret (vs := [_, _]) [] Try.results52 ⟨rfl, ⟨rfl, trivial⟩⟩ rfl ?_
    refine ⟨_, rfl, ?_⟩
    rw [hno]; exact ⟨rfl, rfl⟩

end Go.Proofs.Ytcbigmgakdanjaa
namespace Go.Proofs.Ytcbigmgakdanjaa
open Go Go.SL Go.RowKit Go.RdM Go.WalM
set_option linter.unusedVariables false
set_option linter.unusedSimpArgs false
theorem tF76_2wh : fieldB Try.prog 76 2 2 = true := by kernel_rfl
theorem tF76_4wh : fieldB Try.prog 76 4 4 = true := by kernel_rfl
theorem tF76_5wh : fieldB Try.prog 76 5 5 = true := by kernel_rfl
theorem tF76_6wh : fieldB Try.prog 76 6 6 = true := by kernel_rfl
theorem tF87_0wh : fieldB Try.prog 87 0 0 = true := by kernel_rfl
theorem tF87_1wh : fieldB Try.prog 87 1 1 = true := by kernel_rfl
theorem tF87_2wh : fieldB Try.prog 87 2 2 = true := by kernel_rfl
theorem tF87_3wh : fieldB Try.prog 87 3 3 = true := by kernel_rfl
theorem tMixwh : Try.prog.follows .mixedOrders = true := by kernel_rfl
theorem tO3wh : oneB Try.prog 3 = true := by kernel_rfl
theorem tO35wh : oneB Try.prog 35 = true := by kernel_rfl
theorem tO4wh : oneB Try.prog 4 = true := by kernel_rfl
theorem tO73wh : oneB Try.prog 73 = true := by kernel_rfl
theorem tS35wh : sliceB Try.prog 35 9 1 = true := by kernel_rfl
theorem tS73wh : sliceB Try.prog 73 87 4 = true := by kernel_rfl
theorem tZ35wh : (Try.prog.info? 35).map (·.size) = some 1 := by kernel_rfl
theorem tZ4wh : (Try.prog.info? 4).map (·.size) = some 1 := by kernel_rfl

theorem celLg {σ : World} {F : List Res} {R : RL} {b T : Nat} {d m c cp : Nat} {nm : RdM.Bs} {v : Lr} {a p : Option Addr} (lab : Nat) (h : getL R lab = some (cel b (cellL d nm v m a c p cp) T)) : Ent σ (rs R ++ F) (At ⟨b, 0, none⟩ (cellL d nm v m a c p cp)) := Ent.lab h (says_cel 0)
def readyL (v : Lr) : Int := if v.broken = true then 18 else 0
set_option maxHeartbeats 400000 in
set_option maxRecDepth 100000 in
theorem lready_any {σ : World} {F : List Res} {b d m c cp : Nat} {nm : RdM.Bs} {v : Lr} {a p : Option Addr} (hd : Ent σ F (At ⟨b, 0, none⟩ (cellL d nm v m a c p cp))) :
    FnT Try.prog σ F 42 [.pointer (some ⟨b, 0, none⟩)] [] (fun u ρ => u = .int .i64 (readyL v) ∧ ρ = []) := by
  refine fn_of 11 Try.func42 rfl Try.ntmps42 rfl ?_
  refine w_seq ?_
  refine w_region ?_
  refine wl_det rfl rfl rfl (op_assign rfl) ?_
  refine wl_nil ?_
  refine st_tn ?_
  refine w_seq ?_
  refine w_block ?_
  refine w_seq ?_
  refine w_region ?_
  refine wl_det rfl rfl rfl (op_move rfl) ?_
  refine wl_det rfl rfl rfl (op_val (v' := .bool false) (by simp) (op_eqPtr rfl Try.underlying23)) ?_
  refine wl_det rfl rfl rfl (op_assign rfl) ?_
  refine wl_nil ?_
  refine st_tn ?_
  refine w_cond_f (rfl) ?_
  refine w_seq ?_
  refine w_region ?_
  refine wl_det rfl rfl rfl (op_move rfl) ?_
  refine wl_det rfl rfl rfl (op_nilCheck rfl) ?_
  refine wl_det rfl rfl rfl (op_fieldAddr (off := 6) rfl tF76_6wh) ?_
  refine wl_det rfl rfl rfl (op_load1 rfl tO4wh (Ent.app (Ent.fld hd 6) _)) ?_
  refine wl_det rfl rfl rfl (op_assign rfl) ?_
  refine wl_nil ?_
  refine st_tn ?_
  refine w_cond rfl (fun hc6 => ?_) (fun hc6 => ?_)
  · -- c6.t
    refine w_seq ?_
    refine w_region ?_
    refine wl_det rfl rfl rfl (op_assign rfl) ?_
    refine wl_nil ?_
    refine st_tn ?_
    refine w_ret ?_
    refine st_br ?_
    refine st_tr ?_
    refine st_ret (vs := [_]) [] Try.results42 ⟨rfl, trivial⟩ rfl ?_
    refine ⟨_, rfl, ?_⟩
    unfold readyL; rw [if_pos (by assumption)]; exact ⟨rfl, rfl⟩
  · -- c6.f
    refine w_skip ?_
    refine st_bn ?_
    refine st_tn ?_
    refine w_seq ?_
    refine w_region ?_
    refine wl_det rfl rfl rfl (op_assign rfl) ?_
    refine wl_nil ?_
    refine st_tn ?_
    refine w_ret ?_
    refine st_ret (vs := [_]) [] Try.results42 ⟨rfl, trivial⟩ rfl ?_
    refine ⟨_, rfl, ?_⟩
    unfold readyL; rw [if_neg (by simpa using hc6)]; exact ⟨rfl, rfl⟩

set_option maxHeartbeats 400000 in
set_option maxRecDepth 100000 in
theorem lready_nil {σ : World} {F : List Res} : FnT Try.prog σ F 42 [.pointer none] [] (fun u ρ => u = .int .i64 1 ∧ ρ = []) := by
  refine fn_of 11 Try.func42 rfl Try.ntmps42 rfl ?_
  refine w_seq ?_
  refine w_region ?_
  refine wl_det rfl rfl rfl (op_assign rfl) ?_
  refine wl_nil ?_
  refine st_tn ?_
  refine w_seq ?_
  refine w_block ?_
  refine w_seq ?_
  refine w_region ?_
  refine wl_det rfl rfl rfl (op_move rfl) ?_
  refine wl_det rfl rfl rfl (op_val (v' := .bool true) (by simp) (op_eqPtr rfl Try.underlying23)) ?_
  refine wl_det rfl rfl rfl (op_assign rfl) ?_
  refine wl_nil ?_
  refine st_tn ?_
  refine w_cond_t (rfl) ?_
  refine w_seq ?_
  refine w_region ?_
  refine wl_det rfl rfl rfl (op_assign rfl) ?_
  refine wl_nil ?_
  refine st_tn ?_
  refine w_ret ?_
  refine st_br ?_
  refine st_tr ?_
  refine st_ret (vs := [_]) [] Try.results42 ⟨rfl, trivial⟩ rfl ?_
  refine ⟨_, rfl, ?_⟩
  exact ⟨rfl, rfl⟩

set_option maxHeartbeats 400000 in
set_option maxRecDepth 100000 in
theorem lfail_any {σ : World} {F : List Res} {b d m c cp : Nat} {nm : RdM.Bs} {v : Lr} {a p : Option Addr} (e : Int) :
    FnT Try.prog σ F 47 [.pointer (some ⟨b, 0, none⟩), .int .i64 e] [(611, cel b (cellL d nm v m a c p cp) 76)] (fun u ρ => u = .int .i64 e ∧ ρ = [(611, cel b (cellL d nm { v with broken := decide (e = 27) } m a c p cp) 76)]) := by
  refine fn_of 11 Try.func47 rfl Try.ntmps47 rfl ?_
  refine w_seq ?_
  refine w_region ?_
  refine wl_det rfl rfl rfl (op_assign rfl) ?_
  refine wl_nil ?_
  refine st_tn ?_
  refine w_seq ?_
  refine w_region ?_
  refine wl_det rfl rfl rfl (op_move rfl) ?_
  refine wl_det rfl rfl rfl (op_move rfl) ?_
  refine wl_det rfl rfl rfl (op_eql rfl rfl) ?_
  refine wl_det rfl rfl rfl (op_nilCheck rfl) ?_
  refine wl_det rfl rfl rfl (op_fieldAddr (off := 6) rfl tF76_6wh) ?_
  refine wl_op0 [611] rfl rfl rfl (op_store rfl rfl tZ4wh (by rfl) (by rfl) (by exact Nat.le_of_ble_eq_true rfl)) ?_
  rintro _ _ ⟨rfl, rfl⟩
  refine wl_nil ?_
  refine st_tn ?_
  refine w_seq ?_
  refine w_region ?_
  refine wl_det rfl rfl rfl (op_move rfl) ?_
  refine wl_det rfl rfl rfl (op_assign rfl) ?_
  refine wl_nil ?_
  refine st_tn ?_
  refine w_ret ?_
  refine st_ret (vs := [_]) [611] Try.results47 ⟨rfl, trivial⟩ rfl ?_
  refine ⟨[(611, _)], rfl, ?_⟩
  exact ⟨rfl, rfl⟩

/-- The number of the last record. -/
def lastV (v : Lr) : Nat := if v.broken = true then 0 else match v.rows.getLast? with | none => 0 | some r => r.2.2.1
theorem lastV_some {v : Lr} (hb : v.broken = false) {r : Nat × Nat × Nat × Nat} (h : v.rows[((v.rows.length : Int) - 1).toNat]? = some r) : lastV v = r.2.2.1 := by
  have : v.rows.getLast? = some r := by rw [List.getLast?_eq_getElem?, ← h]; congr 1; omega
  unfold lastV; rw [if_neg (by simp [hb]), this]
theorem lastV_nil {v : Lr} (h : v.rows.length = 0) : lastV v = 0 := by
  have : v.rows = [] := List.eq_nil_of_length_eq_zero h
  unfold lastV; rw [this]; simp
theorem ready_t {v : Lr} (h : readyL v ≠ 0) : v.broken = true := by unfold readyL at h; by_cases hb : v.broken = true; (· exact hb); (· rw [if_neg hb] at h; exact absurd rfl h)
theorem ready_f {v : Lr} (h : ¬ readyL v ≠ 0) : v.broken = false := by unfold readyL at h; by_cases hb : v.broken = true; (· rw [if_pos hb] at h; simp at h); (· simpa using hb)
-- CALL (*sleuth/wal.Log).ready lready_any (Ent.app hd _)
set_option maxHeartbeats 400000 in
set_option maxRecDepth 100000 in
theorem last_any {σ : World} {F : List Res} {b d m c cp : Nat} {nm : RdM.Bs} {v : Lr} {a p : Option Addr} (hd : Ent σ F (At ⟨b, 0, none⟩ (cellL d nm v m a c p cp))) (hs : Sl σ F encRow 4 (.slice a v.rows.length c) v.rows) :
    FnT Try.prog σ F 17 [.pointer (some ⟨b, 0, none⟩)] [] (fun u ρ => u = .int .i64 (lastV v : Int) ∧ ρ = []) := by
  refine fn_of 27 Try.func17 rfl Try.ntmps17 rfl ?_
  have hle := hs.i64
  refine w_seq ?_
  refine w_region ?_
  refine wl_det rfl rfl rfl (op_assign rfl) ?_
  refine wl_nil ?_
  refine st_tn ?_
  refine w_seq ?_
  refine w_seq ?_
  by_cases hb : v.broken = true
  · -- hb+
    have hr1 : readyL v ≠ 0 := by unfold readyL; rw [if_pos hb]; simp
    refine w_region ?_
    refine wl_det rfl rfl rfl (op_move rfl) ?_
    refine wl_det rfl rfl rfl (op_fn Try.func42 rfl rfl rfl (lready_any (Ent.app hd _))) ?_
    refine wl_det rfl rfl rfl (op_val (v' := .bool true) (by rw [decide_eq_true hr1]) (op_neq rfl rfl)) ?_
    refine wl_det rfl rfl rfl (op_move rfl) ?_
    refine wl_unwanted rfl rfl rfl rfl rfl rfl rfl rfl ?_
    refine wl_unwanted rfl rfl rfl rfl rfl rfl rfl rfl ?_
    refine wl_unwanted rfl rfl rfl rfl rfl rfl rfl rfl ?_
    refine wl_unwanted rfl rfl rfl rfl rfl rfl rfl rfl ?_
    refine wl_unwanted rfl rfl rfl rfl rfl rfl rfl rfl ?_
    refine wl_unwanted rfl rfl rfl rfl rfl rfl rfl rfl ?_
    refine wl_det rfl rfl rfl (op_pick_t rfl rfl) ?_
    refine wl_nil ?_
    refine st_tn ?_
    refine w_cond_t (rfl) ?_
    refine w_seq ?_
    refine w_region ?_
    refine wl_det rfl rfl rfl (op_assign rfl) ?_
    refine wl_nil ?_
    refine st_tn ?_
    refine w_ret ?_
    refine st_tr ?_
    refine st_ret (vs := [_]) [] Try.results17 ⟨rfl, trivial⟩ rfl ?_
    refine ⟨_, rfl, ?_⟩
    have h : lastV v = 0 := by unfold lastV; rw [if_pos hb]
    rw [h]; exact ⟨rfl, rfl⟩
  · -- hb-
    have hb : v.broken = false := by simpa using hb
    have hr1 : readyL v = 0 := by unfold readyL; rw [if_neg (by simp [hb])]
    refine w_region ?_
    refine wl_det rfl rfl rfl (op_move rfl) ?_
    refine wl_det rfl rfl rfl (op_fn Try.func42 rfl rfl rfl (lready_any (Ent.app hd _))) ?_
    refine wl_det rfl rfl rfl (op_val (v' := .bool false) (by rw [hr1]; rfl) (op_neq rfl rfl)) ?_
    refine wl_det rfl rfl rfl (op_move rfl) ?_
    refine wl_wanted_det rfl rfl rfl rfl rfl rfl rfl (op_move rfl) ?_
    refine wl_wanted_det rfl rfl rfl rfl rfl rfl rfl (op_nilCheck rfl) ?_
    refine wl_wanted_det rfl rfl rfl rfl rfl rfl rfl (op_fieldAddr (off := 2) rfl tF76_2wh) ?_
    refine wl_wanted_det rfl rfl rfl rfl rfl rfl rfl (op_load1 rfl tO73wh (Ent.app (Ent.fld hd 2) _)) ?_
    refine wl_wanted_det rfl rfl rfl rfl rfl rfl rfl (op_lenT rfl tS73wh (Sl.ent (by first | exact Sl.app (by assumption) _ | exact Sl.app (Sl.app (by assumption) _) _))) ?_
    refine wl_wanted_det rfl rfl rfl rfl rfl rfl rfl (op_eql rfl rfl) ?_
    refine wl_det rfl rfl rfl (op_pick_f rfl rfl) ?_
    refine wl_nil ?_
    refine st_tn ?_
    refine w_cond_d rfl (fun hc13 => ?_) (fun hc13 => ?_)
    · -- c13.t
      refine w_seq ?_
      refine w_region ?_
      refine wl_det rfl rfl rfl (op_assign rfl) ?_
      refine wl_nil ?_
      refine st_tn ?_
      refine w_ret ?_
      refine st_tr ?_
      refine st_ret (vs := [_]) [] Try.results17 ⟨rfl, trivial⟩ rfl ?_
      refine ⟨_, rfl, ?_⟩
      rw [lastV_nil (by omega)]; exact ⟨rfl, rfl⟩
    · -- c13.f
      refine w_skip ?_
      refine st_tn ?_
      refine w_seq ?_
      obtain ⟨r, hr⟩ := getE (l := v.rows) (i := ((v.rows.length : Int) - 1).toNat) (by omega)
      refine w_draw (D := [⟨14, [], [], [], _, false, [], []⟩, ⟨15, [0], [], [], _, false, [], []⟩, ⟨16, [1], [], [], _, false, [], []⟩, ⟨17, [2], [], [], _, false, [], []⟩, ⟨18, [], [], [], _, false, [], []⟩, ⟨19, [4], [], [], _, false, [], []⟩, ⟨20, [5], [], [], _, false, [], []⟩, ⟨21, [6], [], [], _, false, [], []⟩, ⟨22, [7], [], [], _, false, [], []⟩, ⟨23, [8], [], [], _, false, [], []⟩]) [] [0] [⟨14, [], [], false, [], []⟩, ⟨15, [0], [], false, [], []⟩, ⟨16, [1], [], false, [], []⟩, ⟨17, [2], [], false, [], []⟩, ⟨18, [], [], false, [], []⟩, ⟨19, [4], [], false, [], []⟩, ⟨20, [5], [], false, [], []⟩, ⟨21, [6], [], false, [], []⟩, ⟨22, [7], [], false, [], []⟩, ⟨23, [8], [], false, [], []⟩] tMixwh (by rfl) (by kernel_rfl) (by rfl) (by rfl)
          ⟨.plain rfl (by intro X; exact op_move rfl),
          ⟨.plain rfl (by intro X; rintro _ _ ⟨rfl, rfl⟩; exact op_nilCheck rfl),
          ⟨.plain rfl (by intro X; rintro _ _ ⟨rfl, rfl⟩; exact op_fieldAddr (off := 2) rfl tF76_2wh),
          ⟨.plain rfl (by intro X; rintro _ _ ⟨rfl, rfl⟩; exact op_load1 rfl tO73wh (Ent.app (Ent.app (Ent.fld hd 2) X) _)),
          ⟨.plain rfl (by intro X; exact op_move rfl),
          ⟨.plain rfl (by intro X; rintro _ _ ⟨rfl, rfl⟩; exact op_nilCheck rfl),
          ⟨.plain rfl (by intro X; rintro _ _ ⟨rfl, rfl⟩; exact op_fieldAddr (off := 2) rfl tF76_2wh),
          ⟨.plain rfl (by intro X; rintro _ _ ⟨rfl, rfl⟩; exact op_load1 rfl tO73wh (Ent.app (Ent.app (Ent.fld hd 2) X) _)),
          ⟨.plain rfl (by intro X; rintro _ _ ⟨rfl, rfl⟩; exact op_lenT rfl tS73wh (Sl.ent (by first | exact Sl.app (by assumption) _ | exact Sl.app (Sl.app (by assumption) _) _))),
          ⟨.plain rfl (by intro X; rintro _ _ ⟨rfl, rfl⟩; exact op_sub' rfl rfl (by omega)),
          trivial⟩⟩⟩⟩⟩⟩⟩⟩⟩⟩ ?_
      rintro _ _ ⟨rfl, rfl⟩ _ _ ⟨rfl, rfl⟩ _ _ ⟨rfl, rfl⟩ _ _ ⟨rfl, rfl⟩ _ _ ⟨rfl, rfl⟩ _ _ ⟨rfl, rfl⟩ _ _ ⟨rfl, rfl⟩ _ _ ⟨rfl, rfl⟩ _ _ ⟨rfl, rfl⟩ _ _ ⟨rfl, rfl⟩
      refine wl_norm (e' := [(17, _), (23, _)]) (.cons rfl (.cons rfl (.nil _))) (by dsimp only [cond_false, cond_true, List.nil_append, List.cons_append]) ?_
      refine wl_det rfl rfl rfl (op_idxZ rfl rfl tS73wh (Sl.ent (by first | exact Sl.app (by assumption) _ | exact Sl.app (Sl.app (by assumption) _) _)) (by omega) (by omega)) ?_
      refine wl_det rfl rfl rfl (op_fieldAddr (off := 2) rfl tF87_2wh) ?_
      refine wl_det rfl rfl rfl (op_ldxf rfl tO3wh (by first | exact Sl.app (by assumption) _ | exact Sl.app (Sl.app (by assumption) _) _) (by assumption) (by rfl)) ?_
      refine wl_det rfl rfl rfl (op_assign rfl) ?_
      refine wl_nil ?_
      refine st_tn ?_
      refine w_ret ?_
      refine st_ret (vs := [_]) [] Try.results17 ⟨rfl, trivial⟩ rfl ?_
      refine ⟨_, rfl, ?_⟩
      rw [lastV_some hb hr]; exact ⟨rfl, rfl⟩

/-- The number of the first record. -/
def firstV (v : Lr) : Nat := if v.broken = true then 0 else match v.rows.head? with | none => 1 | some r => r.2.1
theorem firstV_some {v : Lr} (hb : v.broken = false) {r : Nat × Nat × Nat × Nat} (h : v.rows[0]? = some r) : firstV v = r.2.1 := by
  unfold firstV; rw [if_neg (by simp [hb]), List.head?_eq_getElem?, h]
theorem firstV_nil {v : Lr} (hb : v.broken = false) (h : v.rows.length = 0) : firstV v = 1 := by
  have : v.rows = [] := List.eq_nil_of_length_eq_zero h
  unfold firstV; rw [if_neg (by simp [hb]), this]; rfl
set_option maxHeartbeats 400000 in
set_option maxRecDepth 100000 in
theorem first_any {σ : World} {F : List Res} {b d m c cp : Nat} {nm : RdM.Bs} {v : Lr} {a p : Option Addr} (hd : Ent σ F (At ⟨b, 0, none⟩ (cellL d nm v m a c p cp))) (hs : Sl σ F encRow 4 (.slice a v.rows.length c) v.rows) :
    FnT Try.prog σ F 35 [.pointer (some ⟨b, 0, none⟩)] [] (fun u ρ => u = .int .i64 (firstV v : Int) ∧ ρ = []) := by
  refine fn_of 21 Try.func35 rfl Try.ntmps35 rfl ?_
  have hle := hs.i64
  refine w_seq ?_
  refine w_region ?_
  refine wl_det rfl rfl rfl (op_assign rfl) ?_
  refine wl_nil ?_
  refine st_tn ?_
  refine w_seq ?_
  refine w_block ?_
  refine w_seq ?_
  refine w_region ?_
  refine wl_det rfl rfl rfl (op_move rfl) ?_
  refine wl_det rfl rfl rfl (op_fn Try.func42 rfl rfl rfl (lready_any (Ent.app hd _))) ?_
  refine wl_det rfl rfl rfl (op_neq rfl rfl) ?_
  refine wl_det rfl rfl rfl (op_assign rfl) ?_
  refine wl_nil ?_
  refine st_tn ?_
  refine w_cond_d rfl (fun hc3 => ?_) (fun hc3 => ?_)
  · -- c3.t
    refine w_seq ?_
    refine w_region ?_
    refine wl_det rfl rfl rfl (op_assign rfl) ?_
    refine wl_nil ?_
    refine st_tn ?_
    refine w_ret ?_
    refine st_br ?_
    refine st_tr ?_
    refine st_ret (vs := [_]) [] Try.results35 ⟨rfl, trivial⟩ rfl ?_
    refine ⟨_, rfl, ?_⟩
    have h : firstV v = 0 := by unfold firstV; rw [if_pos (ready_t hc3)]
    rw [h]; exact ⟨rfl, rfl⟩
  · -- c3.f
    have hb := ready_f hc3
    refine w_seq ?_
    refine w_region ?_
    refine wl_det rfl rfl rfl (op_move rfl) ?_
    refine wl_det rfl rfl rfl (op_nilCheck rfl) ?_
    refine wl_det rfl rfl rfl (op_fieldAddr (off := 2) rfl tF76_2wh) ?_
    refine wl_det rfl rfl rfl (op_load1 rfl tO73wh (Ent.app (Ent.fld hd 2) _)) ?_
    refine wl_det rfl rfl rfl (op_lenT rfl tS73wh (Sl.ent (by first | exact Sl.app (by assumption) _ | exact Sl.app (Sl.app (by assumption) _) _))) ?_
    refine wl_det rfl rfl rfl (op_eql rfl rfl) ?_
    refine wl_det rfl rfl rfl (op_assign rfl) ?_
    refine wl_nil ?_
    refine st_tn ?_
    refine w_cond_d rfl (fun hc7 => ?_) (fun hc7 => ?_)
    · -- c7.t
      refine w_seq ?_
      refine w_region ?_
      refine wl_det rfl rfl rfl (op_assign rfl) ?_
      refine wl_nil ?_
      refine st_tn ?_
      refine w_ret ?_
      refine st_br ?_
      refine st_tr ?_
      refine st_ret (vs := [_]) [] Try.results35 ⟨rfl, trivial⟩ rfl ?_
      refine ⟨_, rfl, ?_⟩
      rw [firstV_nil hb (by omega)]; exact ⟨rfl, rfl⟩
    · -- c7.f
      refine w_skip ?_
      refine st_bn ?_
      refine st_tn ?_
      refine w_seq ?_
      obtain ⟨r, hr⟩ := getE (l := v.rows) (i := 0) (by omega)
      refine w_region ?_
      refine wl_det rfl rfl rfl (op_move rfl) ?_
      refine wl_det rfl rfl rfl (op_nilCheck rfl) ?_
      refine wl_det rfl rfl rfl (op_fieldAddr (off := 2) rfl tF76_2wh) ?_
      refine wl_det rfl rfl rfl (op_load1 rfl tO73wh (Ent.app (Ent.fld hd 2) _)) ?_
      refine wl_det rfl rfl rfl (op_idx (i := 0) rfl rfl tS73wh (Sl.ent (Sl.app hs _)) (by omega)) ?_
      refine wl_det rfl rfl rfl (op_fieldAddr (off := 1) rfl tF87_1wh) ?_
      refine wl_det rfl rfl rfl (op_ldxf rfl tO3wh (by first | exact Sl.app (by assumption) _ | exact Sl.app (Sl.app (by assumption) _) _) (by assumption) (by rfl)) ?_
      refine wl_det rfl rfl rfl (op_assign rfl) ?_
      refine wl_nil ?_
      refine st_tn ?_
      refine w_ret ?_
      refine st_ret (vs := [_]) [] Try.results35 ⟨rfl, trivial⟩ rfl ?_
      refine ⟨_, rfl, ?_⟩
      rw [firstV_some hb hr]; exact ⟨rfl, rfl⟩

set_option maxHeartbeats 400000 in
set_option maxRecDepth 100000 in
theorem pending_any {σ : World} {F : List Res} {b d m c cp : Nat} {nm : RdM.Bs} {v : Lr} {a p : Option Addr} (hd : Ent σ F (At ⟨b, 0, none⟩ (cellL d nm v m a c p cp))) (hp : Sl σ F encT 1 (.slice p v.pend.length cp) v.pend) :
    FnT Try.prog σ F 21 [.pointer (some ⟨b, 0, none⟩)] [] (fun u ρ => u = .int .i64 ((if v.broken = true then 0 else v.pend.length : Nat) : Int) ∧ ρ = []) := by
  refine fn_of 11 Try.func21 rfl Try.ntmps21 rfl ?_
  refine w_seq ?_
  refine w_region ?_
  refine wl_det rfl rfl rfl (op_assign rfl) ?_
  refine wl_nil ?_
  refine st_tn ?_
  refine w_seq ?_
  refine w_seq ?_
  refine w_region ?_
  refine wl_det rfl rfl rfl (op_move rfl) ?_
  refine wl_det rfl rfl rfl (op_fn Try.func42 rfl rfl rfl (lready_any (Ent.app hd _))) ?_
  refine wl_det rfl rfl rfl (op_neq rfl rfl) ?_
  refine wl_nil ?_
  refine st_tn ?_
  refine w_cond_d rfl (fun hc5 => ?_) (fun hc5 => ?_)
  · -- c5.t
    refine w_seq ?_
    refine w_region ?_
    refine wl_det rfl rfl rfl (op_assign rfl) ?_
    refine wl_nil ?_
    refine st_tn ?_
    refine w_ret ?_
    refine st_tr ?_
    refine st_ret (vs := [_]) [] Try.results21 ⟨rfl, trivial⟩ rfl ?_
    refine ⟨_, rfl, ?_⟩
    rw [if_pos (ready_t hc5)]; exact ⟨rfl, rfl⟩
  · -- c5.f
    refine w_skip ?_
    refine st_tn ?_
    refine w_seq ?_
    refine w_region ?_
    refine wl_det rfl rfl rfl (op_move rfl) ?_
    refine wl_det rfl rfl rfl (op_nilCheck rfl) ?_
    refine wl_det rfl rfl rfl (op_fieldAddr (off := 4) rfl tF76_4wh) ?_
    refine wl_det rfl rfl rfl (op_load1 rfl tO35wh (Ent.app (Ent.fld hd 4) _)) ?_
    refine wl_det rfl rfl rfl (op_lenT rfl tS35wh (Sl.ent (by first | exact Sl.app (by assumption) _ | exact Sl.app (Sl.app (by assumption) _) _))) ?_
    refine wl_det rfl rfl rfl (op_assign rfl) ?_
    refine wl_nil ?_
    refine st_tn ?_
    refine w_ret ?_
    refine st_ret (vs := [_]) [] Try.results21 ⟨rfl, trivial⟩ rfl ?_
    refine ⟨_, rfl, ?_⟩
    rw [if_neg (by simp [ready_f hc5])]; exact ⟨rfl, rfl⟩

def discV (v : Lr) : Lr := if v.broken = true then v else { v with pend := [] }
-- CALL (*sleuth/wal.Log).ready lready_any (celLg 611 rfl)
set_option maxHeartbeats 400000 in
set_option maxRecDepth 100000 in
theorem discard_any {σ : World} {F : List Res} {b d m c cp : Nat} {nm : RdM.Bs} {v : Lr} {a p : Option Addr} :
    FnT Try.prog σ F 23 [.pointer (some ⟨b, 0, none⟩)] [(611, cel b (cellL d nm v m a c p cp) 76), (614, slW 9 encT 1 (.slice p v.pend.length cp) v.pend)] (fun u ρ => ∃ p' cp', u = .int .i64 (readyL v) ∧ ρ = [(611, cel b (cellL d nm (discV v) m a c p' cp') 76), (614, slW 9 encT 1 (.slice p' (discV v).pend.length cp') (discV v).pend)]) := by
  refine fn_of 12 Try.func23 rfl Try.ntmps23 rfl ?_
  refine w_seq ?_
  refine w_region ?_
  refine wl_det rfl rfl rfl (op_assign rfl) ?_
  refine wl_nil ?_
  refine st_tn ?_
  refine w_seq ?_
  refine w_seq ?_
  refine w_region ?_
  refine wl_det rfl rfl rfl (op_move rfl) ?_
  refine wl_det rfl rfl rfl (op_fn Try.func42 rfl rfl rfl (lready_any (celLg 611 rfl))) ?_
  refine wl_det rfl rfl rfl (op_assign rfl) ?_
  refine wl_nil ?_
  refine st_tn ?_
  refine w_seq ?_
  refine w_region ?_
  refine wl_det rfl rfl rfl (op_move rfl) ?_
  refine wl_det rfl rfl rfl (op_neq rfl rfl) ?_
  refine wl_nil ?_
  refine st_tn ?_
  refine w_cond_d rfl (fun hc7 => ?_) (fun hc7 => ?_)
  · -- c7.t
    refine w_seq ?_
    refine w_region ?_
    refine wl_det rfl rfl rfl (op_move rfl) ?_
    refine wl_det rfl rfl rfl (op_assign rfl) ?_
    refine wl_nil ?_
    refine st_tn ?_
    refine w_ret ?_
    refine st_tr ?_
    refine st_ret (vs := [_]) [611, 614] Try.results23 ⟨rfl, trivial⟩ rfl ?_
    refine ⟨[(611, _), (614, _)], rfl, ?_⟩
    have h : discV v = v := by unfold discV; rw [if_pos (ready_t hc7)]
    rw [h]; exact ⟨p, cp, rfl, rfl⟩
  · -- c7.f
    refine w_skip ?_
    refine st_tn ?_
    refine w_seq ?_
    refine w_region ?_
    refine wl_det rfl rfl rfl (op_move rfl) ?_
    refine wl_det rfl rfl rfl (op_nilCheck rfl) ?_
    refine wl_det rfl rfl rfl (op_fieldAddr (off := 4) rfl tF76_4wh) ?_
    refine wl_op0 [611] rfl rfl rfl (op_store rfl rfl tZ35wh (by rfl) (by rfl) (by exact Nat.le_of_ble_eq_true rfl)) ?_
    rintro _ _ ⟨rfl, rfl⟩
    refine wl_nil ?_
    refine st_tn ?_
    refine w_seq ?_
    refine w_emp 615 (slO_nil 9 1) ?_
    refine w_region ?_
    refine wl_det rfl rfl rfl (op_assign rfl) ?_
    refine wl_nil ?_
    refine st_tn ?_
    refine w_ret ?_
    refine st_ret (vs := [_]) [611, 615] Try.results23 ⟨rfl, trivial⟩ rfl ?_
    refine ⟨[(611, _), (614, _)], rfl, ?_⟩
    have hb := ready_f hc7
    have h : discV v = { v with pend := [] } := by unfold discV; rw [if_neg (by simp [hb])]
    have h2 : readyL v = 0 := by unfold readyL; rw [if_neg (by simp [hb])]
    rw [h, h2]; exact ⟨none, 0, rfl, rfl⟩

/-- The number of the segment of the next group. -/
def nextV (v : Lr) : Nat := match v.rows.getLast? with | none => 1 | some r => if v.fresh = true ∨ 8 ≤ r.2.2.2 then r.1 + 1 else r.1
theorem nextV_nil {v : Lr} (h : v.rows.length = 0) : nextV v = 1 := by
  have : v.rows = [] := List.eq_nil_of_length_eq_zero h
  unfold nextV; rw [this]; rfl
theorem nextV_some {v : Lr} {r : Nat × Nat × Nat × Nat} (h : v.rows[((v.rows.length : Int) - 1).toNat]? = some r) (hl : 0 < v.rows.length) : nextV v = if v.fresh = true ∨ 8 ≤ r.2.2.2 then r.1 + 1 else r.1 := by
  have : v.rows.getLast? = some r := by rw [List.getLast?_eq_getElem?, ← h]; congr 1; omega
  unfold nextV; rw [this]
set_option maxHeartbeats 400000 in
set_option maxRecDepth 100000 in
theorem next_any {σ : World} {F : List Res} {b d m c cp : Nat} {nm : RdM.Bs} {v : Lr} {a p : Option Addr} (hd : Ent σ F (At ⟨b, 0, none⟩ (cellL d nm v m a c p cp))) (hs : Sl σ F encRow 4 (.slice a v.rows.length c) v.rows) (hn : ∀ r ∈ v.rows, r.1 ≤ 999999) :
    FnT Try.prog σ F 43 [.pointer (some ⟨b, 0, none⟩)] [] (fun u ρ => u = .int .i64 (nextV v : Int) ∧ ρ = []) := by
  refine fn_of 48 Try.func43 rfl Try.ntmps43 rfl ?_
  have hle := hs.i64
  refine w_seq ?_
  refine w_region ?_
  refine wl_det rfl rfl rfl (op_assign rfl) ?_
  refine wl_nil ?_
  refine st_tn ?_
  refine w_seq ?_
  refine w_region ?_
  refine wl_det rfl rfl rfl (op_move rfl) ?_
  refine wl_det rfl rfl rfl (op_nilCheck rfl) ?_
  refine wl_det rfl rfl rfl (op_fieldAddr (off := 2) rfl tF76_2wh) ?_
  refine wl_det rfl rfl rfl (op_load1 rfl tO73wh (Ent.app (Ent.fld hd 2) _)) ?_
  refine wl_det rfl rfl rfl (op_lenT rfl tS73wh (Sl.ent (by first | exact Sl.app (by assumption) _ | exact Sl.app (Sl.app (by assumption) _) _))) ?_
  refine wl_det rfl rfl rfl (op_assign rfl) ?_
  refine wl_nil ?_
  refine st_tn ?_
  refine w_seq ?_
  refine w_block ?_
  refine w_seq ?_
  refine w_region ?_
  refine wl_det rfl rfl rfl (op_move rfl) ?_
  refine wl_det rfl rfl rfl (op_eql rfl rfl) ?_
  refine wl_det rfl rfl rfl (op_assign rfl) ?_
  refine wl_nil ?_
  refine st_tn ?_
  refine w_cond_d rfl (fun hc9 => ?_) (fun hc9 => ?_)
  · -- c9.t
    refine w_seq ?_
    refine w_region ?_
    refine wl_det rfl rfl rfl (op_assign rfl) ?_
    refine wl_nil ?_
    refine st_tn ?_
    refine w_ret ?_
    refine st_br ?_
    refine st_tr ?_
    refine st_ret (vs := [_]) [] Try.results43 ⟨rfl, trivial⟩ rfl ?_
    refine ⟨_, rfl, ?_⟩
    rw [nextV_nil (by omega)]; exact ⟨rfl, rfl⟩
  · -- c9.f
    refine w_seq ?_
    obtain ⟨r, hr⟩ := getE (l := v.rows) (i := ((v.rows.length : Int) - 1).toNat) (by omega)
    have hrn := hn r (List.mem_of_getElem? hr)
    have hnx := nextV_some hr (by omega)
    by_cases hf : v.fresh = true
    · -- hf+
      refine w_region ?_
      refine wl_det rfl rfl rfl (op_move rfl) ?_
      refine wl_det rfl rfl rfl (op_nilCheck rfl) ?_
      refine wl_det rfl rfl rfl (op_fieldAddr (off := 5) rfl tF76_5wh) ?_
      refine wl_det rfl rfl rfl (op_val (v' := .bool true) (by rw [hf]) (op_load1 rfl tO4wh (Ent.app (Ent.fld hd 5) _))) ?_
      refine wl_det rfl rfl rfl (op_move rfl) ?_
      refine wl_unwanted rfl rfl rfl rfl rfl rfl rfl rfl ?_
      refine wl_unwanted rfl rfl rfl rfl rfl rfl rfl rfl ?_
      refine wl_unwanted rfl rfl rfl rfl rfl rfl rfl rfl ?_
      refine wl_unwanted rfl rfl rfl rfl rfl rfl rfl rfl ?_
      refine wl_unwanted rfl rfl rfl rfl rfl rfl rfl rfl ?_
      refine wl_unwanted rfl rfl rfl rfl rfl rfl rfl rfl ?_
      refine wl_unwanted rfl rfl rfl rfl rfl rfl rfl rfl ?_
      refine wl_unwanted rfl rfl rfl rfl rfl rfl rfl rfl ?_
      refine wl_unwanted rfl rfl rfl rfl rfl rfl rfl rfl ?_
      refine wl_unwanted rfl rfl rfl rfl rfl rfl rfl rfl ?_
      refine wl_det rfl rfl rfl (op_pick_t rfl rfl) ?_
      refine wl_det rfl rfl rfl (op_assign rfl) ?_
      refine wl_nil ?_
      refine st_tn ?_
      refine w_cond_t (rfl) ?_
      refine w_seq ?_
      refine w_region ?_
      refine wl_det rfl rfl rfl (op_move rfl) ?_
      refine wl_det rfl rfl rfl (op_nilCheck rfl) ?_
      refine wl_det rfl rfl rfl (op_fieldAddr (off := 2) rfl tF76_2wh) ?_
      refine wl_det rfl rfl rfl (op_load1 rfl tO73wh (Ent.app (Ent.fld hd 2) _)) ?_
      refine wl_det rfl rfl rfl (op_move rfl) ?_
      refine wl_det rfl rfl rfl (op_sub' rfl rfl (by omega)) ?_
      refine wl_det rfl rfl rfl (op_idxZ rfl rfl tS73wh (Sl.ent (by first | exact Sl.app (by assumption) _ | exact Sl.app (Sl.app (by assumption) _) _)) (by omega) (by omega)) ?_
      refine wl_det rfl rfl rfl (op_fieldAddr (off := 0) rfl tF87_0wh) ?_
      refine wl_det rfl rfl rfl (op_ldxf rfl tO3wh (by first | exact Sl.app (by assumption) _ | exact Sl.app (Sl.app (by assumption) _) _) (by assumption) (by rfl)) ?_
      refine wl_det rfl rfl rfl (op_add' rfl rfl (by omega)) ?_
      refine wl_det rfl rfl rfl (op_assign rfl) ?_
      refine wl_nil ?_
      refine st_tn ?_
      refine w_ret ?_
      refine st_br ?_
      refine st_tr ?_
      refine st_ret (vs := [_]) [] Try.results43 ⟨rfl, trivial⟩ rfl ?_
      refine ⟨_, rfl, ?_⟩
      rw [hnx, if_pos (.inl hf)]; exact ⟨rfl, rfl⟩
    · -- hf-
      have hf : v.fresh = false := by simpa using hf
      refine w_region ?_
      refine wl_det rfl rfl rfl (op_move rfl) ?_
      refine wl_det rfl rfl rfl (op_nilCheck rfl) ?_
      refine wl_det rfl rfl rfl (op_fieldAddr (off := 5) rfl tF76_5wh) ?_
      refine wl_det rfl rfl rfl (op_val (v' := .bool false) (by rw [hf]) (op_load1 rfl tO4wh (Ent.app (Ent.fld hd 5) _))) ?_
      refine wl_det rfl rfl rfl (op_move rfl) ?_
      refine wl_wanted_det rfl rfl rfl rfl rfl rfl rfl (op_move rfl) ?_
      refine wl_wanted_det rfl rfl rfl rfl rfl rfl rfl (op_nilCheck rfl) ?_
      refine wl_wanted_det rfl rfl rfl rfl rfl rfl rfl (op_fieldAddr (off := 2) rfl tF76_2wh) ?_
      refine wl_wanted_det rfl rfl rfl rfl rfl rfl rfl (op_load1 rfl tO73wh (Ent.app (Ent.fld hd 2) _)) ?_
      refine wl_wanted_det rfl rfl rfl rfl rfl rfl rfl (op_move rfl) ?_
      refine wl_wanted_det rfl rfl rfl rfl rfl rfl rfl (op_sub' rfl rfl (by omega)) ?_
      refine wl_wanted_det rfl rfl rfl rfl rfl rfl rfl (op_idxZ rfl rfl tS73wh (Sl.ent (by first | exact Sl.app (by assumption) _ | exact Sl.app (Sl.app (by assumption) _) _)) (by omega) (by omega)) ?_
      refine wl_wanted_det rfl rfl rfl rfl rfl rfl rfl (op_fieldAddr (off := 3) rfl tF87_3wh) ?_
      refine wl_wanted_det rfl rfl rfl rfl rfl rfl rfl (op_ldxf rfl tO3wh (by first | exact Sl.app (by assumption) _ | exact Sl.app (Sl.app (by assumption) _) _) (by assumption) (by rfl)) ?_
      refine wl_wanted_det rfl rfl rfl rfl rfl rfl rfl (op_geq rfl rfl) ?_
      refine wl_det rfl rfl rfl (op_pick_f rfl rfl) ?_
      refine wl_det rfl rfl rfl (op_assign rfl) ?_
      refine wl_nil ?_
      refine st_tn ?_
      refine w_cond_d rfl (fun hc12 => ?_) (fun hc12 => ?_)
      · -- c12.t
        refine w_seq ?_
        refine w_region ?_
        refine wl_det rfl rfl rfl (op_move rfl) ?_
        refine wl_det rfl rfl rfl (op_nilCheck rfl) ?_
        refine wl_det rfl rfl rfl (op_fieldAddr (off := 2) rfl tF76_2wh) ?_
        refine wl_det rfl rfl rfl (op_load1 rfl tO73wh (Ent.app (Ent.fld hd 2) _)) ?_
        refine wl_det rfl rfl rfl (op_move rfl) ?_
        refine wl_det rfl rfl rfl (op_sub' rfl rfl (by omega)) ?_
        refine wl_det rfl rfl rfl (op_idxZ rfl rfl tS73wh (Sl.ent (by first | exact Sl.app (by assumption) _ | exact Sl.app (Sl.app (by assumption) _) _)) (by omega) (by omega)) ?_
        refine wl_det rfl rfl rfl (op_fieldAddr (off := 0) rfl tF87_0wh) ?_
        refine wl_det rfl rfl rfl (op_ldxf rfl tO3wh (by first | exact Sl.app (by assumption) _ | exact Sl.app (Sl.app (by assumption) _) _) (by assumption) (by rfl)) ?_
        refine wl_det rfl rfl rfl (op_add' rfl rfl (by omega)) ?_
        refine wl_det rfl rfl rfl (op_assign rfl) ?_
        refine wl_nil ?_
        refine st_tn ?_
        refine w_ret ?_
        refine st_br ?_
        refine st_tr ?_
        refine st_ret (vs := [_]) [] Try.results43 ⟨rfl, trivial⟩ rfl ?_
        refine ⟨_, rfl, ?_⟩
        rw [hnx, if_pos (.inr (by omega))]; exact ⟨rfl, rfl⟩
      · -- c12.f
        refine w_skip ?_
        refine st_bn ?_
        refine st_tn ?_
        refine w_seq ?_
        refine w_region ?_
        refine wl_det rfl rfl rfl (op_move rfl) ?_
        refine wl_det rfl rfl rfl (op_nilCheck rfl) ?_
        refine wl_det rfl rfl rfl (op_fieldAddr (off := 2) rfl tF76_2wh) ?_
        refine wl_det rfl rfl rfl (op_load1 rfl tO73wh (Ent.app (Ent.fld hd 2) _)) ?_
        refine wl_det rfl rfl rfl (op_move rfl) ?_
        refine wl_det rfl rfl rfl (op_sub' rfl rfl (by omega)) ?_
        refine wl_det rfl rfl rfl (op_idxZ rfl rfl tS73wh (Sl.ent (by first | exact Sl.app (by assumption) _ | exact Sl.app (Sl.app (by assumption) _) _)) (by omega) (by omega)) ?_
        refine wl_det rfl rfl rfl (op_fieldAddr (off := 0) rfl tF87_0wh) ?_
        refine wl_det rfl rfl rfl (op_ldxf rfl tO3wh (by first | exact Sl.app (by assumption) _ | exact Sl.app (Sl.app (by assumption) _) _) (by assumption) (by rfl)) ?_
        refine wl_det rfl rfl rfl (op_assign rfl) ?_
        refine wl_nil ?_
        refine st_tn ?_
        refine w_ret ?_
        refine st_ret (vs := [_]) [] Try.results43 ⟨rfl, trivial⟩ rfl ?_
        refine ⟨_, rfl, ?_⟩
        rw [hnx, if_neg (fun h => h.elim (fun h => by simp [hf] at h) (fun h => by omega))]; exact ⟨rfl, rfl⟩

end Go.Proofs.Ytcbigmgakdanjaa
namespace Go.Proofs.Ytcbigmgakdanjaa
open Go Go.SL Go.RowKit Go.RdM Go.WalM
set_option linter.unusedVariables false
set_option linter.unusedSimpArgs false
theorem tA87wi : aggB Try.prog 87 4 = true := by kernel_rfl
theorem tF76_2wi : fieldB Try.prog 76 2 2 = true := by kernel_rfl
theorem tF76_4wi : fieldB Try.prog 76 4 4 = true := by kernel_rfl
theorem tF87_0wi : fieldB Try.prog 87 0 0 = true := by kernel_rfl
theorem tL35_1wi : zerosB Try.prog 35 9 1 1 = some [Value.string .empty] := by kernel_rfl
theorem tMixwi : Try.prog.follows .mixedOrders = true := by kernel_rfl
theorem tN87wi : (Try.prog.info? 87).bind (·.zero) = some (Value.agg #[Value.int .i64 0, Value.int .i64 0, Value.int .i64 0, Value.int .i64 0]) := by kernel_rfl
theorem tO3wi : oneB Try.prog 3 = true := by kernel_rfl
theorem tO35wi : oneB Try.prog 35 = true := by kernel_rfl
theorem tO73wi : oneB Try.prog 73 = true := by kernel_rfl
theorem tP35wi : appB Try.prog 35 9 1 16 = true := by kernel_rfl
theorem tS35wi : sliceB Try.prog 35 9 1 = true := by kernel_rfl
theorem tS73wi : sliceB Try.prog 73 87 4 = true := by kernel_rfl
theorem tZ35wi : (Try.prog.info? 35).map (·.size) = some 1 := by kernel_rfl
theorem tZ87wi : (Try.prog.info? 87).map (·.size) = some 4 := by kernel_rfl

def encSV (x : List UInt8) : Value := .string (str x)
/-- A map tells the records from a number on. -/
def IsMap (l : List (Int × List UInt8)) (first : Nat) (all : List RdM.Bs) : Prop := (l.map Prod.fst).Nodup ∧ l.length = all.length ∧ ∀ k, lookK KZ l k = if (first : Int) ≤ k then all[(k - first).toNat]? else none
/-- What Append does. -/
def appV (v : Lr) (r : RdM.Bs) : (Int × Int) × Lr :=
  if v.broken = true then ((0, 18), v)
  else if 65536 < r.length then ((0, 5), v)
  else if 256 ≤ v.pend.length then ((0, 6), v)
  else ((((lastV v + (v.pend.length + 1) : Nat) : Int), 0), { v with pend := v.pend ++ [r] })
-- CALL (*sleuth/wal.Log).ready lready_any (celLg 611 rfl)
set_option maxHeartbeats 400000 in
set_option maxRecDepth 100000 in
theorem lappend_any {σ : World} {F : List Res} {b d m c cp : Nat} {nm : RdM.Bs} {v : Lr} {a p : Option Addr} (r : RdM.Bs) (hlast : lastV v ≤ 1099511627776) (hrl : r.length ≤ 1099511627776) (hpl : v.pend.length ≤ 1099511627776) (hs : Sl σ F encRow 4 (.slice a v.rows.length c) v.rows) :
    FnT Try.prog σ F 14 [.pointer (some ⟨b, 0, none⟩), .string (str r)] [(611, cel b (cellL d nm v m a c p cp) 76), (614, slW 9 encT 1 (.slice p v.pend.length cp) v.pend)] (fun u ρ => ∃ p' cp', u = .tuple #[.int .i64 (appV v r).1.1, .int .i64 (appV v r).1.2] ∧ ρ = [(611, cel b (cellL d nm (appV v r).2 m a c p' cp') 76), (614, slW 9 encT 1 (.slice p' (appV v r).2.pend.length cp') (appV v r).2.pend)]) := by
  refine fn_of 41 Try.func14 rfl Try.ntmps14 rfl ?_
  refine w_seq ?_
  refine w_region ?_
  refine wl_det rfl rfl rfl (op_assign rfl) ?_
  refine wl_det rfl rfl rfl (op_assign rfl) ?_
  refine wl_nil ?_
  refine st_tn ?_
  refine w_seq ?_
  refine w_seq ?_
  refine w_region ?_
  refine wl_det rfl rfl rfl (op_move rfl) ?_
  refine wl_det rfl rfl rfl (op_fn Try.func42 rfl rfl rfl (lready_any (celLg 611 rfl))) ?_
  refine wl_det rfl rfl rfl (op_assign rfl) ?_
  refine wl_nil ?_
  refine st_tn ?_
  refine w_seq ?_
  refine w_region ?_
  refine wl_det rfl rfl rfl (op_move rfl) ?_
  refine wl_det rfl rfl rfl (op_neq rfl rfl) ?_
  refine wl_nil ?_
  refine st_tn ?_
  refine w_cond_d rfl (fun hc10 => ?_) (fun hc10 => ?_)
  · -- c10.t
    refine w_seq ?_
    refine w_region ?_
    refine wl_det rfl rfl rfl (op_move rfl) ?_
    refine wl_det rfl rfl rfl (op_assign rfl) ?_
    refine wl_det rfl rfl rfl (op_assign rfl) ?_
    refine wl_nil ?_
    refine st_tn ?_
    refine w_ret ?_
    refine st_tr ?_
    refine st_ret (vs := [_, _]) [611, 614] Try.results14 ⟨rfl, ⟨rfl, trivial⟩⟩ rfl ?_
    refine ⟨[(611, _), (614, _)], rfl, ?_⟩
    have h : appV v r = ((0, readyL v), v) := by unfold appV readyL; rw [if_pos (ready_t (by assumption)), if_pos (ready_t (by assumption))]
    rw [h]; exact ⟨p, cp, rfl, rfl⟩
  · -- c10.f
    have hb := ready_f hc10
    have hbf : ¬ v.broken = true := by simp [hb]
    refine w_skip ?_
    refine st_tn ?_
    refine w_seq ?_
    refine w_block ?_
    refine w_seq ?_
    refine w_region ?_
    refine wl_det rfl rfl rfl (op_move rfl) ?_
    refine wl_det rfl rfl rfl (op_lenBs rfl Try.underlying9) ?_
    refine wl_det rfl rfl rfl (op_gtr rfl rfl) ?_
    refine wl_det rfl rfl rfl (op_assign rfl) ?_
    refine wl_nil ?_
    refine st_tn ?_
    refine w_cond_d rfl (fun hc12 => ?_) (fun hc12 => ?_)
    · -- c12.t
      refine w_seq ?_
      refine w_region ?_
      refine wl_det rfl rfl rfl (op_assign rfl) ?_
      refine wl_det rfl rfl rfl (op_assign rfl) ?_
      refine wl_nil ?_
      refine st_tn ?_
      refine w_ret ?_
      refine st_br ?_
      refine st_tr ?_
      refine st_ret (vs := [_, _]) [611, 614] Try.results14 ⟨rfl, ⟨rfl, trivial⟩⟩ rfl ?_
      refine ⟨[(611, _), (614, _)], rfl, ?_⟩
      have h : appV v r = ((0, 5), v) := by unfold appV; rw [if_neg hbf, if_pos (by omega)]
      rw [h]; exact ⟨p, cp, rfl, rfl⟩
    · -- c12.f
      refine w_seq ?_
      refine w_region ?_
      refine wl_det rfl rfl rfl (op_move rfl) ?_
      refine wl_det rfl rfl rfl (op_nilCheck rfl) ?_
      refine wl_det rfl rfl rfl (op_fieldAddr (off := 4) rfl tF76_4wi) ?_
      refine wl_det rfl rfl rfl (op_load1 rfl tO35wi (Ent.lab (l := 611) rfl (says_cel 4))) ?_
      refine wl_det rfl rfl rfl (op_lenT rfl tS35wi (Sl.ent (Sl.lab 614 rfl (by first | (unfold maxLen; omega) | (unfold maxLen; simp; omega))))) ?_
      refine wl_det rfl rfl rfl (op_geq rfl rfl) ?_
      refine wl_det rfl rfl rfl (op_assign rfl) ?_
      refine wl_nil ?_
      refine st_tn ?_
      refine w_cond_d rfl (fun hc16 => ?_) (fun hc16 => ?_)
      · -- c16.t
        refine w_seq ?_
        refine w_region ?_
        refine wl_det rfl rfl rfl (op_assign rfl) ?_
        refine wl_det rfl rfl rfl (op_assign rfl) ?_
        refine wl_nil ?_
        refine st_tn ?_
        refine w_ret ?_
        refine st_br ?_
        refine st_tr ?_
        refine st_ret (vs := [_, _]) [611, 614] Try.results14 ⟨rfl, ⟨rfl, trivial⟩⟩ rfl ?_
        refine ⟨[(611, _), (614, _)], rfl, ?_⟩
        have h : appV v r = ((0, 6), v) := by unfold appV; rw [if_neg hbf, if_neg (by omega), if_pos (by omega)]
        rw [h]; exact ⟨p, cp, rfl, rfl⟩
      · -- c16.f
        refine w_skip ?_
        refine st_bn ?_
        refine st_tn ?_
        refine w_seq ?_
        refine w_region ?_
        refine wl_det rfl rfl rfl (op_move rfl) ?_
        refine wl_det rfl rfl rfl (op_move rfl) ?_
        refine wl_det rfl rfl rfl (op_nilCheck rfl) ?_
        refine wl_det rfl rfl rfl (op_fieldAddr (off := 4) rfl tF76_4wi) ?_
        refine wl_det rfl rfl rfl (op_load1 rfl tO35wi (Ent.lab (l := 611) rfl (says_cel 4))) ?_
        refine wl_det rfl rfl rfl (op_move rfl) ?_
        refine wl_op [] rfl rfl rfl rfl (op_buildSlice (enc := encT) (l := [r]) (lab := 29) tL35_1wi rfl rfl (fun _ => rfl) rfl) ?_
        rintro _ _ ⟨a29, c29, rfl, rfl⟩
        refine wl_op [614] rfl rfl rfl rfl (op_append (lab := 614) (lab' := 30) rfl rfl tP35wi enc1T (Sl.lab 29 rfl (by simp [maxLen])) (by simp; omega) (by simp; omega)) ?_
        rintro _ _ ⟨a30, c30, rfl, rfl⟩
        refine wl_det rfl rfl rfl (op_nilCheck rfl) ?_
        refine wl_det rfl rfl rfl (op_fieldAddr (off := 4) rfl tF76_4wi) ?_
        refine wl_op0 [611] rfl rfl rfl (op_store rfl rfl tZ35wi (by rfl) (by rfl) (by exact Nat.le_of_ble_eq_true rfl)) ?_
        rintro _ _ ⟨rfl, rfl⟩
        refine wl_nil ?_
        refine st_tn ?_
        refine w_seq ?_
        refine w_draw (D := [⟨33, [], [], [], _, false, [], []⟩, ⟨34, [0], [], [], _, false, [], []⟩, ⟨35, [], [], [], _, false, [], []⟩, ⟨36, [2], [], [], _, false, [], []⟩, ⟨37, [3], [], [], _, false, [], []⟩, ⟨38, [4], [], [], _, false, [], []⟩, ⟨39, [5], [], [], _, false, [], []⟩]) [] [0] [⟨33, [], [], false, [], []⟩, ⟨34, [0], [], false, [], []⟩, ⟨35, [], [], false, [], []⟩, ⟨36, [2], [], false, [], []⟩, ⟨37, [3], [], false, [], []⟩, ⟨38, [4], [], false, [], []⟩, ⟨39, [5], [], false, [], []⟩] tMixwi (by rfl) (by kernel_rfl) (by rfl) (by rfl)
            ⟨.plain rfl (by intro X; exact op_move rfl),
            ⟨.plain rfl (by intro X; rintro _ _ ⟨rfl, rfl⟩; exact op_val (v' := .int .i64 (lastV v : Int)) (by rfl) (op_fn Try.func17 rfl rfl rfl (last_any (v := { v with pend := v.pend ++ [r] }) (p := a30) (cp := c30) (celLg 611 rfl) (Sl.app (Sl.app hs X) _)))),
            ⟨.plain rfl (by intro X; exact op_move rfl),
            ⟨.plain rfl (by intro X; rintro _ _ ⟨rfl, rfl⟩; exact op_nilCheck rfl),
            ⟨.plain rfl (by intro X; rintro _ _ ⟨rfl, rfl⟩; exact op_fieldAddr (off := 4) rfl tF76_4wi),
            ⟨.plain rfl (by intro X; rintro _ _ ⟨rfl, rfl⟩; exact op_load1 rfl tO35wi (Ent.lab (l := 611) rfl (says_cel 4))),
            ⟨.plain rfl (by intro X; rintro _ _ ⟨rfl, rfl⟩; exact op_lenT (l := v.pend ++ [r]) rfl tS35wi (Sl.ent (Sl.lab (l := v.pend ++ [r]) 30 rfl (by unfold maxLen; simp; omega)))),
            trivial⟩⟩⟩⟩⟩⟩⟩ ?_
        rintro _ _ ⟨rfl, rfl⟩ _ _ ⟨rfl, rfl⟩ _ _ ⟨rfl, rfl⟩ _ _ ⟨rfl, rfl⟩ _ _ ⟨rfl, rfl⟩ _ _ ⟨rfl, rfl⟩ _ _ ⟨rfl, rfl⟩
        refine wl_norm (e' := [(34, _), (39, _)]) (.cons rfl (.cons rfl (.nil _))) (by dsimp only [cond_false, cond_true, List.nil_append, List.cons_append]) ?_
        refine wl_det rfl rfl rfl (op_add' rfl rfl (by rw [List.length_append, List.length_singleton]; omega)) ?_
        refine wl_det rfl rfl rfl (op_assign rfl) ?_
        refine wl_det rfl rfl rfl (op_assign rfl) ?_
        refine wl_nil ?_
        refine st_tn ?_
        refine w_ret ?_
        refine st_ret (vs := [_, _]) [611, 30] Try.results14 ⟨rfl, ⟨rfl, trivial⟩⟩ rfl ?_
        refine ⟨[(611, _), (614, _)], rfl, ?_⟩
        have h : appV v r = ((((lastV v + (v.pend.length + 1) : Nat) : Int), 0), { v with pend := v.pend ++ [r] }) := by unfold appV; rw [if_neg hbf, if_neg (by omega), if_neg (by omega)]
        rw [h]
        refine ⟨a30, c30, ?_, rfl⟩
        have e2 : ((v.pend ++ [r]).length : Int) = v.pend.length + 1 := by simp
        rw [e2, show ((lastV v + (v.pend.length + 1) : Nat) : Int) = (lastV v : Int) + (v.pend.length + 1) by omega]
        rfl

set_option maxHeartbeats 400000 in
set_option maxRecDepth 100000 in
theorem segm_any {σ : World} {F : List Res} {b d m c cp : Nat} {nm : RdM.Bs} {v : Lr} {a p : Option Addr} (lab : Nat) (hd : Ent σ F (At ⟨b, 0, none⟩ (cellL d nm v m a c p cp))) (hs : Sl σ F encRow 4 (.slice a v.rows.length c) v.rows) (hn : ∀ r ∈ v.rows, r.1 ≤ 999999) (hl : v.rows.length ≤ 1099511627776) (hnm : nm.length ≤ 64) :
    FnT Try.prog σ F 18 [.pointer (some ⟨b, 0, none⟩)] [] (fun u ρ => ∃ a' c', u = .slice a' (if v.broken = true then [] else v.rows.map fun r => fileN nm r.1).length c' ∧ ρ = [(lab, slW 9 encT 1 (.slice a' (if v.broken = true then [] else v.rows.map fun r => fileN nm r.1).length c') (if v.broken = true then [] else v.rows.map fun r => fileN nm r.1))]) := by
  refine fn_of 27 Try.func18 rfl Try.ntmps18 rfl ?_
  refine w_seq ?_
  refine w_region ?_
  refine wl_det rfl rfl rfl (op_assign rfl) ?_
  refine wl_nil ?_
  refine st_tn ?_
  refine w_seq ?_
  refine w_seq ?_
  refine w_region ?_
  refine wl_det rfl rfl rfl (op_move rfl) ?_
  refine wl_det rfl rfl rfl (op_fn Try.func42 rfl rfl rfl (lready_any (Ent.app hd _))) ?_
  refine wl_det rfl rfl rfl (op_neq rfl rfl) ?_
  refine wl_nil ?_
  refine st_tn ?_
  refine w_cond_d rfl (fun hc8 => ?_) (fun hc8 => ?_)
  · -- c8.t
    refine w_seq ?_
    refine w_region ?_
    refine wl_det rfl rfl rfl (op_assign rfl) ?_
    refine wl_nil ?_
    refine st_tn ?_
    rw [if_pos (ready_t hc8)]
    refine w_emp 77 (slO_nil 9 1) ?_
    refine w_ret ?_
    refine st_tr ?_
    refine st_ret (vs := [_]) [77] Try.results18 ⟨rfl, trivial⟩ rfl ?_
    refine ⟨[(lab, _)], rfl, ?_⟩
    exact ⟨none, 0, rfl, rfl⟩
  · -- c8.f
    have hb := ready_f hc8
    rw [if_neg (show ¬ v.broken = true by simp [hb])]
    refine w_skip ?_
    refine st_tn ?_
    refine w_seq ?_
    refine w_region ?_
    refine wl_det rfl rfl rfl (op_assign rfl) ?_
    refine wl_nil ?_
    refine st_tn ?_
    refine w_seq ?_
    refine w_seq ?_
    refine w_region ?_
    refine wl_det rfl rfl rfl (op_move rfl) ?_
    refine wl_det rfl rfl rfl (op_nilCheck rfl) ?_
    refine wl_det rfl rfl rfl (op_fieldAddr (off := 2) rfl tF76_2wi) ?_
    refine wl_det rfl rfl rfl (op_load1 rfl tO73wi (Ent.app (Ent.fld hd 2) _)) ?_
    refine wl_det rfl rfl rfl (op_lenT rfl tS73wi (Sl.ent (by first | exact Sl.app (by assumption) _ | exact Sl.app (Sl.app (by assumption) _) _))) ?_
    refine wl_det rfl rfl rfl (op_move rfl) ?_
    refine wl_nil ?_
    refine st_tn ?_
    refine w_block ?_
    refine w_emp 3 (slO_nil 9 1) ?_
    refine w_loopQ (X := List (List UInt8) × Option Addr × Nat × Nat) (fun z => z.2.2.2 ≤ v.rows.length ∧ z.1 = (v.rows.map fun r => fileN nm r.1).take z.2.2.2) (fun z => [(3, .slice (z.2.1) (z.1).length (z.2.2.1)), (14, .int .i64 (z.2.2.2))]) (fun z => [(3, slW 9 encT 1 (.slice (z.2.1) (z.1).length (z.2.2.1)) (z.1))]) (fun z => v.rows.length - z.2.2.2) (([], none, 0, 0)) [(0, _), (12, _), (13, _)] [] [3] rfl (rfl) (.cons rfl (.cons rfl (.nil _))) (.cons rfl (.cons rfl (.cons rfl (.nil _)))) (by
        try dsimp only
        exact ⟨Nat.zero_le _, by simp⟩) ?_
    rintro ⟨out, a_out, c_out, i⟩ ⟨hi, hout⟩
    refine w_norm2 (by dsimp only [List.cons_append, List.nil_append]) (by dsimp only [List.cons_append, List.nil_append]) ?_
    try dsimp only at hi hout ⊢
    refine w_seq ?_
    refine w_region ?_
    refine wl_det rfl rfl rfl (op_lss rfl rfl) ?_
    refine wl_nil ?_
    refine st_tn ?_
    refine w_seq ?_
    refine w_cond_d rfl (fun hc15 => ?_) (fun hc15 => ?_)
    · -- c15.t
      obtain ⟨r, hr⟩ := getE (l := v.rows) (i := i) (by omega)
      have hrn := hn r (List.mem_of_getElem? hr)
      have hol : out.length ≤ v.rows.length := by rw [hout, List.length_take, List.length_map]; omega
      refine w_skip ?_
      refine st_tn ?_
      refine w_seq ?_
      refine w_block ?_
      refine w_seq ?_
      refine w_region ?_
      refine wl_det rfl rfl rfl (op_idx rfl rfl tS73wi (Sl.ent (by first | exact Sl.app (by assumption) _ | exact Sl.app (Sl.app (by assumption) _) _)) (by omega)) ?_
      refine wl_det rfl rfl rfl (op_ldxA rfl tA87wi (by first | exact Sl.app (by assumption) _ | exact Sl.app (Sl.app (by assumption) _) _) (by assumption) (by rfl) (by rfl)) ?_
      refine wl_op [] rfl rfl rfl rfl (op_alloc (l := 5) tN87wi) ?_
      rintro _ _ ⟨b5, rfl, rfl⟩
      refine wl_op0 [5] rfl rfl rfl (op_store rfl rfl tZ87wi (by rfl) (by rfl) (by exact Nat.le_of_ble_eq_true rfl)) ?_
      rintro _ _ ⟨rfl, rfl⟩
      refine wl_nil ?_
      refine st_tn ?_
      refine w_region ?_
      refine wl_det rfl rfl rfl (op_move rfl) ?_
      refine wl_det rfl rfl rfl (op_move rfl) ?_
      refine wl_det rfl rfl rfl (op_fieldAddr (off := 0) rfl tF87_0wi) ?_
      refine wl_det rfl rfl rfl (op_load1 rfl tO3wi (Ent.lab (l := 5) rfl (says_cel 0))) ?_
      refine wl_det rfl rfl rfl (op_fn Try.func45 rfl rfl rfl (file_any r.1 hrn hnm (Ent.app hd _))) ?_
      refine wl_op [] rfl rfl rfl rfl (op_buildSlice (enc := encT) (l := [fileN nm r.1]) (lab := 23) tL35_1wi rfl rfl (fun _ => rfl) rfl) ?_
      rintro _ _ ⟨a23, c23, rfl, rfl⟩
      refine wl_op [3] rfl rfl rfl rfl (op_append (lab := 3) (lab' := 24) rfl rfl tP35wi enc1T (Sl.lab 23 rfl (by simp [maxLen])) (by simp; omega) (by simp; omega)) ?_
      rintro _ _ ⟨a24, c24, rfl, rfl⟩
      refine wl_det rfl rfl rfl (op_assign rfl) ?_
      refine wl_nil ?_
      refine st_bn ?_
      refine st_tn ?_
      refine w_region ?_
      refine wl_det rfl rfl rfl (op_add' rfl rfl (by omega)) ?_
      refine wl_det rfl rfl rfl (op_move rfl) ?_
      refine wl_nil ?_
      refine st_roundQ (x := (out, a_out, c_out, i)) ((out ++ [fileN nm r.1], _, _, i + 1)) [24] rfl (rfl) (.cons rfl (.cons rfl (.nil _))) (.cons rfl (.cons rfl (.cons rfl (.nil _)))) (by
          try dsimp only
          exact ⟨by omega, by rw [hout, take_snoc (x := fileN nm r.1) (by rw [List.getElem?_map, hr]; rfl)]⟩) (by
          try dsimp only
          omega) 
    · -- c15.f
      refine w_exit ?_
      refine st_te ?_
      refine st_te ?_
      refine st_be ?_
      refine st_tn ?_
      refine w_seq ?_
      refine w_region ?_
      refine wl_det rfl rfl rfl (op_move rfl) ?_
      refine wl_det rfl rfl rfl (op_assign rfl) ?_
      refine wl_nil ?_
      refine st_tn ?_
      refine w_ret ?_
      refine st_ret (vs := [_]) [3] Try.results18 ⟨rfl, trivial⟩ rfl ?_
      refine ⟨[(lab, _)], rfl, ?_⟩
      have hfin : out = v.rows.map fun r => fileN nm r.1 := by rw [hout, take_all (by rw [List.length_map]; omega)]
      rw [hfin]; exact ⟨_, _, rfl, rfl⟩

end Go.Proofs.Ytcbigmgakdanjaa
namespace Go.Proofs.Ytcbigmgakdanjaa
open Go Go.SL Go.RowKit Go.RdM Go.WalM
set_option linter.unusedVariables false
set_option linter.unusedSimpArgs false
theorem tF76_3wj : fieldB Try.prog 76 3 3 = true := by kernel_rfl
theorem tL35_1wj : zerosB Try.prog 35 9 1 1 = some [Value.string .empty] := by kernel_rfl
theorem tN9wj : (Try.prog.info? 9).bind (·.zero) = some (Value.string .empty) := by kernel_rfl
theorem tO74wj : oneB Try.prog 74 = true := by kernel_rfl
theorem tP35wj : appB Try.prog 35 9 1 16 = true := by kernel_rfl
theorem tQ74wj : mapB Try.prog 74 3 9 KZ.desc := ⟨Try.underlying74, Try.underlying3⟩

/-- A log's map holds its records. -/
def Recs (v : Lr) (l : List (Int × List UInt8)) (all : List RdM.Bs) : Prop := v.broken = false → IsMap l (firstV v) all ∧ lastV v + 1 = firstV v + all.length
def rdE (v : Lr) (n : Int) : Int := if v.broken = true then 18 else if n < 1 ∨ (lastV v : Int) < n then 10 else if n < firstV v then 30 else 0
def repE (v : Lr) (n : Int) : Int := if v.broken = true then 18 else if n < 1 ∨ (lastV v : Int) + 1 < n then 10 else if n < firstV v then 30 else 0
def rdS (v : Lr) (all : List RdM.Bs) (n : Int) : RdM.Bs := if rdE v n = 0 then (all[(n - firstV v).toNat]?).getD [] else []
def repS (v : Lr) (all : List RdM.Bs) (n : Int) : List RdM.Bs := if repE v n = 0 then all.drop (n - firstV v).toNat else []
-- CALL (*sleuth/wal.Log).First first_any (Ent.app hd _) (Sl.app hs _)
set_option maxHeartbeats 1000000 in
set_option maxRecDepth 100000 in
theorem lread_any {σ : World} {F : List Res} {b d m c cp : Nat} {nm : RdM.Bs} {v : Lr} {a p : Option Addr} {l : List (Int × List UInt8)} {all : List RdM.Bs} (n : Int) (hn : -9223372036854775808 ≤ n ∧ n ≤ 9223372036854775807) (hr : Recs v l all) (hlast : lastV v ≤ 1099511627776) (hd : Ent σ F (At ⟨b, 0, none⟩ (cellL d nm v m a c p cp))) (hs : Sl σ F encRow 4 (.slice a v.rows.length c) v.rows) (hm' : Mr σ F KZ encSV (.map (some m)) l) :
    FnT Try.prog σ F 30 [.pointer (some ⟨b, 0, none⟩), .int .i64 n] [] (fun u ρ => u = .tuple #[.string (str (rdS v all n)), .int .i64 (rdE v n)] ∧ ρ = []) := by
  refine fn_of 32 Try.func30 rfl Try.ntmps30 rfl ?_
  refine w_seq ?_
  refine w_region ?_
  refine wl_det rfl rfl rfl (op_assign rfl) ?_
  refine wl_det rfl rfl rfl (op_assign rfl) ?_
  refine wl_nil ?_
  refine st_tn ?_
  refine w_seq ?_
  refine w_seq ?_
  refine w_region ?_
  refine wl_det rfl rfl rfl (op_move rfl) ?_
  refine wl_det rfl rfl rfl (op_fn Try.func42 rfl rfl rfl (lready_any (Ent.app hd _))) ?_
  refine wl_det rfl rfl rfl (op_assign rfl) ?_
  refine wl_nil ?_
  refine st_tn ?_
  refine w_seq ?_
  refine w_region ?_
  refine wl_det rfl rfl rfl (op_move rfl) ?_
  refine wl_det rfl rfl rfl (op_neq rfl rfl) ?_
  refine wl_nil ?_
  refine st_tn ?_
  refine w_cond_d rfl (fun hc10 => ?_) (fun hc10 => ?_)
  · -- c10.t
    refine w_seq ?_
    refine w_region ?_
    refine wl_det rfl rfl rfl (op_move rfl) ?_
    refine wl_det rfl rfl rfl (op_assign rfl) ?_
    refine wl_det rfl rfl rfl (op_assign rfl) ?_
    refine wl_nil ?_
    refine st_tn ?_
    refine w_ret ?_
    refine st_tr ?_
    refine st_ret (vs := [_, _]) [] Try.results30 ⟨rfl, ⟨rfl, trivial⟩⟩ rfl ?_
    refine ⟨_, rfl, ?_⟩
    have hb := ready_t hc10
    have h1 : rdE v n = 18 := by unfold rdE; rw [if_pos hb]
    have h2 : readyL v = 18 := by unfold readyL; rw [if_pos hb]
    have h3 : rdS v all n = [] := by unfold rdS; rw [h1]; rfl
    rw [h3, h1, h2]; exact ⟨rfl, rfl⟩
  · -- c10.f
    have hb := ready_f hc10
    have hbf : ¬ v.broken = true := by simp [hb]
    obtain ⟨⟨_, _, hmap⟩, hlen⟩ := hr hb
    have hlk := hmap n
    refine w_skip ?_
    refine st_tn ?_
    refine w_seq ?_
    refine w_block ?_
    refine w_seq ?_
    refine w_cutL [(12, .bool (decide (n < 1 ∨ (lastV v : Int) < n)))] [0, 1] [] rfl (fun K' hK => ?_) ?_
    · -- cut r4
      refine w_region ?_
      refine wl_det rfl rfl rfl (op_move rfl) ?_
      refine wl_det rfl rfl rfl (op_lss rfl rfl) ?_
      refine wl_det rfl rfl rfl (op_move rfl) ?_
      refine wl_gsplit (t := 15) rfl (fun hg15 => ?_) (fun hg15 => ?_)
      · -- 15 is True
        refine wl_unwanted rfl rfl rfl rfl rfl rfl rfl rfl ?_
        refine wl_unwanted rfl rfl rfl rfl rfl rfl rfl rfl ?_
        refine wl_unwanted rfl rfl rfl rfl rfl rfl rfl rfl ?_
        refine wl_unwanted rfl rfl rfl rfl rfl rfl rfl rfl ?_
        refine wl_det rfl rfl rfl (op_pick_t rfl rfl) ?_
        refine wl_det rfl rfl rfl (op_assign rfl) ?_
        refine wl_nil ?_
        refine st_tn ?_
        exact cut_done1 [] hK rfl (by first | (rw [decide_eq_decide]; omega) | (symm; rw [decide_eq_false_iff_not]; omega) | (symm; rw [decide_eq_true_iff]; omega) | (simp; done) | (simp; omega) | (simp [*]; done) | (simp [*]; omega)) (by rfl) rfl rfl
      · -- 15 is False
        refine wl_wanted_det rfl rfl rfl rfl rfl rfl rfl (op_move rfl) ?_
        refine wl_wanted_det rfl rfl rfl rfl rfl rfl rfl (op_move rfl) ?_
        refine wl_wanted_det rfl rfl rfl rfl rfl rfl rfl (op_fn Try.func17 rfl rfl rfl (last_any (Ent.app hd _) (Sl.app hs _))) ?_
        refine wl_wanted_det rfl rfl rfl rfl rfl rfl rfl (op_gtr rfl rfl) ?_
        refine wl_det rfl rfl rfl (op_pick_f rfl rfl) ?_
        refine wl_det rfl rfl rfl (op_assign rfl) ?_
        refine wl_nil ?_
        refine st_tn ?_
        exact cut_done1 [] hK rfl (by first | (rw [decide_eq_decide]; omega) | (symm; rw [decide_eq_false_iff_not]; omega) | (symm; rw [decide_eq_true_iff]; omega) | (simp; done) | (simp; omega) | (simp [*]; done) | (simp [*]; omega)) (by rfl) rfl rfl
    · -- behind r4
      show W _ _ _ _ _ [(12, _), (0, _), (1, _)] [] _
      refine w_cond_d rfl (fun hc12 => ?_) (fun hc12 => ?_)
      · -- c12.t
        refine w_seq ?_
        refine w_region ?_
        refine wl_det rfl rfl rfl (op_assign rfl) ?_
        refine wl_det rfl rfl rfl (op_assign rfl) ?_
        refine wl_nil ?_
        refine st_tn ?_
        refine w_ret ?_
        refine st_br ?_
        refine st_tr ?_
        refine st_ret (vs := [_, _]) [] Try.results30 ⟨rfl, ⟨rfl, trivial⟩⟩ rfl ?_
        refine ⟨_, rfl, ?_⟩
        have h1 : rdE v n = 10 := by unfold rdE; rw [if_neg hbf, if_pos (by assumption)]
        have h3 : rdS v all n = [] := by unfold rdS; rw [h1]; rfl
        rw [h3, h1]; exact ⟨rfl, rfl⟩
      · -- c12.f
        refine w_seq ?_
        refine w_region ?_
        refine wl_det rfl rfl rfl (op_move rfl) ?_
        refine wl_det rfl rfl rfl (op_move rfl) ?_
        refine wl_det rfl rfl rfl (op_fn Try.func35 rfl rfl rfl (first_any (Ent.app hd _) (Sl.app hs _))) ?_
        refine wl_det rfl rfl rfl (op_lss rfl rfl) ?_
        refine wl_det rfl rfl rfl (op_assign rfl) ?_
        refine wl_nil ?_
        refine st_tn ?_
        refine w_cond_d rfl (fun hc21 => ?_) (fun hc21 => ?_)
        · -- c21.t
          refine w_seq ?_
          refine w_region ?_
          refine wl_det rfl rfl rfl (op_assign rfl) ?_
          refine wl_det rfl rfl rfl (op_assign rfl) ?_
          refine wl_nil ?_
          refine st_tn ?_
          refine w_ret ?_
          refine st_br ?_
          refine st_tr ?_
          refine st_ret (vs := [_, _]) [] Try.results30 ⟨rfl, ⟨rfl, trivial⟩⟩ rfl ?_
          refine ⟨_, rfl, ?_⟩
          have h1 : rdE v n = 30 := by unfold rdE; rw [if_neg hbf, if_neg hc12, if_pos (by assumption)]
          have h3 : rdS v all n = [] := by unfold rdS; rw [h1]; rfl
          rw [h3, h1]; exact ⟨rfl, rfl⟩
        · -- c21.f
          refine w_skip ?_
          refine st_bn ?_
          refine st_tn ?_
          refine w_seq ?_
          obtain ⟨x, hx⟩ := getE (l := all) (i := (n - firstV v).toNat) (by omega)
          have hlv : lookK KZ l n = some x := by rw [hlk, if_pos (by omega), hx]
          refine w_region ?_
          refine wl_det rfl rfl rfl (op_move rfl) ?_
          refine wl_det rfl rfl rfl (op_nilCheck rfl) ?_
          refine wl_det rfl rfl rfl (op_fieldAddr (off := 3) rfl tF76_3wj) ?_
          refine wl_det rfl rfl rfl (op_load1 rfl tO74wj (Ent.app (Ent.fld hd 3) _)) ?_
          refine wl_det rfl rfl rfl (op_move rfl) ?_
          refine wl_det rfl rfl rfl (op_val (v' := .string (str x)) (by rw [hlv]; rfl) (op_lookup (kt := KZ) (encV := encSV) rfl rfl tQ74wj tN9wj (Ent.app hm' _))) ?_
          refine wl_det rfl rfl rfl (op_assign rfl) ?_
          refine wl_det rfl rfl rfl (op_assign rfl) ?_
          refine wl_nil ?_
          refine st_tn ?_
          refine w_ret ?_
          refine st_ret (vs := [_, _]) [] Try.results30 ⟨rfl, ⟨rfl, trivial⟩⟩ rfl ?_
          refine ⟨_, rfl, ?_⟩
          have h1 : rdE v n = 0 := by unfold rdE; rw [if_neg hbf, if_neg hc12, if_neg (by assumption)]
          have h3 : rdS v all n = x := by unfold rdS; rw [if_pos h1, hx]; rfl
          rw [h3, h1]; exact ⟨rfl, rfl⟩

set_option maxHeartbeats 1000000 in
set_option maxRecDepth 100000 in
theorem replay_any {σ : World} {F : List Res} {b d m c cp : Nat} {nm : RdM.Bs} {v : Lr} {a p : Option Addr} {l : List (Int × List UInt8)} {all : List RdM.Bs} (lab : Nat) (n : Int) (hn : -9223372036854775808 ≤ n ∧ n ≤ 9223372036854775807) (hr : Recs v l all) (hlast : lastV v ≤ 1099511627776) (hd : Ent σ F (At ⟨b, 0, none⟩ (cellL d nm v m a c p cp))) (hs : Sl σ F encRow 4 (.slice a v.rows.length c) v.rows) (hm' : Mr σ F KZ encSV (.map (some m)) l) :
    FnT Try.prog σ F 24 [.pointer (some ⟨b, 0, none⟩), .int .i64 n] [] (fun u ρ => ∃ a' c', u = .tuple #[.slice a' (repS v all n).length c', .int .i64 (repE v n)] ∧ ρ = [(lab, slW 9 encT 1 (.slice a' (repS v all n).length c') (repS v all n))]) := by
  refine fn_of 46 Try.func24 rfl Try.ntmps24 rfl ?_
  refine w_seq ?_
  refine w_region ?_
  refine wl_det rfl rfl rfl (op_assign rfl) ?_
  refine wl_det rfl rfl rfl (op_assign rfl) ?_
  refine wl_nil ?_
  refine st_tn ?_
  refine w_seq ?_
  refine w_seq ?_
  refine w_region ?_
  refine wl_det rfl rfl rfl (op_move rfl) ?_
  refine wl_det rfl rfl rfl (op_fn Try.func42 rfl rfl rfl (lready_any (Ent.app hd _))) ?_
  refine wl_det rfl rfl rfl (op_assign rfl) ?_
  refine wl_nil ?_
  refine st_tn ?_
  refine w_seq ?_
  refine w_region ?_
  refine wl_det rfl rfl rfl (op_move rfl) ?_
  refine wl_det rfl rfl rfl (op_neq rfl rfl) ?_
  refine wl_nil ?_
  refine st_tn ?_
  refine w_cond_d rfl (fun hc12 => ?_) (fun hc12 => ?_)
  · -- c12.t
    refine w_seq ?_
    refine w_region ?_
    refine wl_det rfl rfl rfl (op_move rfl) ?_
    refine wl_det rfl rfl rfl (op_assign rfl) ?_
    refine wl_det rfl rfl rfl (op_assign rfl) ?_
    refine wl_nil ?_
    refine st_tn ?_
    refine w_emp 77 (slO_nil 9 1) ?_
    refine w_ret ?_
    refine st_tr ?_
    refine st_ret (vs := [_, _]) [77] Try.results24 ⟨rfl, ⟨rfl, trivial⟩⟩ rfl ?_
    refine ⟨[(lab, _)], rfl, ?_⟩
    have hb := ready_t hc12
    have h1 : repE v n = 18 := by unfold repE; rw [if_pos hb]
    have h2 : readyL v = 18 := by unfold readyL; rw [if_pos hb]
    have h3 : repS v all n = [] := by unfold repS; rw [h1]; rfl
    rw [h3, h1, h2]; exact ⟨none, 0, rfl, rfl⟩
  · -- c12.f
    have hb := ready_f hc12
    have hbf : ¬ v.broken = true := by simp [hb]
    obtain ⟨⟨_, _, hmap⟩, hlen⟩ := hr hb
    refine w_skip ?_
    refine st_tn ?_
    refine w_seq ?_
    refine w_block ?_
    refine w_seq ?_
    refine w_cutL [(14, .bool (decide (n < 1 ∨ (lastV v : Int) + 1 < n)))] [0, 1] [] rfl (fun K' hK => ?_) ?_
    · -- cut r4
      refine w_region ?_
      refine wl_det rfl rfl rfl (op_move rfl) ?_
      refine wl_det rfl rfl rfl (op_lss rfl rfl) ?_
      refine wl_det rfl rfl rfl (op_move rfl) ?_
      refine wl_gsplit (t := 17) rfl (fun hg17 => ?_) (fun hg17 => ?_)
      · -- 17 is True
        refine wl_unwanted rfl rfl rfl rfl rfl rfl rfl rfl ?_
        refine wl_unwanted rfl rfl rfl rfl rfl rfl rfl rfl ?_
        refine wl_unwanted rfl rfl rfl rfl rfl rfl rfl rfl ?_
        refine wl_unwanted rfl rfl rfl rfl rfl rfl rfl rfl ?_
        refine wl_unwanted rfl rfl rfl rfl rfl rfl rfl rfl ?_
        refine wl_det rfl rfl rfl (op_pick_t rfl rfl) ?_
        refine wl_det rfl rfl rfl (op_assign rfl) ?_
        refine wl_nil ?_
        refine st_tn ?_
        exact cut_done1 [] hK rfl (by first | (rw [decide_eq_decide]; omega) | (symm; rw [decide_eq_false_iff_not]; omega) | (symm; rw [decide_eq_true_iff]; omega) | (simp; done) | (simp; omega) | (simp [*]; done) | (simp [*]; omega)) (by rfl) rfl rfl
      · -- 17 is False
        refine wl_wanted_det rfl rfl rfl rfl rfl rfl rfl (op_move rfl) ?_
        refine wl_wanted_det rfl rfl rfl rfl rfl rfl rfl (op_move rfl) ?_
        refine wl_wanted_det rfl rfl rfl rfl rfl rfl rfl (op_fn Try.func17 rfl rfl rfl (last_any (Ent.app hd _) (Sl.app hs _))) ?_
        refine wl_wanted_det rfl rfl rfl rfl rfl rfl rfl (op_add' rfl rfl (by omega)) ?_
        refine wl_wanted_det rfl rfl rfl rfl rfl rfl rfl (op_gtr rfl rfl) ?_
        refine wl_det rfl rfl rfl (op_pick_f rfl rfl) ?_
        refine wl_det rfl rfl rfl (op_assign rfl) ?_
        refine wl_nil ?_
        refine st_tn ?_
        exact cut_done1 [] hK rfl (by first | (rw [decide_eq_decide]; omega) | (symm; rw [decide_eq_false_iff_not]; omega) | (symm; rw [decide_eq_true_iff]; omega) | (simp; done) | (simp; omega) | (simp [*]; done) | (simp [*]; omega)) (by rfl) rfl rfl
    · -- behind r4
      show W _ _ _ _ _ [(14, _), (0, _), (1, _)] [] _
      refine w_cond_d rfl (fun hc14 => ?_) (fun hc14 => ?_)
      · -- c14.t
        refine w_seq ?_
        refine w_region ?_
        refine wl_det rfl rfl rfl (op_assign rfl) ?_
        refine wl_det rfl rfl rfl (op_assign rfl) ?_
        refine wl_nil ?_
        refine st_tn ?_
        refine w_emp 77 (slO_nil 9 1) ?_
        refine w_ret ?_
        refine st_br ?_
        refine st_tr ?_
        refine st_ret (vs := [_, _]) [77] Try.results24 ⟨rfl, ⟨rfl, trivial⟩⟩ rfl ?_
        refine ⟨[(lab, _)], rfl, ?_⟩
        have h1 : repE v n = 10 := by unfold repE; rw [if_neg hbf, if_pos (by assumption)]
        have h3 : repS v all n = [] := by unfold repS; rw [h1]; rfl
        rw [h3, h1]; exact ⟨none, 0, rfl, rfl⟩
      · -- c14.f
        refine w_seq ?_
        refine w_region ?_
        refine wl_det rfl rfl rfl (op_move rfl) ?_
        refine wl_det rfl rfl rfl (op_move rfl) ?_
        refine wl_det rfl rfl rfl (op_fn Try.func35 rfl rfl rfl (first_any (Ent.app hd _) (Sl.app hs _))) ?_
        refine wl_det rfl rfl rfl (op_lss rfl rfl) ?_
        refine wl_det rfl rfl rfl (op_assign rfl) ?_
        refine wl_nil ?_
        refine st_tn ?_
        refine w_cond_d rfl (fun hc24 => ?_) (fun hc24 => ?_)
        · -- c24.t
          refine w_seq ?_
          refine w_region ?_
          refine wl_det rfl rfl rfl (op_assign rfl) ?_
          refine wl_det rfl rfl rfl (op_assign rfl) ?_
          refine wl_nil ?_
          refine st_tn ?_
          refine w_emp 77 (slO_nil 9 1) ?_
          refine w_ret ?_
          refine st_br ?_
          refine st_tr ?_
          refine st_ret (vs := [_, _]) [77] Try.results24 ⟨rfl, ⟨rfl, trivial⟩⟩ rfl ?_
          refine ⟨[(lab, _)], rfl, ?_⟩
          have h1 : repE v n = 30 := by unfold repE; rw [if_neg hbf, if_neg hc14, if_pos (by assumption)]
          have h3 : repS v all n = [] := by unfold repS; rw [h1]; rfl
          rw [h3, h1]; exact ⟨none, 0, rfl, rfl⟩
        · -- c24.f
          refine w_skip ?_
          refine st_bn ?_
          refine st_tn ?_
          refine w_seq ?_
          refine w_region ?_
          refine wl_det rfl rfl rfl (op_assign rfl) ?_
          refine wl_nil ?_
          refine st_tn ?_
          refine w_seq ?_
          refine w_seq ?_
          refine w_region ?_
          refine wl_det rfl rfl rfl (op_move rfl) ?_
          refine wl_det rfl rfl rfl (op_assign rfl) ?_
          refine wl_nil ?_
          refine st_tn ?_
          refine w_block ?_
          refine w_emp 7 (slO_nil 9 1) ?_
          refine w_loopQ (X := List (List UInt8) × Option Addr × Nat × Int) (fun z => n ≤ z.2.2.2 ∧ z.2.2.2 ≤ (lastV v : Int) + 1 ∧ z.1 = (all.drop (n - firstV v).toNat).take (z.2.2.2 - n).toNat) (fun z => [(7, .slice (z.2.1) (z.1).length (z.2.2.1)), (8, .int .i64 (z.2.2.2))]) (fun z => [(7, slW 9 encT 1 (.slice (z.2.1) (z.1).length (z.2.2.1)) (z.1))]) (fun z => ((lastV v : Int) + 1 - z.2.2.2).toNat) (([], none, 0, n)) [(0, _)] [] [7] rfl (rfl) (.cons rfl (.cons rfl (.nil _))) (.cons rfl (.nil _)) (by
              try dsimp only
              exact ⟨Int.le_refl _, by omega, by simp⟩) ?_
          rintro ⟨out, a_out, c_out, k⟩ ⟨hk1, hk2, hout⟩
          refine w_norm2 (by dsimp only [List.cons_append, List.nil_append]) (by dsimp only [List.cons_append, List.nil_append]) ?_
          try dsimp only at hk1 hk2 hout ⊢
          refine w_seq ?_
          refine w_seq ?_
          refine w_region ?_
          refine wl_det rfl rfl rfl (op_move rfl) ?_
          refine wl_det rfl rfl rfl (op_move rfl) ?_
          refine wl_det rfl rfl rfl (op_fn Try.func17 rfl rfl rfl (last_any (Ent.app hd _) (Sl.app hs _))) ?_
          refine wl_det rfl rfl rfl (op_leq rfl rfl) ?_
          refine wl_nil ?_
          refine st_tn ?_
          refine w_cond_d rfl (fun hc33 => ?_) (fun hc33 => ?_)
          · -- c33.t
            obtain ⟨x, hx⟩ := getE (l := all) (i := (k - firstV v).toNat) (by omega)
            have hlv : lookK KZ l k = some x := by rw [hmap k, if_pos (by omega), hx]
            have hol : out.length ≤ all.length := by rw [hout, List.length_take, List.length_drop]; omega
            refine w_skip ?_
            refine st_tn ?_
            refine w_seq ?_
            refine w_block ?_
            refine w_region ?_
            refine wl_det rfl rfl rfl (op_move rfl) ?_
            refine wl_det rfl rfl rfl (op_move rfl) ?_
            refine wl_det rfl rfl rfl (op_nilCheck rfl) ?_
            refine wl_det rfl rfl rfl (op_fieldAddr (off := 3) rfl tF76_3wj) ?_
            refine wl_det rfl rfl rfl (op_load1 rfl tO74wj (Ent.app (Ent.fld hd 3) _)) ?_
            refine wl_det rfl rfl rfl (op_move rfl) ?_
            refine wl_det rfl rfl rfl (op_val (v' := .string (str x)) (by rw [hlv]; rfl) (op_lookup (kt := KZ) (encV := encSV) rfl rfl tQ74wj tN9wj (Ent.app hm' _))) ?_
            refine wl_op [] rfl rfl rfl rfl (op_buildSlice (enc := encT) (l := [x]) (lab := 43) tL35_1wj rfl rfl (fun _ => rfl) rfl) ?_
            rintro _ _ ⟨a43, c43, rfl, rfl⟩
            refine wl_op [7] rfl rfl rfl rfl (op_append (lab := 7) (lab' := 44) rfl rfl tP35wj enc1T (Sl.lab 43 rfl (by simp [maxLen])) (by simp; omega) (by simp; omega)) ?_
            rintro _ _ ⟨a44, c44, rfl, rfl⟩
            refine wl_det rfl rfl rfl (op_assign rfl) ?_
            refine wl_nil ?_
            refine st_bn ?_
            refine st_tn ?_
            refine w_region ?_
            refine wl_det rfl rfl rfl (op_move rfl) ?_
            refine wl_det rfl rfl rfl (op_add' rfl rfl (by omega)) ?_
            refine wl_det rfl rfl rfl (op_assign rfl) ?_
            refine wl_nil ?_
            refine st_roundQ (x := (out, a_out, c_out, k)) ((out ++ [x], _, _, k + 1)) [44] rfl (rfl) (.cons rfl (.cons rfl (.nil _))) (.cons rfl (.nil _)) (by
                try dsimp only
                refine ⟨by omega, by omega, ?_⟩
                rw [hout, show (k + 1 - n).toNat = (k - n).toNat + 1 by omega, take_snoc (x := x) (by rw [List.getElem?_drop, ← hx]; congr 1; omega)]) (by
                try dsimp only
                omega) 
          · -- c33.f
            refine w_exit ?_
            refine st_te ?_
            refine st_te ?_
            refine st_be ?_
            refine st_tn ?_
            refine w_seq ?_
            refine w_region ?_
            refine wl_det rfl rfl rfl (op_move rfl) ?_
            refine wl_det rfl rfl rfl (op_assign rfl) ?_
            refine wl_det rfl rfl rfl (op_assign rfl) ?_
            refine wl_nil ?_
            refine st_tn ?_
            refine w_ret ?_
            refine st_ret (vs := [_, _]) [7] Try.results24 ⟨rfl, ⟨rfl, trivial⟩⟩ rfl ?_
            refine ⟨[(lab, _)], rfl, ?_⟩
            have h1 : repE v n = 0 := by unfold repE; rw [if_neg hbf, if_neg hc14, if_neg (by assumption)]
            have h3 : repS v all n = out := by unfold repS; rw [if_pos h1, hout, List.take_of_length_le (by rw [List.length_drop]; omega)]
            rw [h3, h1]; exact ⟨_, _, rfl, rfl⟩

end Go.Proofs.Ytcbigmgakdanjaa
namespace Go.Proofs.Ytcbigmgakdanjaa
open Go Go.SL Go.RowKit Go.RdM Go.WalM
set_option linter.unusedVariables false
set_option linter.unusedSimpArgs false
theorem tB87wk : placesB Try.prog 87 = some ([(0, 1), (1, 1), (2, 1), (3, 1)], [Value.int .i64 0, Value.int .i64 0, Value.int .i64 0, Value.int .i64 0]) := by kernel_rfl
theorem tF76_2wk : fieldB Try.prog 76 2 2 = true := by kernel_rfl
theorem tF76_3wk : fieldB Try.prog 76 3 3 = true := by kernel_rfl
theorem tF87_0wk : fieldB Try.prog 87 0 0 = true := by kernel_rfl
theorem tF87_2wk : fieldB Try.prog 87 2 2 = true := by kernel_rfl
theorem tF87_3wk : fieldB Try.prog 87 3 3 = true := by kernel_rfl
theorem tL73_1wk : zerosB Try.prog 73 87 4 1 = some [Value.int .i64 0, Value.int .i64 0, Value.int .i64 0, Value.int .i64 0] := by kernel_rfl
theorem tO3wk : oneB Try.prog 3 = true := by kernel_rfl
theorem tO73wk : oneB Try.prog 73 = true := by kernel_rfl
theorem tO74wk : oneB Try.prog 74 = true := by kernel_rfl
theorem tO9wk : oneB Try.prog 9 = true := by kernel_rfl
theorem tP73wk : appB Try.prog 73 87 4 32 = true := by kernel_rfl
theorem tQ74wk : mapB Try.prog 74 3 9 KZ.desc := ⟨Try.underlying74, Try.underlying3⟩
theorem tS35wk : sliceB Try.prog 35 9 1 = true := by kernel_rfl
theorem tS73wk : sliceB Try.prog 73 87 4 = true := by kernel_rfl
theorem tZ73wk : (Try.prog.info? 73).map (·.size) = some 1 := by kernel_rfl

theorem setK_new {l : List (Int × List UInt8)} {k : Int} {x : List UInt8} (h : lookK KZ l k = none) : setK KZ l k x = l ++ [(k, x)] := by
  induction l with
  | nil => rfl
  | cons q l ih =>
    unfold lookK at h
    unfold setK
    cases hq : KZ.eq k q.1 with
    | true => rw [hq] at h; simp at h
    | false => rw [hq] at h; simp only [cond_false] at h ⊢; rw [ih h]; rfl
theorem IsMap.nil (f : Nat) : IsMap [] f [] := ⟨List.nodup_nil, rfl, fun k => by unfold lookK; simp⟩
theorem IsMap.add {l : List (Int × List UInt8)} {f : Nat} {all : List RdM.Bs} (h : IsMap l f all) (x : List UInt8) : IsMap (setK KZ l ((f + all.length : Nat) : Int) x) f (all ++ [x]) := by
  obtain ⟨h1, h2, h3⟩ := h
  have hn : lookK KZ l ((f + all.length : Nat) : Int) = none := by
    rw [h3, if_pos (by omega), List.getElem?_eq_none (by omega)]
  refine ⟨?_, ?_, fun k => ?_⟩
  · rw [setK_new hn, List.map_append, List.nodup_append]
    refine ⟨h1, List.nodup_cons.2 ⟨by simp, List.nodup_nil⟩, fun a ha b hb => ?_⟩
    obtain rfl : b = ((f + all.length : Nat) : Int) := by simpa using hb
    intro e; subst e
    have := (look_mem (kt := KZ) (l := l)).2 ha
    rw [hn] at this; simp at this
  · rw [setK_new hn, List.length_append, List.length_append, h2]; rfl
  · rw [look_set]
    by_cases hk : k = ((f + all.length : Nat) : Int)
    · subst hk
      have : KZ.eq ((f + all.length : Nat) : Int) ((f + all.length : Nat) : Int) = true := by show ((_ : Int) == _) = true; simp
      rw [this, cond_true, if_pos (by omega), List.getElem?_append_right (by omega)]
      have e0 : (((f + all.length : Nat) : Int) - f).toNat - all.length = 0 := by omega
      rw [e0]; rfl
    · have : KZ.eq k ((f + all.length : Nat) : Int) = false := by show ((_ : Int) == _) = false; simpa using hk
      rw [this, cond_false, h3]
      by_cases h0 : (f : Int) ≤ k
      · rw [if_pos h0, if_pos h0]
        by_cases h4 : (k - f).toNat < all.length
        · rw [List.getElem?_append_left h4]
        · rw [List.getElem?_eq_none (by omega), List.getElem?_eq_none (by rw [List.length_append, List.length_singleton]; omega)]
      · rw [if_neg h0, if_neg h0]
/-- The segments' rows with one group more. -/
def noteR (R : List (Nat × Nat × Nat × Nat)) (n f k : Nat) : List (Nat × Nat × Nat × Nat) :=
  match R.getLast? with
  | none => [(n, f, f + k - 1, 1)]
  | some r => if r.1 = n then R.dropLast ++ [(r.1, r.2.1, f + k - 1, r.2.2.2 + 1)] else R ++ [(n, f, f + k - 1, 1)]
theorem noteR_new {R : List (Nat × Nat × Nat × Nat)} {n f k : Nat} (h : ∀ r, R.getLast? = some r → r.1 ≠ n) : noteR R n f k = R ++ [(n, f, f + k - 1, 1)] := by
  unfold noteR
  cases hl : R.getLast? with
  | none => rw [List.getLast?_eq_none_iff.1 hl]; rfl
  | some r => exact if_neg (h r hl)
theorem last_at {α : Type} {R : List α} {r : α} (h : R[((R.length : Int) - 1).toNat]? = some r) : R.getLast? = some r := by
  rw [List.getLast?_eq_getElem?, ← h]; congr 1; omega
theorem noteR_old {R : List (Nat × Nat × Nat × Nat)} {n f k : Nat} {r : Nat × Nat × Nat × Nat} (h : R[((R.length : Int) - 1).toNat]? = some r) (hn : r.1 = n) (hl : 0 < R.length) : noteR R n f k = R.set ((R.length : Int) - 1).toNat (r.1, r.2.1, f + k - 1, r.2.2.2 + 1) := by
  have hlast := last_at h
  obtain ⟨S, hS⟩ := List.getLast?_eq_some_iff.1 hlast
  unfold noteR
  rw [hlast]
  dsimp only
  rw [if_pos hn]
  subst hS
  rw [List.dropLast_concat]
  have : (((S ++ [r]).length : Int) - 1).toNat = S.length := by simp
  rw [this, List.set_append_right _ _ (Nat.le_refl _), Nat.sub_self]; rfl
theorem cellL_len {d m c cp : Nat} {nm : RdM.Bs} {v : Lr} {a p : Option Addr} {R : List (Nat × Nat × Nat × Nat)} (h : R.length = v.rows.length) : cellL d nm { v with rows := R } m a c p cp = cellL d nm v m a c p cp := by unfold cellL; simp [h]
set_option maxHeartbeats 2000000 in
set_option maxRecDepth 100000 in
theorem note_any {σ : World} {F : List Res} {b d m c cp cg F0 : Nat} {nm : RdM.Bs} {v : Lr} {a p ag : Option Addr} {l : List (Int × List UInt8)} {all g : List RdM.Bs} (n f : Nat) (hg : Sl σ F encT 1 (.slice ag g.length cg) g) (hgl : 0 < g.length ∧ g.length ≤ 1048576) (hn : n ≤ 999999) (hf : f ≤ 1099511627776) (hm : IsMap l F0 all) (hfa : f = F0 + all.length) (hrl : v.rows.length ≤ 1099511627776) (hgr : ∀ r ∈ v.rows, r.2.2.2 ≤ 1099511627776) :
    FnT Try.prog σ F 49 [.pointer (some ⟨b, 0, none⟩), .int .i64 n, .int .i64 f, .slice ag g.length cg] [(611, cel b (cellL d nm v m a c p cp) 76), (612, slW 87 encRow 4 (.slice a v.rows.length c) v.rows), (613, mp KZ encSV m l)] (fun u ρ => ∃ a' c' l', IsMap l' F0 (all ++ g) ∧ u = .tuple #[] ∧ ρ = [(611, cel b (cellL d nm { v with rows := noteR v.rows n f g.length } m a' c' p cp) 76), (612, slW 87 encRow 4 (.slice a' (noteR v.rows n f g.length).length c') (noteR v.rows n f g.length)), (613, mp KZ encSV m l')]) := by
  refine fn_of 87 Try.func49 rfl Try.ntmps49 rfl ?_
  refine w_seq ?_
  refine w_seq ?_
  refine w_region ?_
  refine wl_det rfl rfl rfl (op_move rfl) ?_
  refine wl_det rfl rfl rfl (op_lenT rfl tS35wk (Sl.ent (by first | exact Sl.app (by assumption) _ | exact Sl.app (Sl.app (by assumption) _) _))) ?_
  refine wl_det rfl rfl rfl (op_move rfl) ?_
  refine wl_nil ?_
  refine st_tn ?_
  refine w_block ?_
  refine w_loopQ (X := List (Int × List UInt8) × Nat) (fun z => z.2 ≤ g.length ∧ IsMap z.1 F0 (all ++ g.take z.2)) (fun z => [(14, .int .i64 (z.2))]) (fun z => [(613, mp KZ encSV m (z.1))]) (fun z => g.length - z.2) ((l, 0)) [(0, _), (1, _), (2, _), (3, _), (12, _), (13, _)] [(611, _), (612, _)] [613, 611, 612] rfl (rfl) (.cons rfl (.nil _)) (.cons rfl (.cons rfl (.cons rfl (.cons rfl (.cons rfl (.cons rfl (.nil _))))))) (by
      try dsimp only
      exact ⟨Nat.zero_le _, by simpa using hm⟩) ?_
  rintro ⟨D, i⟩ ⟨hi, hD⟩
  refine w_norm2 (by dsimp only [List.cons_append, List.nil_append]) (by dsimp only [List.cons_append, List.nil_append]) ?_
  try dsimp only at hi hD ⊢
  refine w_seq ?_
  refine w_region ?_
  refine wl_det rfl rfl rfl (op_lss rfl rfl) ?_
  refine wl_nil ?_
  refine st_tn ?_
  refine w_seq ?_
  refine w_cond_d rfl (fun hc15 => ?_) (fun hc15 => ?_)
  · -- c15.t
    obtain ⟨x, hx⟩ := getE (l := g) (i := i) (by omega)
    refine w_skip ?_
    refine st_tn ?_
    refine w_seq ?_
    refine w_block ?_
    refine w_seq ?_
    refine w_region ?_
    refine wl_det rfl rfl rfl (op_move rfl) ?_
    refine wl_det rfl rfl rfl (op_idx rfl rfl tS35wk (Sl.ent (by first | exact Sl.app (by assumption) _ | exact Sl.app (Sl.app (by assumption) _) _)) (by omega)) ?_
    refine wl_det rfl rfl rfl (op_ldx rfl tO9wk (by first | exact Sl.app (by assumption) _ | exact Sl.app (Sl.app (by assumption) _) _) (by assumption) (by rfl)) ?_
    refine wl_det rfl rfl rfl (op_assign rfl) ?_
    refine wl_det rfl rfl rfl (op_assign rfl) ?_
    refine wl_nil ?_
    refine st_tn ?_
    refine w_region ?_
    refine wl_det rfl rfl rfl (op_move rfl) ?_
    refine wl_det rfl rfl rfl (op_nilCheck rfl) ?_
    refine wl_det rfl rfl rfl (op_fieldAddr (off := 3) rfl tF76_3wk) ?_
    refine wl_det rfl rfl rfl (op_load1 rfl tO74wk (Ent.lab (l := 611) rfl (says_cel 3))) ?_
    refine wl_det rfl rfl rfl (op_move rfl) ?_
    refine wl_det rfl rfl rfl (op_move rfl) ?_
    refine wl_det rfl rfl rfl (op_val (v' := .int .i64 ((f + i : Nat) : Int)) (by rw [show ((f + i : Nat) : Int) = (f : Int) + i by omega]) (op_add' rfl rfl (by omega))) ?_
    refine wl_det rfl rfl rfl (op_move rfl) ?_
    refine wl_op0 [613] rfl rfl rfl (op_mapUpdate (kt := KZ) (encV := encSV) (lab := 613) rfl rfl rfl tQ74wk) ?_
    rintro _ _ ⟨rfl, rfl⟩
    refine wl_nil ?_
    refine st_bn ?_
    refine st_tn ?_
    refine w_region ?_
    refine wl_det rfl rfl rfl (op_add' rfl rfl (by omega)) ?_
    refine wl_det rfl rfl rfl (op_move rfl) ?_
    refine wl_nil ?_
    refine st_roundQ (x := (D, i)) ((setK KZ D ((f + i : Nat) : Int) x, i + 1)) [613, 611, 612] rfl (rfl) (.cons rfl (.nil _)) (.cons rfl (.cons rfl (.cons rfl (.cons rfl (.cons rfl (.cons rfl (.nil _))))))) (by
        try dsimp only
        exact ⟨by omega, by rw [take_snoc hx, ← List.append_assoc, show f + i = F0 + (all ++ g.take i).length by rw [List.length_append, List.length_take]; omega]; exact hD.add x⟩) (by
        try dsimp only
        omega) 
  · -- c15.f
    rw [take_all (by omega)] at hD
    refine w_exit ?_
    refine st_te ?_
    refine st_te ?_
    refine st_be ?_
    refine st_tn ?_
    refine w_seq ?_
    refine w_region ?_
    refine wl_det rfl rfl rfl (op_move rfl) ?_
    refine wl_det rfl rfl rfl (op_move rfl) ?_
    refine wl_det rfl rfl rfl (op_lenT rfl tS35wk (Sl.ent (by first | exact Sl.app (by assumption) _ | exact Sl.app (Sl.app (by assumption) _) _))) ?_
    refine wl_det rfl rfl rfl (op_add' rfl rfl (by omega)) ?_
    refine wl_det rfl rfl rfl (op_val (v' := .int .i64 ((f + g.length - 1 : Nat) : Int)) (by rw [show ((f + g.length - 1 : Nat) : Int) = (f : Int) + g.length - 1 by omega]) (op_sub' rfl rfl (by omega))) ?_
    refine wl_det rfl rfl rfl (op_assign rfl) ?_
    refine wl_nil ?_
    refine st_tn ?_
    refine w_seq ?_
    refine w_seq ?_
    refine w_region ?_
    refine wl_det rfl rfl rfl (op_move rfl) ?_
    refine wl_det rfl rfl rfl (op_nilCheck rfl) ?_
    refine wl_det rfl rfl rfl (op_fieldAddr (off := 2) rfl tF76_2wk) ?_
    refine wl_det rfl rfl rfl (op_load1 rfl tO73wk (Ent.lab (l := 611) rfl (says_cel 2))) ?_
    refine wl_det rfl rfl rfl (op_lenT rfl tS73wk (Sl.ent (Sl.lab 612 rfl (by unfold maxLen; omega)))) ?_
    refine wl_det rfl rfl rfl (op_assign rfl) ?_
    refine wl_nil ?_
    refine st_tn ?_
    refine w_seq ?_
    by_cases hz : 0 < v.rows.length
    · -- hz+
      obtain ⟨r, hr⟩ := getE (l := v.rows) (i := ((v.rows.length : Int) - 1).toNat) (by omega)
      have hrg := hgr r (List.mem_of_getElem? hr)
      refine w_region ?_
      refine wl_det rfl rfl rfl (op_move rfl) ?_
      refine wl_det rfl rfl rfl (op_val (v' := .bool true) (by rw [decide_eq_true (by omega)]) (op_gtr rfl rfl)) ?_
      refine wl_det rfl rfl rfl (op_move rfl) ?_
      refine wl_wanted_det rfl rfl rfl rfl rfl rfl rfl (op_move rfl) ?_
      refine wl_wanted_det rfl rfl rfl rfl rfl rfl rfl (op_nilCheck rfl) ?_
      refine wl_wanted_det rfl rfl rfl rfl rfl rfl rfl (op_fieldAddr (off := 2) rfl tF76_2wk) ?_
      refine wl_wanted_det rfl rfl rfl rfl rfl rfl rfl (op_load1 rfl tO73wk (Ent.lab (l := 611) rfl (says_cel 2))) ?_
      refine wl_wanted_det rfl rfl rfl rfl rfl rfl rfl (op_move rfl) ?_
      refine wl_wanted_det rfl rfl rfl rfl rfl rfl rfl (op_sub' rfl rfl (by omega)) ?_
      refine wl_wanted_det rfl rfl rfl rfl rfl rfl rfl (op_idxZ rfl rfl tS73wk (Sl.ent (Sl.lab 612 rfl (by unfold maxLen; omega))) (by omega) (by omega)) ?_
      refine wl_wanted_det rfl rfl rfl rfl rfl rfl rfl (op_fieldAddr (off := 0) rfl tF87_0wk) ?_
      refine wl_wanted_det rfl rfl rfl rfl rfl rfl rfl (op_ldxf rfl tO3wk (Sl.lab 612 rfl (by unfold maxLen; omega)) (by assumption) (by rfl)) ?_
      refine wl_wanted_det rfl rfl rfl rfl rfl rfl rfl (op_move rfl) ?_
      refine wl_wanted_det rfl rfl rfl rfl rfl rfl rfl (op_eql rfl rfl) ?_
      refine wl_det rfl rfl rfl (op_pick_t rfl rfl) ?_
      refine wl_nil ?_
      refine st_tn ?_
      refine w_cond_d rfl (fun hc52 => ?_) (fun hc52 => ?_)
      · -- c52.t
        refine w_seq ?_
        refine w_region ?_
        refine wl_det rfl rfl rfl (op_move rfl) ?_
        refine wl_det rfl rfl rfl (op_nilCheck rfl) ?_
        refine wl_det rfl rfl rfl (op_fieldAddr (off := 2) rfl tF76_2wk) ?_
        refine wl_det rfl rfl rfl (op_load1 rfl tO73wk (Ent.lab (l := 611) rfl (says_cel 2))) ?_
        refine wl_det rfl rfl rfl (op_move rfl) ?_
        refine wl_det rfl rfl rfl (op_sub' rfl rfl (by omega)) ?_
        refine wl_det rfl rfl rfl (op_move rfl) ?_
        refine wl_det rfl rfl rfl (op_idxZ rfl rfl tS73wk (Sl.ent (Sl.lab 612 rfl (by unfold maxLen; omega))) (by omega) (by omega)) ?_
        refine wl_det rfl rfl rfl (op_fieldAddr (off := 2) rfl tF87_2wk) ?_
        refine wl_op0 [612] rfl rfl rfl (op_storeX (lab := 612) (j := 2) (b' := (r.1, r.2.1, f + g.length - 1, r.2.2.2)) rfl rfl tO3wk rfl rfl (by rfl) hr (Nat.le_of_ble_eq_true rfl) (by rfl)) ?_
        rintro _ _ ⟨rfl, rfl⟩
        refine wl_nil ?_
        refine st_tn ?_
        refine w_seq ?_
        have hsl : (v.rows.set ((v.rows.length : Int) - 1).toNat (r.1, r.2.1, f + g.length - 1, r.2.2.2)).length = v.rows.length := List.length_set ..
        have hr2 : (v.rows.set ((v.rows.length : Int) - 1).toNat (r.1, r.2.1, f + g.length - 1, r.2.2.2))[((v.rows.length : Int) - 1).toNat]? = some (r.1, r.2.1, f + g.length - 1, r.2.2.2) := List.getElem?_set_self (by omega)
        refine w_region ?_
        refine wl_det rfl rfl rfl (op_move rfl) ?_
        refine wl_det rfl rfl rfl (op_nilCheck rfl) ?_
        refine wl_det rfl rfl rfl (op_fieldAddr (off := 2) rfl tF76_2wk) ?_
        refine wl_det rfl rfl rfl (op_load1 rfl tO73wk (Ent.lab (l := 611) rfl (says_cel 2))) ?_
        refine wl_det rfl rfl rfl (op_move rfl) ?_
        refine wl_det rfl rfl rfl (op_sub' rfl rfl (by omega)) ?_
        refine wl_det rfl rfl rfl (op_idxZ rfl rfl tS73wk (Sl.ent (Sl.lab 612 rfl (by unfold maxLen; omega))) (by omega) (by omega)) ?_
        refine wl_det rfl rfl rfl (op_fieldAddr (off := 3) rfl tF87_3wk) ?_
        refine wl_det rfl rfl rfl (op_ldxf rfl tO3wk (Sl.lab 612 rfl (by unfold maxLen; omega)) (by assumption) (by rfl)) ?_
        refine wl_det rfl rfl rfl (op_val (v' := .int .i64 ((r.2.2.2 + 1 : Nat) : Int)) (by rfl) (op_add' rfl rfl (by dsimp only; omega))) ?_
        refine wl_det rfl rfl rfl (op_idxZ rfl rfl tS73wk (Sl.ent (Sl.lab 612 rfl (by unfold maxLen; omega))) (by omega) (by omega)) ?_
        refine wl_det rfl rfl rfl (op_fieldAddr (off := 3) rfl tF87_3wk) ?_
        refine wl_op0 [612] rfl rfl rfl (op_storeX (lab := 612) (j := 3) (b' := (r.1, r.2.1, f + g.length - 1, r.2.2.2 + 1)) rfl rfl tO3wk rfl rfl (by rfl) hr2 (Nat.le_of_ble_eq_true rfl) (by rfl)) ?_
        rintro _ _ ⟨rfl, rfl⟩
        refine wl_nil ?_
        refine st_tn ?_
        refine w_ret ?_
        refine st_tr ?_
        refine st_ret (vs := []) [611, 612, 613] Try.results49 trivial rfl ?_
        refine ⟨[(611, _), (612, _), (613, _)], rfl, ?_⟩
        have h := noteR_old (n := n) (f := f) (k := g.length) hr (by omega) hz
        have hlen : (noteR v.rows n f g.length).length = v.rows.length := by rw [h, List.length_set]
        refine ⟨a, c, D, hD, rfl, ?_⟩
        rw [cellL_len hlen, hlen, h, List.set_set]
      · -- c52.f
        refine w_skip ?_
        refine st_tn ?_
        refine w_region ?_
        refine wl_det rfl rfl rfl (op_move rfl) ?_
        refine wl_det rfl rfl rfl (op_move rfl) ?_
        refine wl_det rfl rfl rfl (op_nilCheck rfl) ?_
        refine wl_det rfl rfl rfl (op_fieldAddr (off := 2) rfl tF76_2wk) ?_
        refine wl_det rfl rfl rfl (op_load1 rfl tO73wk (Ent.lab (l := 611) rfl (says_cel 2))) ?_
        refine wl_det rfl rfl rfl (op_move rfl) ?_
        refine wl_det rfl rfl rfl (op_move rfl) ?_
        refine wl_det rfl rfl rfl (op_move rfl) ?_
        refine wl_det rfl rfl rfl (op_build tB87wk rfl rfl) ?_
        refine wl_op [] rfl rfl rfl rfl (op_buildSlice (enc := encRow) (l := [(n, f, f + g.length - 1, 1)]) (lab := 83) tL73_1wk rfl rfl (fun _ => rfl) rfl) ?_
        rintro _ _ ⟨a83, c83, rfl, rfl⟩
        refine wl_op [612] rfl rfl rfl rfl (op_append (lab := 612) (lab' := 84) rfl rfl tP73wk enc1Row (Sl.lab 83 rfl (by simp [maxLen])) (by simp; omega) (by simp; omega)) ?_
        rintro _ _ ⟨a84, c84, rfl, rfl⟩
        refine wl_det rfl rfl rfl (op_nilCheck rfl) ?_
        refine wl_det rfl rfl rfl (op_fieldAddr (off := 2) rfl tF76_2wk) ?_
        refine wl_op0 [611] rfl rfl rfl (op_store rfl rfl tZ73wk (by rfl) (by rfl) (by exact Nat.le_of_ble_eq_true rfl)) ?_
        rintro _ _ ⟨rfl, rfl⟩
        refine wl_nil ?_
        refine st_end (vs := []) [611, 84, 613] Try.results49 trivial rfl ?_
        refine ⟨[(611, _), (612, _), (613, _)], rfl, ?_⟩
        have h := noteR_new (R := v.rows) (n := n) (f := f) (k := g.length) (fun q hq => by
          rw [last_at hr] at hq
          simp at hq; subst hq; omega)
        rw [h]; exact ⟨_, _, D, hD, rfl, rfl⟩
    · -- hz-
      refine w_region ?_
      refine wl_det rfl rfl rfl (op_move rfl) ?_
      refine wl_det rfl rfl rfl (op_val (v' := .bool false) (by rw [decide_eq_false (by omega)]) (op_gtr rfl rfl)) ?_
      refine wl_det rfl rfl rfl (op_move rfl) ?_
      refine wl_unwanted rfl rfl rfl rfl rfl rfl rfl rfl ?_
      refine wl_unwanted rfl rfl rfl rfl rfl rfl rfl rfl ?_
      refine wl_unwanted rfl rfl rfl rfl rfl rfl rfl rfl ?_
      refine wl_unwanted rfl rfl rfl rfl rfl rfl rfl rfl ?_
      refine wl_unwanted rfl rfl rfl rfl rfl rfl rfl rfl ?_
      refine wl_unwanted rfl rfl rfl rfl rfl rfl rfl rfl ?_
      refine wl_unwanted rfl rfl rfl rfl rfl rfl rfl rfl ?_
      refine wl_unwanted rfl rfl rfl rfl rfl rfl rfl rfl ?_
      refine wl_unwanted rfl rfl rfl rfl rfl rfl rfl rfl ?_
      refine wl_unwanted rfl rfl rfl rfl rfl rfl rfl rfl ?_
      refine wl_unwanted rfl rfl rfl rfl rfl rfl rfl rfl ?_
      refine wl_det rfl rfl rfl (op_pick_f rfl rfl) ?_
      refine wl_nil ?_
      refine st_tn ?_
      refine w_cond_f (rfl) ?_
      refine w_skip ?_
      refine st_tn ?_
      refine w_region ?_
      refine wl_det rfl rfl rfl (op_move rfl) ?_
      refine wl_det rfl rfl rfl (op_move rfl) ?_
      refine wl_det rfl rfl rfl (op_nilCheck rfl) ?_
      refine wl_det rfl rfl rfl (op_fieldAddr (off := 2) rfl tF76_2wk) ?_
      refine wl_det rfl rfl rfl (op_load1 rfl tO73wk (Ent.lab (l := 611) rfl (says_cel 2))) ?_
      refine wl_det rfl rfl rfl (op_move rfl) ?_
      refine wl_det rfl rfl rfl (op_move rfl) ?_
      refine wl_det rfl rfl rfl (op_move rfl) ?_
      refine wl_det rfl rfl rfl (op_build tB87wk rfl rfl) ?_
      refine wl_op [] rfl rfl rfl rfl (op_buildSlice (enc := encRow) (l := [(n, f, f + g.length - 1, 1)]) (lab := 83) tL73_1wk rfl rfl (fun _ => rfl) rfl) ?_
      rintro _ _ ⟨a83, c83, rfl, rfl⟩
      refine wl_op [612] rfl rfl rfl rfl (op_append (lab := 612) (lab' := 84) rfl rfl tP73wk enc1Row (Sl.lab 83 rfl (by simp [maxLen])) (by simp; omega) (by simp; omega)) ?_
      rintro _ _ ⟨a84, c84, rfl, rfl⟩
      refine wl_det rfl rfl rfl (op_nilCheck rfl) ?_
      refine wl_det rfl rfl rfl (op_fieldAddr (off := 2) rfl tF76_2wk) ?_
      refine wl_op0 [611] rfl rfl rfl (op_store rfl rfl tZ73wk (by rfl) (by rfl) (by exact Nat.le_of_ble_eq_true rfl)) ?_
      rintro _ _ ⟨rfl, rfl⟩
      refine wl_nil ?_
      refine st_end (vs := []) [611, 84, 613] Try.results49 trivial rfl ?_
      refine ⟨[(611, _), (612, _), (613, _)], rfl, ?_⟩
      have h := noteR_new (R := v.rows) (n := n) (f := f) (k := g.length) (fun q hq => by
        have : v.rows = [] := List.eq_nil_of_length_eq_zero (by omega)
        rw [this] at hq; simp at hq)
      rw [h]; exact ⟨_, _, D, hD, rfl, rfl⟩

end Go.Proofs.Ytcbigmgakdanjaa
namespace Go.Proofs.Ytcbigmgakdanjaa
open Go Go.SL Go.RowKit Go.RdM Go.WalM
set_option linter.unusedVariables false
set_option linter.unusedSimpArgs false
theorem tF76_0wl : fieldB Try.prog 76 0 0 = true := by kernel_rfl
theorem tF76_3wl : fieldB Try.prog 76 3 3 = true := by kernel_rfl
theorem tMixwl : Try.prog.follows .mixedOrders = true := by kernel_rfl
theorem tO22wl : oneB Try.prog 22 = true := by kernel_rfl
theorem tO74wl : oneB Try.prog 74 = true := by kernel_rfl
theorem tQ74wl : mapB Try.prog 74 3 9 KZ.desc := ⟨Try.underlying74, Try.underlying3⟩

abbrev Row := Nat × Nat × Nat × Nat
abbrev RowL := List Row
abbrev OA := Option Addr
/-- The number behind the first j groups. -/
def fJ (f : Nat) (gs : List (List RdM.Bs)) (j : Nat) : Nat := f + (gs.take j).flatten.length
/-- The rows behind the first j groups. -/
def rowsJ (R : List Row) (n f : Nat) (gs : List (List RdM.Bs)) (j : Nat) : List Row := if j = 0 then R else R ++ [(n, f, fJ f gs j - 1, j)]
theorem fJ_zero (f : Nat) (gs : List (List RdM.Bs)) : fJ f gs 0 = f := by unfold fJ; simp
theorem fJ_succ {f : Nat} {gs : List (List RdM.Bs)} {j : Nat} {g : List RdM.Bs} (h : gs[j]? = some g) : fJ f gs (j + 1) = fJ f gs j + g.length := by
  unfold fJ; rw [take_snoc h, List.flatten_append, List.length_append]; simp [Nat.add_assoc]
theorem fJ_le {f : Nat} (gs : List (List RdM.Bs)) (j : Nat) : f ≤ fJ f gs j ∧ fJ f gs j ≤ f + gs.flatten.length := by
  unfold fJ
  have h := congrArg (fun l => (List.flatten l).length) (List.take_append_drop j gs)
  simp only [List.flatten_append, List.length_append] at h
  omega
theorem fJ_all {f : Nat} {gs : List (List RdM.Bs)} {j : Nat} (h : gs.length ≤ j) : fJ f gs j = f + gs.flatten.length := by unfold fJ; rw [take_all h]
theorem rowsJ_succ {R : List Row} {n f : Nat} {gs : List (List RdM.Bs)} {j : Nat} {g : List RdM.Bs} (hR : ∀ r, R.getLast? = some r → r.1 ≠ n) (h : gs[j]? = some g) : noteR (rowsJ R n f gs j) n (fJ f gs j) g.length = rowsJ R n f gs (j + 1) := by
  unfold rowsJ
  rw [if_neg (by omega : ¬ j + 1 = 0), fJ_succ h]
  by_cases h0 : j = 0
  · subst h0
    rw [if_pos rfl, noteR_new hR, fJ_zero]
  · rw [if_neg h0]
    unfold noteR
    rw [List.getLast?_concat]
    dsimp only
    rw [if_pos rfl, List.dropLast_concat]
theorem rowsJ_len (R : List Row) (n f : Nat) (gs : List (List RdM.Bs)) (j : Nat) : (rowsJ R n f gs j).length ≤ R.length + 1 := by
  unfold rowsJ; split <;> simp
theorem rowsJ_mem {R : List Row} {n f : Nat} {gs : List (List RdM.Bs)} {j : Nat} {r : Row} (h : r ∈ rowsJ R n f gs j) : r ∈ R ∨ r = (n, f, fJ f gs j - 1, j) := by
  unfold rowsJ at h
  split at h
  · exact .inl h
  · rcases List.mem_append.1 h with h | h
    · exact .inl h
    · exact .inr (List.mem_singleton.1 h)
theorem rowsJ_last {v : Lr} (hb : v.broken = false) {n f : Nat} {gs : List (List RdM.Bs)} {j : Nat} (hj : 0 < j) : lastV { v with rows := rowsJ v.rows n f gs j } = fJ f gs j - 1 := by
  unfold lastV rowsJ
  rw [if_neg (by simp [hb])]
  dsimp only
  rw [if_neg (by omega : ¬ j = 0), List.getLast?_concat]
theorem encGs_at {f : Nat} {gs : List (List RdM.Bs)} {j : Nat} {g : List RdM.Bs} (h : gs[j]? = some g) : encGs f gs = encGs f (gs.take j) ++ encG (fJ f gs j) g ++ encGs (fJ f gs j + g.length) (gs.drop (j + 1)) := by
  have hlt := (List.getElem?_eq_some_iff.1 h).1
  have hre := (List.getElem?_eq_some_iff.1 h).2
  have hspl : gs = gs.take j ++ g :: gs.drop (j + 1) := by rw [← hre, ← List.drop_eq_getElem_cons hlt, List.take_append_drop]
  conv => lhs; rw [hspl]
  rw [encGs_app, encGs, List.append_assoc]; rfl
theorem encGs_snoc {f : Nat} {gs : List (List RdM.Bs)} {j : Nat} {g : List RdM.Bs} (h : gs[j]? = some g) : encGs f (gs.take (j + 1)) = encGs f (gs.take j) ++ encG (fJ f gs j) g := by
  rw [take_snoc h, encGs_app, encGs_one]; rfl
theorem gs_len {gs : List (List RdM.Bs)} (h : ∀ g ∈ gs, OkG g) : gs.length ≤ gs.flatten.length := by
  induction gs with
  | nil => simp
  | cons g gs ih =>
    have h1 := List.length_pos_iff.2 (h g (by simp)).ne
    have h2 := ih fun x hx => h x (by simp [hx])
    rw [List.flatten_cons, List.length_append, List.length_cons]; omega
theorem encGs_take_le (f : Nat) (gs : List (List RdM.Bs)) (j : Nat) : (encGs f (gs.take j)).length ≤ (encGs f gs).length := by
  conv => rhs; rw [← List.take_append_drop j gs, encGs_app]
  rw [List.length_append]; omega
theorem torn_no {f : Nat} {gs : List (List RdM.Bs)} {t : RdM.Bs} (ht : Torn (f + gs.flatten.length) t) (h0 : t ≠ []) (hf : f + gs.flatten.length ≤ 1099511627776) : (rdN (encGs f gs ++ t) (rdT (encGs f gs ++ t) 1073741824 ⟨(encGs f gs).length, 0⟩).2).2.e ≠ 0 := by
  rcases ht with h | ⟨g, j, hg, hj, rfl⟩
  · exact absurd h h0
  · exact torn_none hf hg hj rfl
set_option maxHeartbeats 4000000 in
set_option maxRecDepth 100000 in
theorem load_any {σ : World} {F : List Res} {b d m c cp F0 mm : Nat} {nm : RdM.Bs} {v : Lr} {a p : Option Addr} {l : List (Int × List UInt8)} {all : List RdM.Bs} {gs : List (List RdM.Bs)} {t : RdM.Bs} {s : DskM.St} {lf : DskM.Files} (n f : Nat)
    (hgD : DskM.Good s) (hpD : lf.Perm s.fs) (hdk : Ent σ F (At ⟨d, 0, none⟩ (cellD s mm))) (hmk : Mr σ F KL DskM.encF (.map (some mm)) lf) (hfile : DskM.readO s (fileN nm n) false = (encGs f gs ++ t, 0))
    (hnm : nm.length ≤ 64) (hn : n ≤ 999999) (hgs : gs ≠ []) (hok : ∀ g ∈ gs, OkG g) (ht : Torn (f + gs.flatten.length) t) (hsz : (encGs f gs ++ t).length ≤ 1099511627776) (hf : f + gs.flatten.length ≤ 1099511627776)
    (hm : IsMap l F0 all) (hfa : f = F0 + all.length) (hb : v.broken = false) (hlv : all ≠ [] → lastV v + 1 = f) (hR : ∀ r, v.rows.getLast? = some r → r.1 ≠ n) (hrl : v.rows.length ≤ 1048576) (hgr : ∀ r ∈ v.rows, r.2.2.2 ≤ 1099511627776) :
    FnT Try.prog σ F 53 [.pointer (some ⟨b, 0, none⟩), .int .i64 n] [(611, cel b (cellL d nm v m a c p cp) 76), (612, slW 87 encRow 4 (.slice a v.rows.length c) v.rows), (613, mp KZ encSV m l)] (fun u ρ => ∃ a' c' l', IsMap l' F0 (all ++ gs.flatten) ∧ u = .int .i64 0 ∧ ρ = [(611, cel b (cellL d nm { v with rows := v.rows ++ [(n, f, f + gs.flatten.length - 1, gs.length)] } m a' c' p cp) 76), (612, slW 87 encRow 4 (.slice a' (v.rows ++ [(n, f, f + gs.flatten.length - 1, gs.length)]).length c') (v.rows ++ [(n, f, f + gs.flatten.length - 1, gs.length)])), (613, mp KZ encSV m l')]) := by
  refine fn_of 56 Try.func53 rfl Try.ntmps53 rfl ?_
  have hgl := List.length_pos_iff.2 hgs
  have hgc := gs_len hok
  have hfin : rowsJ v.rows n f gs gs.length = v.rows ++ [(n, f, f + gs.flatten.length - 1, gs.length)] := by unfold rowsJ; rw [if_neg (by omega), fJ_all (Nat.le_refl _)]
  refine w_seq ?_
  refine w_region ?_
  refine wl_det rfl rfl rfl (op_assign rfl) ?_
  refine wl_nil ?_
  refine st_tn ?_
  refine w_seq ?_
  refine w_draw (D := [⟨12, [], [], [], _, false, [], []⟩, ⟨13, [0], [], [], _, false, [], []⟩, ⟨14, [1], [], [], _, false, [], []⟩, ⟨15, [2], [], [], _, false, [], []⟩, ⟨16, [], [], [], _, false, [], []⟩, ⟨17, [], [], [], _, false, [], []⟩, ⟨18, [4, 5], [], [], _, false, [], []⟩, ⟨19, [3, 6], [], [], _, false, [], []⟩, ⟨11, [7], [], [], _, false, [], []⟩, ⟨20, [8], [], [], _, false, [], []⟩, ⟨21, [8], [], [], _, false, [], []⟩, ⟨5, [9], [], [], _, false, [], []⟩]) [] [0, 1] [⟨12, [], [], false, [], []⟩, ⟨13, [0], [], false, [], []⟩, ⟨14, [1], [], false, [], []⟩, ⟨15, [2], [], false, [], []⟩, ⟨16, [], [], false, [], []⟩, ⟨17, [], [], false, [], []⟩, ⟨18, [4, 5], [], false, [], []⟩, ⟨19, [3, 6], [], false, [], []⟩, ⟨11, [7], [], false, [], []⟩, ⟨20, [8], [], false, [], []⟩, ⟨21, [8], [], false, [], []⟩, ⟨5, [9], [], false, [], []⟩] tMixwl (by rfl) (by kernel_rfl) (by rfl) (by rfl)
      ⟨.plain rfl (by intro X; exact op_move rfl),
      ⟨.plain rfl (by intro X; rintro _ _ ⟨rfl, rfl⟩; exact op_nilCheck rfl),
      ⟨.plain rfl (by intro X; rintro _ _ ⟨rfl, rfl⟩; exact op_fieldAddr (off := 0) rfl tF76_0wl),
      ⟨.plain rfl (by intro X; rintro _ _ ⟨rfl, rfl⟩; exact op_load1 rfl tO22wl (Ent.lab (l := 611) rfl (says_cel 0))),
      ⟨.plain rfl (by intro X; exact op_move rfl),
      ⟨.plain rfl (by intro X; exact op_move rfl),
      ⟨.plain rfl (by intro X; rintro _ _ ⟨rfl, rfl⟩ _ _ ⟨rfl, rfl⟩; exact op_fn Try.func45 rfl rfl rfl (file_any n hn hnm (celLg 611 rfl))),
      ⟨.plain rfl (by intro X; rintro _ _ ⟨rfl, rfl⟩ _ _ ⟨rfl, rfl⟩; exact op_fn Try.func71 rfl rfl rfl (read_to (m := mm) hfile hgD hpD (by rw [len_fileN]; unfold maxLen; omega) (Ent.app (Ent.app hdk X) _) (Ent.app (Ent.app hmk X) _))),
      ⟨.plain rfl (by intro X; rintro _ _ ⟨rfl, rfl⟩; exact op_move rfl),
      ⟨.plain rfl (by intro X; rintro _ _ ⟨rfl, rfl⟩; exact op_extract rfl rfl),
      ⟨.plain rfl (by intro X; rintro _ _ ⟨rfl, rfl⟩; exact op_extract rfl rfl),
      ⟨.plain rfl (by intro X; rintro _ _ ⟨rfl, rfl⟩; exact op_assign rfl),
      trivial⟩⟩⟩⟩⟩⟩⟩⟩⟩⟩⟩⟩ ?_
  rintro _ _ ⟨rfl, rfl⟩ _ _ ⟨rfl, rfl⟩ _ _ ⟨rfl, rfl⟩ _ _ ⟨rfl, rfl⟩ _ _ ⟨rfl, rfl⟩ _ _ ⟨rfl, rfl⟩ _ _ ⟨rfl, rfl⟩ _ _ ⟨rfl, rfl⟩ _ _ ⟨rfl, rfl⟩ _ _ ⟨rfl, rfl⟩ _ _ ⟨rfl, rfl⟩ _ _ ⟨rfl, rfl⟩
  refine wl_norm (e' := [(0, _), (1, _), (5, _), (21, _)]) (.cons rfl (.cons rfl (.cons rfl (.cons rfl (.nil _))))) (by dsimp only [cond_false, cond_true, List.nil_append, List.cons_append]) ?_
  refine wl_det rfl rfl rfl (op_assign rfl) ?_
  refine wl_nil ?_
  refine st_tn ?_
  refine w_seq ?_
  refine w_seq ?_
  refine w_region ?_
  refine wl_det rfl rfl rfl (op_move rfl) ?_
  refine wl_det rfl rfl rfl (op_val (v' := .bool false) (by simp) (op_neq rfl rfl)) ?_
  refine wl_nil ?_
  refine st_tn ?_
  refine w_cond_f (rfl) ?_
  refine w_skip ?_
  refine st_tn ?_
  refine w_seq ?_
  refine w_region ?_
  refine wl_det rfl rfl rfl (op_move rfl) ?_
  refine wl_op [] rfl rfl rfl rfl (op_fn Try.func72 rfl rfl rfl (rnew_any 600 (encGs f gs ++ t))) ?_
  rintro _ _ ⟨b26, rfl, rfl⟩
  refine wl_det rfl rfl rfl (op_assign rfl) ?_
  refine wl_nil ?_
  refine st_tn ?_
  refine w_seq ?_
  refine w_block ?_
  refine w_loopQ (X := Nat × RowL × OA × Nat × RdM.Rd × List (Int × List UInt8)) (fun z => z.1 ≤ gs.length ∧ z.2.1 = rowsJ v.rows n f gs z.1 ∧ IsMap z.2.2.2.2.2 F0 (all ++ (gs.take z.1).flatten) ∧ z.2.2.2.2.1 = ⟨(encGs f (gs.take z.1)).length, 0⟩) (fun z => []) (fun z => [(613, mp KZ encSV m (z.2.2.2.2.2)), (611, cel b (cellL d nm { v with rows := (z.2.1) } m (z.2.2.1) (z.2.2.2.1) p cp) 76), (612, slW 87 encRow 4 (.slice (z.2.2.1) (z.2.1).length (z.2.2.2.1)) (z.2.1)), (600, cel b26 (cellR (encGs f gs ++ t) (z.2.2.2.2.1)) 130)]) (fun z => gs.length - z.1) ((0, v.rows, a, c, ⟨0, 0⟩, l)) [(0, _), (1, _), (7, _)] [] [613, 611, 612, 600] rfl (rfl) (.nil _) (.cons rfl (.cons rfl (.cons rfl (.nil _)))) (by
      try dsimp only
      exact ⟨Nat.zero_le _, rfl, by simpa using hm, rfl⟩) ?_
  rintro ⟨j, R, a2, c2, r, D⟩ ⟨hj0, hRj, hD, hr⟩
  refine w_norm2 (by dsimp only [List.cons_append, List.nil_append]) (by dsimp only [List.cons_append, List.nil_append]) ?_
  try dsimp only at hj0 hRj hD hr ⊢
  refine w_seq ?_
  refine w_seq ?_
  have hrat := encGs_take_le f gs j
  have hr2 : r.at_ = (encGs f (gs.take j)).length := by rw [hr]
  have hrat2 : r.at_ ≤ (encGs f gs ++ t).length := by rw [List.length_append]; omega
  have hRl := rowsJ_len v.rows n f gs j
  rw [← hRj] at hRl
  refine w_region ?_
  refine wl_det rfl rfl rfl (op_move rfl) ?_
  refine wl_det rfl rfl rfl (op_fn Try.func73 rfl rfl rfl (rleft_any hrat2 hsz (celR 600 rfl))) ?_
  refine wl_det rfl rfl rfl (op_gtr rfl rfl) ?_
  refine wl_nil ?_
  refine st_tn ?_
  refine w_cond_d rfl (fun hc29 => ?_) (fun hc29 => ?_)
  · -- c29.t
    refine w_skip ?_
    refine st_tn ?_
    refine w_block ?_
    refine w_seq ?_
    by_cases hj : j < gs.length
    · -- hj+
      obtain ⟨g, hg⟩ := getE (l := gs) (i := j) (by omega)
      have hgok := hok g (List.mem_of_getElem? hg)
      have hgl1 := List.length_pos_iff.2 hgok.ne
      have hgl2 := hgok.len
      have hfj := fJ_le (f := f) gs j
      have hfs := fJ_succ (f := f) hg
      have hfj2 := fJ_le (f := f) gs (j + 1)
      have hS : encGs f gs ++ t = encGs f (gs.take j) ++ encG (fJ f gs j) g ++ (encGs (fJ f gs j + g.length) (gs.drop (j + 1)) ++ t) := by rw [encGs_at hg]; simp only [List.append_assoc]
      have hnote := rowsJ_succ (R := v.rows) (n := n) (f := f) hR hg
      rw [← hRj] at hnote
      rw [hr]
      refine w_region ?_
      refine wl_det rfl rfl rfl (op_move rfl) ?_
      refine wl_op [600] rfl rfl rfl rfl (op_fn Try.func74 rfl rfl rfl (dec_ok 32 hgok (by omega) hS hsz)) ?_
      rintro _ _ ⟨a32, c32, rfl, rfl⟩
      refine wl_det rfl rfl rfl (op_move rfl) ?_
      refine wl_det rfl rfl rfl (op_extract rfl rfl) ?_
      refine wl_det rfl rfl rfl (op_extract rfl rfl) ?_
      refine wl_det rfl rfl rfl (op_extract rfl rfl) ?_
      refine wl_det rfl rfl rfl (op_assign rfl) ?_
      refine wl_det rfl rfl rfl (op_assign rfl) ?_
      refine wl_det rfl rfl rfl (op_assign rfl) ?_
      refine wl_nil ?_
      refine st_tn ?_
      refine w_seq ?_
      refine w_seq ?_
      refine w_region ?_
      refine wl_det rfl rfl rfl (op_move rfl) ?_
      refine wl_det rfl rfl rfl (op_not_t rfl) ?_
      refine wl_nil ?_
      refine st_tn ?_
      refine w_cond_f (rfl) ?_
      refine w_skip ?_
      refine st_tn ?_
      refine w_seq ?_
      refine w_seq ?_
      by_cases hz : 0 < D.length
      · -- hz+
        have hlast : lastV { v with rows := R } = fJ f gs j - 1 ∧ 1 ≤ fJ f gs j := by
          rcases Nat.eq_zero_or_pos j with h0 | h0
          · subst h0
            have hDl := hD.2.1
            have hall : all ≠ [] := fun h => by subst h; simp at hDl; rw [hDl] at hz; simp at hz
            have h1 := hlv hall
            have h2 : R = v.rows := by rw [hRj]; unfold rowsJ; rw [if_pos rfl]
            rw [h2, fJ_zero]
            exact ⟨by show lastV v = _; omega, by omega⟩
          · have h1 := rowsJ_last (v := v) hb (n := n) (f := f) (gs := gs) h0
            rw [← hRj] at h1
            refine ⟨h1, ?_⟩
            have h3 := gs_len (gs := gs.take j) fun x hx => hok x (List.mem_of_mem_take hx)
            rw [List.length_take] at h3
            unfold fJ; omega
        refine w_region ?_
        refine wl_det rfl rfl rfl (op_move rfl) ?_
        refine wl_det rfl rfl rfl (op_nilCheck rfl) ?_
        refine wl_det rfl rfl rfl (op_fieldAddr (off := 3) rfl tF76_3wl) ?_
        refine wl_det rfl rfl rfl (op_load1 rfl tO74wl (Ent.lab (l := 611) rfl (says_cel 3))) ?_
        refine wl_det rfl rfl rfl (op_lenM (kt := KZ) (encV := encSV) rfl tQ74wl (Mr.lab 613 rfl)) ?_
        refine wl_det rfl rfl rfl (op_val (v' := .bool true) (by rw [decide_eq_true (by omega)]) (op_gtr rfl rfl)) ?_
        refine wl_det rfl rfl rfl (op_move rfl) ?_
        refine wl_wanted_det rfl rfl rfl rfl rfl rfl rfl (op_move rfl) ?_
        refine wl_wanted_det rfl rfl rfl rfl rfl rfl rfl (op_move rfl) ?_
        refine wl_wanted_det rfl rfl rfl rfl rfl rfl rfl (op_val (v' := .int .i64 ((fJ f gs j - 1 : Nat) : Int)) (by rw [hlast.1]) (op_fn Try.func17 rfl rfl rfl (last_any (v := { v with rows := R }) (celLg 611 rfl) (Sl.lab 612 rfl (by show R.length ≤ _; unfold maxLen; omega))))) ?_
        refine wl_wanted_det rfl rfl rfl rfl rfl rfl rfl (op_add' rfl rfl (by omega)) ?_
        refine wl_wanted_det rfl rfl rfl rfl rfl rfl rfl (op_val (v' := .bool false) (by rw [decide_eq_false (by omega)]) (op_neq rfl rfl)) ?_
        refine wl_det rfl rfl rfl (op_pick_t rfl rfl) ?_
        refine wl_nil ?_
        refine st_tn ?_
        refine w_cond_f (rfl) ?_
        refine w_skip ?_
        refine st_tn ?_
        refine w_region ?_
        refine wl_det rfl rfl rfl (op_move rfl) ?_
        refine wl_det rfl rfl rfl (op_move rfl) ?_
        refine wl_det rfl rfl rfl (op_move rfl) ?_
        refine wl_det rfl rfl rfl (op_move rfl) ?_
        refine wl_op [611, 612, 613] rfl rfl rfl rfl (op_fn Try.func49 rfl rfl rfl (note_any (v := { v with rows := R }) (F0 := F0) (all := all ++ (gs.take j).flatten) n (fJ f gs j) (Sl.lab 32 rfl (by unfold maxLen; omega)) ⟨hgl1, by omega⟩ hn (by omega) hD (by unfold fJ; rw [List.length_append]; omega) (by show R.length ≤ _; omega) (fun r hr => by rcases rowsJ_mem (hRj ▸ hr) with h | h; (· exact hgr r h); (· subst h; show j ≤ _; omega)))) ?_
        rintro _ _ ⟨a55, c55, l55, hl55, rfl, rfl⟩
        refine wl_nil ?_
        refine st_bn ?_
        refine st_roundQ (x := (j, R, a2, c2, r, D)) ((j + 1, rowsJ v.rows n f gs (j + 1), a55, c55, ⟨(encGs f (gs.take (j + 1))).length, 0⟩, l55)) [613, 611, 612, 600] rfl (by rw [hnote, encGs_snoc hg]; rfl) (.nil _) (.cons rfl (.cons rfl (.cons rfl (.nil _)))) (by
            try dsimp only
            exact ⟨by omega, rfl, by rw [take_snoc hg, List.flatten_append, ← List.append_assoc]; simpa using hl55, rfl⟩) (by
            try dsimp only
            omega) 
      · -- hz-
        refine w_region ?_
        refine wl_det rfl rfl rfl (op_move rfl) ?_
        refine wl_det rfl rfl rfl (op_nilCheck rfl) ?_
        refine wl_det rfl rfl rfl (op_fieldAddr (off := 3) rfl tF76_3wl) ?_
        refine wl_det rfl rfl rfl (op_load1 rfl tO74wl (Ent.lab (l := 611) rfl (says_cel 3))) ?_
        refine wl_det rfl rfl rfl (op_lenM (kt := KZ) (encV := encSV) rfl tQ74wl (Mr.lab 613 rfl)) ?_
        refine wl_det rfl rfl rfl (op_val (v' := .bool false) (by rw [decide_eq_false (by omega)]) (op_gtr rfl rfl)) ?_
        refine wl_det rfl rfl rfl (op_move rfl) ?_
        refine wl_unwanted rfl rfl rfl rfl rfl rfl rfl rfl ?_
        refine wl_unwanted rfl rfl rfl rfl rfl rfl rfl rfl ?_
        refine wl_unwanted rfl rfl rfl rfl rfl rfl rfl rfl ?_
        refine wl_unwanted rfl rfl rfl rfl rfl rfl rfl rfl ?_
        refine wl_unwanted rfl rfl rfl rfl rfl rfl rfl rfl ?_
        refine wl_det rfl rfl rfl (op_pick_f rfl rfl) ?_
        refine wl_nil ?_
        refine st_tn ?_
        refine w_cond_f (rfl) ?_
        refine w_skip ?_
        refine st_tn ?_
        refine w_region ?_
        refine wl_det rfl rfl rfl (op_move rfl) ?_
        refine wl_det rfl rfl rfl (op_move rfl) ?_
        refine wl_det rfl rfl rfl (op_move rfl) ?_
        refine wl_det rfl rfl rfl (op_move rfl) ?_
        refine wl_op [611, 612, 613] rfl rfl rfl rfl (op_fn Try.func49 rfl rfl rfl (note_any (v := { v with rows := R }) (F0 := F0) (all := all ++ (gs.take j).flatten) n (fJ f gs j) (Sl.lab 32 rfl (by unfold maxLen; omega)) ⟨hgl1, by omega⟩ hn (by omega) hD (by unfold fJ; rw [List.length_append]; omega) (by show R.length ≤ _; omega) (fun r hr => by rcases rowsJ_mem (hRj ▸ hr) with h | h; (· exact hgr r h); (· subst h; show j ≤ _; omega)))) ?_
        rintro _ _ ⟨a55, c55, l55, hl55, rfl, rfl⟩
        refine wl_nil ?_
        refine st_bn ?_
        refine st_roundQ (x := (j, R, a2, c2, r, D)) ((j + 1, rowsJ v.rows n f gs (j + 1), a55, c55, ⟨(encGs f (gs.take (j + 1))).length, 0⟩, l55)) [613, 611, 612, 600] rfl (by rw [hnote, encGs_snoc hg]; rfl) (.nil _) (.cons rfl (.cons rfl (.cons rfl (.nil _)))) (by
            try dsimp only
            exact ⟨by omega, rfl, by rw [take_snoc hg, List.flatten_append, ← List.append_assoc]; simpa using hl55, rfl⟩) (by
            try dsimp only
            omega) 
    · -- hj-
      have hjl : j = gs.length := by omega
      subst hjl
      have htn : t ≠ [] := fun h => by subst h; rw [List.take_length] at hr2; rw [List.append_nil] at hc29; omega
      have hno := torn_no ht htn hf
      rw [hr, List.take_length]
      refine w_region ?_
      refine wl_det rfl rfl rfl (op_move rfl) ?_
      refine wl_op [600] rfl rfl rfl rfl (op_fn Try.func74 rfl rfl rfl (dec_no hno hsz)) ?_
      rintro _ _ ⟨rfl, rfl⟩
      refine wl_det rfl rfl rfl (op_move rfl) ?_
      refine wl_det rfl rfl rfl (op_extract rfl rfl) ?_
      refine wl_det rfl rfl rfl (op_extract rfl rfl) ?_
      refine wl_det rfl rfl rfl (op_extract rfl rfl) ?_
      refine wl_det rfl rfl rfl (op_assign rfl) ?_
      refine wl_det rfl rfl rfl (op_assign rfl) ?_
      refine wl_det rfl rfl rfl (op_assign rfl) ?_
      refine wl_nil ?_
      refine st_tn ?_
      refine w_seq ?_
      refine w_seq ?_
      refine w_region ?_
      refine wl_det rfl rfl rfl (op_move rfl) ?_
      refine wl_det rfl rfl rfl (op_not_f rfl) ?_
      refine wl_nil ?_
      refine st_tn ?_
      refine w_cond_t (rfl) ?_
      refine w_seq ?_
      refine w_region ?_
      refine wl_det rfl rfl rfl (op_assign rfl) ?_
      refine wl_nil ?_
      refine st_tn ?_
      refine w_ret ?_
      refine st_tr ?_
      refine st_br ?_
      refine st_tr ?_
      refine st_br ?_
      refine st_tr ?_
      refine st_ret (vs := [_]) [611, 612, 613] Try.results53 ⟨rfl, trivial⟩ rfl ?_
      refine ⟨[(611, _), (612, _), (613, _)], rfl, ?_⟩
      rw [List.take_length] at hD
      rw [hfin] at hRj
      subst hRj
      exact ⟨a2, c2, D, hD, rfl, rfl⟩
  · -- c29.f
    refine w_exit ?_
    refine st_te ?_
    refine st_te ?_
    refine st_be ?_
    refine st_tn ?_
    refine w_seq ?_
    refine w_region ?_
    refine wl_det rfl rfl rfl (op_assign rfl) ?_
    refine wl_nil ?_
    refine st_tn ?_
    refine w_ret ?_
    refine st_ret (vs := [_]) [611, 612, 613] Try.results53 ⟨rfl, trivial⟩ rfl ?_
    refine ⟨[(611, _), (612, _), (613, _)], rfl, ?_⟩
    have hjl : j = gs.length := by
      apply Classical.byContradiction
      intro hne
      obtain ⟨g, hg⟩ := getE (l := gs) (i := j) (by omega)
      have h1 := encGs_at (f := f) hg
      have h2 := congrArg List.length h1
      have h3 := encG_pos (fJ f gs j) g
      rw [List.length_append, List.length_append] at h2
      have h4 : (encGs f gs ++ t).length = (encGs f gs).length + t.length := List.length_append
      omega
    subst hjl
    rw [List.take_length] at hD
    rw [hfin] at hRj
    subst hRj
    exact ⟨a2, c2, D, hD, rfl, rfl⟩

end Go.Proofs.Ytcbigmgakdanjaa
