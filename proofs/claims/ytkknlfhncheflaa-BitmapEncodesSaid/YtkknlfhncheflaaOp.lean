/- Contracts of the encoding's reader, for numbers and counts. Contracts of the encoding's reader: Number, Count, Err, End, NewReader. Contracts of the reference's reader. The decoding of a set, without a program; contracts: bitmap.Decode (layer 5). Contracts: bitmap.Decode, and the reference's (layer 5). Contracts: the reference's Decode (layer 5). The law Decodes (layer 5). Contracts: the reference's Number and Encode; the law Encodes (layer 5). The form of a set is read again; contract of the reference's Encode (layer 5). The law Encodes (layer 5). Conditions: none. -/
import Derived.Test.YtkknlfhncheflaaProg
import Derived.Test.YtkknlfhncheflaaM2
import Derived.Test.YtkknlfhncheflaaSlX
import Derived.Test.YtkknlfhncheflaaSlT
import Derived.Test.YtkknlfhncheflaaB24
namespace Go.Proofs.Ytkknlfhncheflaa
open Go Go.SL Go.RowKit Go.RdM
set_option linter.unusedVariables false
set_option linter.unusedSimpArgs false
theorem tF107_0rd : fieldB Try.prog 107 0 0 = true := by kernel_rfl
theorem tO9rd : oneB Try.prog 9 = true := by kernel_rfl

theorem raw_head {s : RdM.Bs} {at_ k : Nat} {neg : Bool} {b : UInt8} (h : s[at_ + 1]? = some b) (hk : 0 < k) : (raw s at_ k neg).head? = some (flp neg b) := by
  obtain ⟨j, rfl⟩ : ∃ j, k = j + 1 := ⟨k - 1, by omega⟩
  unfold raw
  obtain ⟨h1, h2⟩ := List.getElem?_eq_some_iff.1 h
  rw [List.drop_eq_getElem_cons h1, List.take_succ_cons, List.map_cons, h2]
  rfl
theorem val_raw_lt {s : RdM.Bs} {at_ k : Nat} {neg : Bool} (hk : k ≤ s.length - (at_ + 1)) {j : Nat} (hj : k ≤ j) : val (raw s at_ k neg) < 256 ^ j := by
  have h := val_lt (raw_lt s at_ k neg)
  rw [len_raw hk] at h
  exact Nat.lt_of_lt_of_le h (Nat.pow_le_pow_right (by omega) hj)
theorem head_ne {s : RdM.Bs} {at_ k i : Nat} {neg : Bool} {c : UInt8} (h : s[at_ + 1 + i]? = some c) (hz : 0 < i → (raw s at_ k neg).head? ≠ some 0) (h2 : i = 0 → flp neg c ≠ 0) (hk : i < k) : (raw s at_ k neg).head? ≠ some 0 := by
  rcases Nat.eq_zero_or_pos i with h0 | h0
  · subst h0
    rw [raw_head h hk]
    exact fun hh => h2 rfl (by simpa using hh)
  · exact hz h0
theorem head_zero {s : RdM.Bs} {at_ k i : Nat} {neg : Bool} {c : UInt8} (h : s[at_ + 1 + i]? = some c) (hi : i = 0) (h2 : flp neg c = 0) (hk : i < k) : (raw s at_ k neg).head? = some 0 := by
  subst hi; rw [raw_head h hk, h2]
theorem raw_ne {s : RdM.Bs} {at_ k : Nat} {neg : Bool} (hk : k ≤ s.length - (at_ + 1)) (h0 : 0 < k) : raw s at_ k neg ≠ [] := fun hh => by
  have := len_raw (neg := neg) hk; rw [hh] at this; simp at this; omega
/-- The cells of a reader. -/
def cellR (s : RdM.Bs) (r : Rd) : List Value := [.string (str s), .int .i64 r.at_, .int .i64 r.e]
set_option maxHeartbeats 4000000 in
set_option maxRecDepth 100000 in
theorem num_any {σ : World} {F : List Res} {b : Nat} {s : RdM.Bs} {r : Rd} (at_ : Nat) (hb : Ent σ F (At ⟨b, 0, none⟩ (cellR s r))) (hs : s.length ≤ 1099511627776) :
    FnT Try.prog σ F 79 [.pointer (some ⟨b, 0, none⟩), .int .i64 at_] [] (fun u ρ => u = .tuple #[.int .i64 (num s at_).1, .int .i64 (num s at_).2.1, .int .i64 (num s at_).2.2] ∧ ρ = []) := by
  refine fn_of 94 Try.func79 rfl Try.ntmps79 rfl ?_
  refine w_seq ?_
  refine w_region ?_
  refine wl_det rfl rfl rfl (op_assign rfl) ?_
  refine wl_det rfl rfl rfl (op_assign rfl) ?_
  refine wl_det rfl rfl rfl (op_assign rfl) ?_
  refine wl_nil ?_
  refine st_tn ?_
  refine w_seq ?_
  refine w_seq ?_
  refine w_region ?_
  refine wl_det rfl rfl rfl (op_move rfl) ?_
  refine wl_det rfl rfl rfl (op_move rfl) ?_
  refine wl_det rfl rfl rfl (op_nilCheck rfl) ?_
  refine wl_det rfl rfl rfl (op_fieldAddr (off := 0) rfl tF107_0rd) ?_
  refine wl_det rfl rfl rfl (op_load1 rfl tO9rd (Ent.app (Ent.fld hb 0) _)) ?_
  refine wl_det rfl rfl rfl (op_lenBs rfl Try.underlying9) ?_
  refine wl_det rfl rfl rfl (op_geq rfl rfl) ?_
  refine wl_nil ?_
  refine st_tn ?_
  refine w_cond_d rfl (fun hc19 => ?_) (fun hc19 => ?_)
  · -- c19.t
    refine w_seq ?_
    refine w_region ?_
    refine wl_det rfl rfl rfl (op_assign rfl) ?_
    refine wl_det rfl rfl rfl (op_assign rfl) ?_
    refine wl_det rfl rfl rfl (op_assign rfl) ?_
    refine wl_nil ?_
    refine st_tn ?_
    refine w_ret ?_
    refine st_tr ?_
    refine st_ret (vs := [_, _, _]) [] Try.results79 ⟨rfl, ⟨rfl, ⟨rfl, trivial⟩⟩⟩ rfl ?_
    refine ⟨_, rfl, ?_⟩
    rw [num_none (by omega)]; exact ⟨rfl, rfl⟩
  · -- c19.f
    obtain ⟨b0, hb0⟩ := getE (l := s) (i := at_) (by omega)
    have hb8 := b0.toNat_lt
    have hnum := num_some hb0
    refine w_skip ?_
    refine st_tn ?_
    refine w_seq ?_
    refine w_region ?_
    refine wl_det rfl rfl rfl (op_move rfl) ?_
    refine wl_det rfl rfl rfl (op_nilCheck rfl) ?_
    refine wl_det rfl rfl rfl (op_fieldAddr (off := 0) rfl tF107_0rd) ?_
    refine wl_det rfl rfl rfl (op_load1 rfl tO9rd (Ent.app (Ent.fld hb 0) _)) ?_
    refine wl_det rfl rfl rfl (op_move rfl) ?_
    refine wl_det rfl rfl rfl (op_idxBs rfl rfl Try.underlying9 (by assumption)) ?_
    refine wl_det rfl rfl rfl (op_convI64 rfl (by rw [Try.underlying5]; rfl) Try.underlying3 (by omega)) ?_
    refine wl_det rfl rfl rfl (op_sub' rfl rfl (by omega)) ?_
    refine wl_det rfl rfl rfl (op_assign rfl) ?_
    refine wl_det rfl rfl rfl (op_assign rfl) ?_
    refine wl_nil ?_
    refine st_tn ?_
    refine w_seq ?_
    refine w_seq ?_
    refine w_region ?_
    refine wl_det rfl rfl rfl (op_move rfl) ?_
    refine wl_det rfl rfl rfl (op_lss rfl rfl) ?_
    refine wl_nil ?_
    refine st_tn ?_
    refine w_cond_d rfl (fun hc29 => ?_) (fun hc29 => ?_)
    · -- c29.t
      have hneg : decide (b0.toNat < 128) = true := by simp; omega
      have hflip : (if decide (b0.toNat < 128) = true then 255 else 0 : Int) = 255 := by rw [if_pos hneg]
      have hov : (if decide (b0.toNat < 128) = true then 1 else 0 : Nat) = 1 := by rw [if_pos hneg]
      have hk : szB b0.toNat = 128 - b0.toNat := by unfold szB; rw [if_pos (by omega)]
      refine w_region ?_
      refine wl_det rfl rfl rfl (op_move rfl) ?_
      refine wl_det rfl rfl rfl (op_neg rfl (by omega)) ?_
      refine wl_det rfl rfl rfl (op_assign rfl) ?_
      refine wl_det rfl rfl rfl (op_assign rfl) ?_
      refine wl_nil ?_
      refine st_tn ?_
      refine w_seq ?_
      refine w_seq ?_
      refine w_region ?_
      refine wl_det rfl rfl rfl (op_move rfl) ?_
      refine wl_det rfl rfl rfl (op_gtr rfl rfl) ?_
      refine wl_nil ?_
      refine st_tn ?_
      refine w_cond_d rfl (fun hc33 => ?_) (fun hc33 => ?_)
      · -- c33.t
        refine w_seq ?_
        refine w_region ?_
        refine wl_det rfl rfl rfl (op_assign rfl) ?_
        refine wl_det rfl rfl rfl (op_assign rfl) ?_
        refine wl_det rfl rfl rfl (op_assign rfl) ?_
        refine wl_nil ?_
        refine st_tn ?_
        refine w_ret ?_
        refine st_tr ?_
        refine st_ret (vs := [_, _, _]) [] Try.results79 ⟨rfl, ⟨rfl, ⟨rfl, trivial⟩⟩⟩ rfl ?_
        refine ⟨_, rfl, ?_⟩
        rw [hnum, if_pos (by omega)]; exact ⟨rfl, rfl⟩
      · -- c33.f
        refine w_skip ?_
        refine st_tn ?_
        refine w_seq ?_
        refine w_region ?_
        refine wl_det rfl rfl rfl (op_move rfl) ?_
        refine wl_det rfl rfl rfl (op_add' rfl rfl (by omega)) ?_
        refine wl_det rfl rfl rfl (op_assign rfl) ?_
        refine wl_nil ?_
        refine st_tn ?_
        refine w_seq ?_
        refine w_seq ?_
        refine w_region ?_
        refine wl_det rfl rfl rfl (op_move rfl) ?_
        refine wl_det rfl rfl rfl (op_nilCheck rfl) ?_
        refine wl_det rfl rfl rfl (op_fieldAddr (off := 0) rfl tF107_0rd) ?_
        refine wl_det rfl rfl rfl (op_load1 rfl tO9rd (Ent.app (Ent.fld hb 0) _)) ?_
        refine wl_det rfl rfl rfl (op_lenBs rfl Try.underlying9) ?_
        refine wl_det rfl rfl rfl (op_move rfl) ?_
        refine wl_det rfl rfl rfl (op_sub' rfl rfl (by omega)) ?_
        refine wl_det rfl rfl rfl (op_move rfl) ?_
        refine wl_det rfl rfl rfl (op_lss rfl rfl) ?_
        refine wl_nil ?_
        refine st_tn ?_
        refine w_cond_d rfl (fun hc44 => ?_) (fun hc44 => ?_)
        · -- c44.t
          refine w_seq ?_
          refine w_region ?_
          refine wl_det rfl rfl rfl (op_assign rfl) ?_
          refine wl_det rfl rfl rfl (op_assign rfl) ?_
          refine wl_det rfl rfl rfl (op_assign rfl) ?_
          refine wl_nil ?_
          refine st_tn ?_
          refine w_ret ?_
          refine st_tr ?_
          refine st_ret (vs := [_, _, _]) [] Try.results79 ⟨rfl, ⟨rfl, ⟨rfl, trivial⟩⟩⟩ rfl ?_
          refine ⟨_, rfl, ?_⟩
          rw [hnum, if_neg (by omega), if_pos (by omega)]; exact ⟨rfl, rfl⟩
        · -- c44.f
          refine w_skip ?_
          refine st_tn ?_
          refine w_seq ?_
          refine w_region ?_
          refine wl_det rfl rfl rfl (op_assign rfl) ?_
          refine wl_nil ?_
          refine st_tn ?_
          refine w_seq ?_
          refine w_seq ?_
          refine w_region ?_
          refine wl_det rfl rfl rfl (op_move rfl) ?_
          refine wl_nil ?_
          refine st_tn ?_
          refine w_cond_t (rfl) ?_
          refine w_region ?_
          refine wl_det rfl rfl rfl (op_assign rfl) ?_
          refine wl_nil ?_
          refine st_tn ?_
          refine w_seq ?_
          refine w_region ?_
          refine wl_det rfl rfl rfl (op_assign rfl) ?_
          refine wl_nil ?_
          refine st_tn ?_
          refine w_seq ?_
          refine w_seq ?_
          refine w_region ?_
          refine wl_det rfl rfl rfl (op_move rfl) ?_
          refine wl_det rfl rfl rfl (op_move rfl) ?_
          refine wl_nil ?_
          refine st_tn ?_
          refine w_block ?_
          refine w_loopK (X := Nat) (fun i => i ≤ szB b0.toNat ∧ (0 < i → (raw s at_ (szB b0.toNat) (decide (b0.toNat < 128))).head? ≠ some 0)) (fun i => [(10, .int .u64 (val (raw s at_ i (decide (b0.toNat < 128))) : Nat)), (47, .int .i64 i)]) (fun _ => []) (fun i => szB b0.toNat - i) (0) [(0, _), (1, _), (7, _), (8, _), (9, _), (46, _)] [] (⟨Nat.zero_le _, fun h => absurd h (Nat.lt_irrefl _)⟩) (.cons rfl (.cons rfl (.nil _))) (.cons rfl (.cons rfl (.cons rfl (.cons rfl (.cons rfl (.cons rfl (.nil _))))))) [] rfl (rfl) ?_
          rintro i ⟨hi, hz⟩
          refine w_norm2 (by dsimp only [List.cons_append, List.nil_append]) (by dsimp only [List.cons_append, List.nil_append]) ?_
          refine w_seq ?_
          refine w_region ?_
          refine wl_det rfl rfl rfl (op_lss rfl rfl) ?_
          refine wl_nil ?_
          refine st_tn ?_
          refine w_seq ?_
          refine w_cond_d rfl (fun hc48 => ?_) (fun hc48 => ?_)
          · -- c48.t
            obtain ⟨c0, hc0⟩ := getE (l := s) (i := at_ + 1 + i) (by omega)
            have hc8 := c0.toNat_lt
            have hsucc := raw_succ (neg := decide (b0.toNat < 128)) hc0
            have hlt : val (raw s at_ i (decide (b0.toNat < 128))) < 72057594037927936 := val_raw_lt (s := s) (at_ := at_) (k := i) (neg := decide (b0.toNat < 128)) (by omega) (j := 7) (by omega)
            have hfl := flp_lt (decide (b0.toNat < 128)) c0
            refine w_skip ?_
            refine st_tn ?_
            refine w_seq ?_
            refine w_block ?_
            refine w_seq ?_
            refine w_region ?_
            refine wl_det rfl rfl rfl (op_move rfl) ?_
            refine wl_det rfl rfl rfl (op_assign rfl) ?_
            refine wl_nil ?_
            refine st_tn ?_
            refine w_seq ?_
            refine w_region ?_
            refine wl_det rfl rfl rfl (op_move rfl) ?_
            refine wl_det rfl rfl rfl (op_nilCheck rfl) ?_
            refine wl_det rfl rfl rfl (op_fieldAddr (off := 0) rfl tF107_0rd) ?_
            refine wl_det rfl rfl rfl (op_load1 rfl tO9rd (Ent.app (Ent.fld hb 0) _)) ?_
            refine wl_det rfl rfl rfl (op_move rfl) ?_
            refine wl_det rfl rfl rfl (op_move rfl) ?_
            refine wl_det rfl rfl rfl (op_add' rfl rfl (by omega)) ?_
            refine wl_det rfl rfl rfl (op_idxBs rfl rfl Try.underlying9 (by assumption)) ?_
            refine wl_det rfl rfl rfl (op_move rfl) ?_
            refine wl_det rfl rfl rfl (op_val (v' := .int .u8 ((flp (decide (b0.toNat < 128)) c0 : Nat) : Int)) (by rfl) (op_xorF (decide (b0.toNat < 128)) rfl (by rw [hflip]; rfl))) ?_
            refine wl_det rfl rfl rfl (op_assign rfl) ?_
            refine wl_nil ?_
            refine st_tn ?_
            refine w_seq ?_
            refine w_seq ?_
            refine w_region ?_
            refine wl_det rfl rfl rfl (op_move rfl) ?_
            refine wl_det rfl rfl rfl (op_eql rfl rfl) ?_
            refine wl_det rfl rfl rfl (op_move rfl) ?_
            refine wl_gsplit (t := 62) rfl (fun hg62 => ?_) (fun hg62 => ?_)
            · -- 62 is True
              refine wl_wanted_det rfl rfl rfl rfl rfl rfl rfl (op_move rfl) ?_
              refine wl_wanted_det rfl rfl rfl rfl rfl rfl rfl (op_eql rfl rfl) ?_
              refine wl_det rfl rfl rfl (op_pick_t rfl rfl) ?_
              refine wl_nil ?_
              refine st_tn ?_
              refine w_cond_d rfl (fun hc65 => ?_) (fun hc65 => ?_)
              · -- c65.t
                refine w_seq ?_
                refine w_region ?_
                refine wl_det rfl rfl rfl (op_assign rfl) ?_
                refine wl_det rfl rfl rfl (op_assign rfl) ?_
                refine wl_det rfl rfl rfl (op_assign rfl) ?_
                refine wl_nil ?_
                refine st_tn ?_
                refine w_ret ?_
                refine st_tr ?_
                refine st_br ?_
                refine st_tr ?_
                refine st_tr ?_
                refine st_br ?_
                refine st_tr ?_
                refine st_ret (vs := [_, _, _]) [] Try.results79 ⟨rfl, ⟨rfl, ⟨rfl, trivial⟩⟩⟩ rfl ?_
                refine ⟨_, rfl, ?_⟩
                have hi0 : i = 0 := by simpa using hg62
                rw [hnum, if_neg (by omega), if_neg (by omega), if_pos (head_zero hc0 hi0 (by omega) (by omega))]; exact ⟨rfl, rfl⟩
              · -- c65.f
                refine w_skip ?_
                refine st_tn ?_
                refine w_region ?_
                refine wl_det rfl rfl rfl (op_move rfl) ?_
                refine wl_det rfl rfl rfl (op_shlU8 rfl rfl hlt) ?_
                refine wl_det rfl rfl rfl (op_move rfl) ?_
                refine wl_det rfl rfl rfl (op_convU64 rfl (by rw [Try.underlying5]; rfl) Try.underlying116 (by omega)) ?_
                refine wl_det rfl rfl rfl (op_val (v' := .int .u64 ((val (raw s at_ (i + 1) (decide (b0.toNat < 128))) : Nat) : Int)) (by rw [hsucc, val_snoc]) (op_orU8 rfl rfl hlt hfl)) ?_
                refine wl_det rfl rfl rfl (op_assign rfl) ?_
                refine wl_nil ?_
                refine st_bn ?_
                refine st_tn ?_
                refine w_region ?_
                refine wl_det rfl rfl rfl (op_add' rfl rfl (by omega)) ?_
                refine wl_det rfl rfl rfl (op_move rfl) ?_
                refine wl_nil ?_
                refine st_roundK (x := i) (i + 1) [] (⟨by omega, fun _ => head_ne hc0 hz (by intro hi0; simp at hg62; omega) (by omega)⟩) (by show szB b0.toNat - (i + 1) < szB b0.toNat - i; omega) (.cons rfl (.cons rfl (.nil _))) (.cons rfl (.cons rfl (.cons rfl (.cons rfl (.cons rfl (.cons rfl (.nil _))))))) rfl (rfl) 
            · -- 62 is False
              refine wl_unwanted rfl rfl rfl rfl rfl rfl rfl rfl ?_
              refine wl_unwanted rfl rfl rfl rfl rfl rfl rfl rfl ?_
              refine wl_det rfl rfl rfl (op_pick_f rfl rfl) ?_
              refine wl_nil ?_
              refine st_tn ?_
              refine w_cond_f (rfl) ?_
              refine w_skip ?_
              refine st_tn ?_
              refine w_region ?_
              refine wl_det rfl rfl rfl (op_move rfl) ?_
              refine wl_det rfl rfl rfl (op_shlU8 rfl rfl hlt) ?_
              refine wl_det rfl rfl rfl (op_move rfl) ?_
              refine wl_det rfl rfl rfl (op_convU64 rfl (by rw [Try.underlying5]; rfl) Try.underlying116 (by omega)) ?_
              refine wl_det rfl rfl rfl (op_val (v' := .int .u64 ((val (raw s at_ (i + 1) (decide (b0.toNat < 128))) : Nat) : Int)) (by rw [hsucc, val_snoc]) (op_orU8 rfl rfl hlt hfl)) ?_
              refine wl_det rfl rfl rfl (op_assign rfl) ?_
              refine wl_nil ?_
              refine st_bn ?_
              refine st_tn ?_
              refine w_region ?_
              refine wl_det rfl rfl rfl (op_add' rfl rfl (by omega)) ?_
              refine wl_det rfl rfl rfl (op_move rfl) ?_
              refine wl_nil ?_
              refine st_roundK (x := i) (i + 1) [] (⟨by omega, fun _ => head_ne hc0 hz (by intro hi0; simp at hg62; omega) (by omega)⟩) (by show szB b0.toNat - (i + 1) < szB b0.toNat - i; omega) (.cons rfl (.cons rfl (.nil _))) (.cons rfl (.cons rfl (.cons rfl (.cons rfl (.cons rfl (.cons rfl (.nil _))))))) rfl (rfl) 
          · -- c48.f
            obtain rfl : i = szB b0.toNat := by omega
            have hhd : (raw s at_ (szB b0.toNat) (decide (b0.toNat < 128))).head? ≠ some 0 := by
              rcases Nat.eq_zero_or_pos (szB b0.toNat) with h0 | h0
              · rw [h0, raw_zero]; simp
              · exact hz h0
            have hpos : 0 < szB b0.toNat → 0 < val (raw s at_ (szB b0.toNat) (decide (b0.toNat < 128))) := fun h => val_pos hhd (raw_ne (by omega) h)
            refine w_exit ?_
            refine st_te ?_
            refine st_te ?_
            refine st_be ?_
            refine st_tn ?_
            refine w_seq ?_
            refine w_block ?_
            refine w_seq ?_
            refine w_seq ?_
            refine w_region ?_
            refine wl_det rfl rfl rfl (op_move rfl) ?_
            refine wl_det rfl rfl rfl (op_not_t rfl) ?_
            refine wl_det rfl rfl rfl (op_move rfl) ?_
            refine wl_unwanted rfl rfl rfl rfl rfl rfl rfl rfl ?_
            refine wl_unwanted rfl rfl rfl rfl rfl rfl rfl rfl ?_
            refine wl_det rfl rfl rfl (op_pick_f rfl rfl) ?_
            refine wl_det rfl rfl rfl (op_assign rfl) ?_
            refine wl_nil ?_
            refine st_tn ?_
            refine w_cond_f (rfl) ?_
            refine w_region ?_
            refine wl_det rfl rfl rfl (op_move rfl) ?_
            refine wl_det rfl rfl rfl (op_gtr rfl rfl) ?_
            refine wl_det rfl rfl rfl (op_assign rfl) ?_
            refine wl_nil ?_
            refine st_tn ?_
            refine w_cond_d rfl (fun hc72 => ?_) (fun hc72 => ?_)
            · -- c72.t
              refine w_seq ?_
              refine w_region ?_
              refine wl_det rfl rfl rfl (op_assign rfl) ?_
              refine wl_det rfl rfl rfl (op_assign rfl) ?_
              refine wl_det rfl rfl rfl (op_assign rfl) ?_
              refine wl_nil ?_
              refine st_tn ?_
              refine w_ret ?_
              refine st_br ?_
              refine st_tr ?_
              refine st_ret (vs := [_, _, _]) [] Try.results79 ⟨rfl, ⟨rfl, ⟨rfl, trivial⟩⟩⟩ rfl ?_
              refine ⟨_, rfl, ?_⟩
              rw [hnum, if_neg (by omega), if_neg (by omega), if_neg hhd, if_pos (by rw [hov]; omega)]; exact ⟨rfl, rfl⟩
            · -- c72.f
              refine w_seq ?_
              refine w_region ?_
              refine wl_det rfl rfl rfl (op_move rfl) ?_
              refine wl_det rfl rfl rfl (op_assign rfl) ?_
              refine wl_nil ?_
              refine st_tn ?_
              refine w_cond_t (rfl) ?_
              refine w_seq ?_
              refine w_region ?_
              refine wl_det rfl rfl rfl (op_move rfl) ?_
              refine wl_det rfl rfl rfl (op_negU64 rfl (hpos (by omega)) (by omega)) ?_
              refine wl_det rfl rfl rfl (op_convI64n rfl (by rw [Try.underlying116]; rfl) Try.underlying3 (hpos (by omega)) (by omega)) ?_
              refine wl_det rfl rfl rfl (op_move rfl) ?_
              refine wl_det rfl rfl rfl (op_move rfl) ?_
              refine wl_det rfl rfl rfl (op_val (v' := .int .i64 ((at_ + 1 + szB b0.toNat : Nat) : Int)) (by congr 1; omega) (op_add' rfl rfl (by omega))) ?_
              refine wl_det rfl rfl rfl (op_assign rfl) ?_
              refine wl_det rfl rfl rfl (op_assign rfl) ?_
              refine wl_det rfl rfl rfl (op_assign rfl) ?_
              refine wl_nil ?_
              refine st_tn ?_
              refine w_ret ?_
              refine st_br ?_
              refine st_tr ?_
              refine st_ret (vs := [_, _, _]) [] Try.results79 ⟨rfl, ⟨rfl, ⟨rfl, trivial⟩⟩⟩ rfl ?_
              refine ⟨_, rfl, ?_⟩
              rw [hnum, if_neg (by omega), if_neg (by omega), if_neg hhd, if_neg (by rw [hov]; omega)]; simp only [hneg, if_true]; exact ⟨rfl, trivial⟩
    · -- c29.f
      have hneg : decide (b0.toNat < 128) = false := by simp; omega
      have hflip : (if decide (b0.toNat < 128) = true then 255 else 0 : Int) = 0 := by rw [hneg]; rfl
      have hov : (if decide (b0.toNat < 128) = true then 1 else 0 : Nat) = 0 := by rw [hneg]; rfl
      have hk : szB b0.toNat = b0.toNat - 128 := by unfold szB; rw [if_neg (by omega)]
      refine w_skip ?_
      refine st_tn ?_
      refine w_seq ?_
      refine w_seq ?_
      refine w_region ?_
      refine wl_det rfl rfl rfl (op_move rfl) ?_
      refine wl_det rfl rfl rfl (op_gtr rfl rfl) ?_
      refine wl_nil ?_
      refine st_tn ?_
      refine w_cond_d rfl (fun hc33 => ?_) (fun hc33 => ?_)
      · -- c33.t
        refine w_seq ?_
        refine w_region ?_
        refine wl_det rfl rfl rfl (op_assign rfl) ?_
        refine wl_det rfl rfl rfl (op_assign rfl) ?_
        refine wl_det rfl rfl rfl (op_assign rfl) ?_
        refine wl_nil ?_
        refine st_tn ?_
        refine w_ret ?_
        refine st_tr ?_
        refine st_ret (vs := [_, _, _]) [] Try.results79 ⟨rfl, ⟨rfl, ⟨rfl, trivial⟩⟩⟩ rfl ?_
        refine ⟨_, rfl, ?_⟩
        rw [hnum, if_pos (by omega)]; exact ⟨rfl, rfl⟩
      · -- c33.f
        refine w_skip ?_
        refine st_tn ?_
        refine w_seq ?_
        refine w_region ?_
        refine wl_det rfl rfl rfl (op_move rfl) ?_
        refine wl_det rfl rfl rfl (op_add' rfl rfl (by omega)) ?_
        refine wl_det rfl rfl rfl (op_assign rfl) ?_
        refine wl_nil ?_
        refine st_tn ?_
        refine w_seq ?_
        refine w_seq ?_
        refine w_region ?_
        refine wl_det rfl rfl rfl (op_move rfl) ?_
        refine wl_det rfl rfl rfl (op_nilCheck rfl) ?_
        refine wl_det rfl rfl rfl (op_fieldAddr (off := 0) rfl tF107_0rd) ?_
        refine wl_det rfl rfl rfl (op_load1 rfl tO9rd (Ent.app (Ent.fld hb 0) _)) ?_
        refine wl_det rfl rfl rfl (op_lenBs rfl Try.underlying9) ?_
        refine wl_det rfl rfl rfl (op_move rfl) ?_
        refine wl_det rfl rfl rfl (op_sub' rfl rfl (by omega)) ?_
        refine wl_det rfl rfl rfl (op_move rfl) ?_
        refine wl_det rfl rfl rfl (op_lss rfl rfl) ?_
        refine wl_nil ?_
        refine st_tn ?_
        refine w_cond_d rfl (fun hc44 => ?_) (fun hc44 => ?_)
        · -- c44.t
          refine w_seq ?_
          refine w_region ?_
          refine wl_det rfl rfl rfl (op_assign rfl) ?_
          refine wl_det rfl rfl rfl (op_assign rfl) ?_
          refine wl_det rfl rfl rfl (op_assign rfl) ?_
          refine wl_nil ?_
          refine st_tn ?_
          refine w_ret ?_
          refine st_tr ?_
          refine st_ret (vs := [_, _, _]) [] Try.results79 ⟨rfl, ⟨rfl, ⟨rfl, trivial⟩⟩⟩ rfl ?_
          refine ⟨_, rfl, ?_⟩
          rw [hnum, if_neg (by omega), if_pos (by omega)]; exact ⟨rfl, rfl⟩
        · -- c44.f
          refine w_skip ?_
          refine st_tn ?_
          refine w_seq ?_
          refine w_region ?_
          refine wl_det rfl rfl rfl (op_assign rfl) ?_
          refine wl_nil ?_
          refine st_tn ?_
          refine w_seq ?_
          refine w_seq ?_
          refine w_region ?_
          refine wl_det rfl rfl rfl (op_move rfl) ?_
          refine wl_nil ?_
          refine st_tn ?_
          refine w_cond_f (rfl) ?_
          refine w_skip ?_
          refine st_tn ?_
          refine w_seq ?_
          refine w_region ?_
          refine wl_det rfl rfl rfl (op_assign rfl) ?_
          refine wl_nil ?_
          refine st_tn ?_
          refine w_seq ?_
          refine w_seq ?_
          refine w_region ?_
          refine wl_det rfl rfl rfl (op_move rfl) ?_
          refine wl_det rfl rfl rfl (op_move rfl) ?_
          refine wl_nil ?_
          refine st_tn ?_
          refine w_block ?_
          refine w_loopK (X := Nat) (fun i => i ≤ szB b0.toNat ∧ (0 < i → (raw s at_ (szB b0.toNat) (decide (b0.toNat < 128))).head? ≠ some 0)) (fun i => [(10, .int .u64 (val (raw s at_ i (decide (b0.toNat < 128))) : Nat)), (47, .int .i64 i)]) (fun _ => []) (fun i => szB b0.toNat - i) (0) [(0, _), (1, _), (7, _), (8, _), (9, _), (46, _)] [] (⟨Nat.zero_le _, fun h => absurd h (Nat.lt_irrefl _)⟩) (.cons rfl (.cons rfl (.nil _))) (.cons rfl (.cons rfl (.cons rfl (.cons rfl (.cons rfl (.cons rfl (.nil _))))))) [] rfl (rfl) ?_
          rintro i ⟨hi, hz⟩
          refine w_norm2 (by dsimp only [List.cons_append, List.nil_append]) (by dsimp only [List.cons_append, List.nil_append]) ?_
          refine w_seq ?_
          refine w_region ?_
          refine wl_det rfl rfl rfl (op_lss rfl rfl) ?_
          refine wl_nil ?_
          refine st_tn ?_
          refine w_seq ?_
          refine w_cond_d rfl (fun hc48 => ?_) (fun hc48 => ?_)
          · -- c48.t
            obtain ⟨c0, hc0⟩ := getE (l := s) (i := at_ + 1 + i) (by omega)
            have hc8 := c0.toNat_lt
            have hsucc := raw_succ (neg := decide (b0.toNat < 128)) hc0
            have hlt : val (raw s at_ i (decide (b0.toNat < 128))) < 72057594037927936 := val_raw_lt (s := s) (at_ := at_) (k := i) (neg := decide (b0.toNat < 128)) (by omega) (j := 7) (by omega)
            have hfl := flp_lt (decide (b0.toNat < 128)) c0
            refine w_skip ?_
            refine st_tn ?_
            refine w_seq ?_
            refine w_block ?_
            refine w_seq ?_
            refine w_region ?_
            refine wl_det rfl rfl rfl (op_move rfl) ?_
            refine wl_det rfl rfl rfl (op_assign rfl) ?_
            refine wl_nil ?_
            refine st_tn ?_
            refine w_seq ?_
            refine w_region ?_
            refine wl_det rfl rfl rfl (op_move rfl) ?_
            refine wl_det rfl rfl rfl (op_nilCheck rfl) ?_
            refine wl_det rfl rfl rfl (op_fieldAddr (off := 0) rfl tF107_0rd) ?_
            refine wl_det rfl rfl rfl (op_load1 rfl tO9rd (Ent.app (Ent.fld hb 0) _)) ?_
            refine wl_det rfl rfl rfl (op_move rfl) ?_
            refine wl_det rfl rfl rfl (op_move rfl) ?_
            refine wl_det rfl rfl rfl (op_add' rfl rfl (by omega)) ?_
            refine wl_det rfl rfl rfl (op_idxBs rfl rfl Try.underlying9 (by assumption)) ?_
            refine wl_det rfl rfl rfl (op_move rfl) ?_
            refine wl_det rfl rfl rfl (op_val (v' := .int .u8 ((flp (decide (b0.toNat < 128)) c0 : Nat) : Int)) (by rfl) (op_xorF (decide (b0.toNat < 128)) rfl (by rw [hflip]; rfl))) ?_
            refine wl_det rfl rfl rfl (op_assign rfl) ?_
            refine wl_nil ?_
            refine st_tn ?_
            refine w_seq ?_
            refine w_seq ?_
            refine w_region ?_
            refine wl_det rfl rfl rfl (op_move rfl) ?_
            refine wl_det rfl rfl rfl (op_eql rfl rfl) ?_
            refine wl_det rfl rfl rfl (op_move rfl) ?_
            refine wl_gsplit (t := 62) rfl (fun hg62 => ?_) (fun hg62 => ?_)
            · -- 62 is True
              refine wl_wanted_det rfl rfl rfl rfl rfl rfl rfl (op_move rfl) ?_
              refine wl_wanted_det rfl rfl rfl rfl rfl rfl rfl (op_eql rfl rfl) ?_
              refine wl_det rfl rfl rfl (op_pick_t rfl rfl) ?_
              refine wl_nil ?_
              refine st_tn ?_
              refine w_cond_d rfl (fun hc65 => ?_) (fun hc65 => ?_)
              · -- c65.t
                refine w_seq ?_
                refine w_region ?_
                refine wl_det rfl rfl rfl (op_assign rfl) ?_
                refine wl_det rfl rfl rfl (op_assign rfl) ?_
                refine wl_det rfl rfl rfl (op_assign rfl) ?_
                refine wl_nil ?_
                refine st_tn ?_
                refine w_ret ?_
                refine st_tr ?_
                refine st_br ?_
                refine st_tr ?_
                refine st_tr ?_
                refine st_br ?_
                refine st_tr ?_
                refine st_ret (vs := [_, _, _]) [] Try.results79 ⟨rfl, ⟨rfl, ⟨rfl, trivial⟩⟩⟩ rfl ?_
                refine ⟨_, rfl, ?_⟩
                have hi0 : i = 0 := by simpa using hg62
                rw [hnum, if_neg (by omega), if_neg (by omega), if_pos (head_zero hc0 hi0 (by omega) (by omega))]; exact ⟨rfl, rfl⟩
              · -- c65.f
                refine w_skip ?_
                refine st_tn ?_
                refine w_region ?_
                refine wl_det rfl rfl rfl (op_move rfl) ?_
                refine wl_det rfl rfl rfl (op_shlU8 rfl rfl hlt) ?_
                refine wl_det rfl rfl rfl (op_move rfl) ?_
                refine wl_det rfl rfl rfl (op_convU64 rfl (by rw [Try.underlying5]; rfl) Try.underlying116 (by omega)) ?_
                refine wl_det rfl rfl rfl (op_val (v' := .int .u64 ((val (raw s at_ (i + 1) (decide (b0.toNat < 128))) : Nat) : Int)) (by rw [hsucc, val_snoc]) (op_orU8 rfl rfl hlt hfl)) ?_
                refine wl_det rfl rfl rfl (op_assign rfl) ?_
                refine wl_nil ?_
                refine st_bn ?_
                refine st_tn ?_
                refine w_region ?_
                refine wl_det rfl rfl rfl (op_add' rfl rfl (by omega)) ?_
                refine wl_det rfl rfl rfl (op_move rfl) ?_
                refine wl_nil ?_
                refine st_roundK (x := i) (i + 1) [] (⟨by omega, fun _ => head_ne hc0 hz (by intro hi0; simp at hg62; omega) (by omega)⟩) (by show szB b0.toNat - (i + 1) < szB b0.toNat - i; omega) (.cons rfl (.cons rfl (.nil _))) (.cons rfl (.cons rfl (.cons rfl (.cons rfl (.cons rfl (.cons rfl (.nil _))))))) rfl (rfl) 
            · -- 62 is False
              refine wl_unwanted rfl rfl rfl rfl rfl rfl rfl rfl ?_
              refine wl_unwanted rfl rfl rfl rfl rfl rfl rfl rfl ?_
              refine wl_det rfl rfl rfl (op_pick_f rfl rfl) ?_
              refine wl_nil ?_
              refine st_tn ?_
              refine w_cond_f (rfl) ?_
              refine w_skip ?_
              refine st_tn ?_
              refine w_region ?_
              refine wl_det rfl rfl rfl (op_move rfl) ?_
              refine wl_det rfl rfl rfl (op_shlU8 rfl rfl hlt) ?_
              refine wl_det rfl rfl rfl (op_move rfl) ?_
              refine wl_det rfl rfl rfl (op_convU64 rfl (by rw [Try.underlying5]; rfl) Try.underlying116 (by omega)) ?_
              refine wl_det rfl rfl rfl (op_val (v' := .int .u64 ((val (raw s at_ (i + 1) (decide (b0.toNat < 128))) : Nat) : Int)) (by rw [hsucc, val_snoc]) (op_orU8 rfl rfl hlt hfl)) ?_
              refine wl_det rfl rfl rfl (op_assign rfl) ?_
              refine wl_nil ?_
              refine st_bn ?_
              refine st_tn ?_
              refine w_region ?_
              refine wl_det rfl rfl rfl (op_add' rfl rfl (by omega)) ?_
              refine wl_det rfl rfl rfl (op_move rfl) ?_
              refine wl_nil ?_
              refine st_roundK (x := i) (i + 1) [] (⟨by omega, fun _ => head_ne hc0 hz (by intro hi0; simp at hg62; omega) (by omega)⟩) (by show szB b0.toNat - (i + 1) < szB b0.toNat - i; omega) (.cons rfl (.cons rfl (.nil _))) (.cons rfl (.cons rfl (.cons rfl (.cons rfl (.cons rfl (.cons rfl (.nil _))))))) rfl (rfl) 
          · -- c48.f
            obtain rfl : i = szB b0.toNat := by omega
            have hhd : (raw s at_ (szB b0.toNat) (decide (b0.toNat < 128))).head? ≠ some 0 := by
              rcases Nat.eq_zero_or_pos (szB b0.toNat) with h0 | h0
              · rw [h0, raw_zero]; simp
              · exact hz h0
            have hpos : 0 < szB b0.toNat → 0 < val (raw s at_ (szB b0.toNat) (decide (b0.toNat < 128))) := fun h => val_pos hhd (raw_ne (by omega) h)
            refine w_exit ?_
            refine st_te ?_
            refine st_te ?_
            refine st_be ?_
            refine st_tn ?_
            refine w_seq ?_
            refine w_block ?_
            refine w_seq ?_
            refine w_seq ?_
            refine w_region ?_
            refine wl_det rfl rfl rfl (op_move rfl) ?_
            refine wl_det rfl rfl rfl (op_not_f rfl) ?_
            refine wl_det rfl rfl rfl (op_move rfl) ?_
            refine wl_wanted_det rfl rfl rfl rfl rfl rfl rfl (op_move rfl) ?_
            refine wl_wanted_det rfl rfl rfl rfl rfl rfl rfl (op_gtr rfl rfl) ?_
            refine wl_det rfl rfl rfl (op_pick_t rfl rfl) ?_
            refine wl_det rfl rfl rfl (op_assign rfl) ?_
            refine wl_nil ?_
            refine st_tn ?_
            refine w_cond_d rfl (fun hc72 => ?_) (fun hc72 => ?_)
            · -- c72.t
              refine w_skip ?_
              refine st_tn ?_
              refine w_cond_d rfl (fun hc72 => ?_) (fun hc72 => ?_)
              · -- c72.t
                refine w_seq ?_
                refine w_region ?_
                refine wl_det rfl rfl rfl (op_assign rfl) ?_
                refine wl_det rfl rfl rfl (op_assign rfl) ?_
                refine wl_det rfl rfl rfl (op_assign rfl) ?_
                refine wl_nil ?_
                refine st_tn ?_
                refine w_ret ?_
                refine st_br ?_
                refine st_tr ?_
                refine st_ret (vs := [_, _, _]) [] Try.results79 ⟨rfl, ⟨rfl, ⟨rfl, trivial⟩⟩⟩ rfl ?_
                refine ⟨_, rfl, ?_⟩
                rw [hnum, if_neg (by omega), if_neg (by omega), if_neg hhd, if_pos (by rw [hov]; omega)]; exact ⟨rfl, rfl⟩
              · -- c72.f
                refine w_seq ?_
                refine w_region ?_
                refine wl_det rfl rfl rfl (op_move rfl) ?_
                refine wl_det rfl rfl rfl (op_assign rfl) ?_
                refine wl_nil ?_
                refine st_tn ?_
                refine w_cond_f (rfl) ?_
                refine w_skip ?_
                refine st_bn ?_
                refine st_tn ?_
                refine w_seq ?_
                refine w_region ?_
                refine wl_det rfl rfl rfl (op_move rfl) ?_
                refine wl_det rfl rfl rfl (op_convI64 rfl (by rw [Try.underlying116]; rfl) Try.underlying3 (by omega)) ?_
                refine wl_det rfl rfl rfl (op_move rfl) ?_
                refine wl_det rfl rfl rfl (op_move rfl) ?_
                refine wl_det rfl rfl rfl (op_val (v' := .int .i64 ((at_ + 1 + szB b0.toNat : Nat) : Int)) (by congr 1; omega) (op_add' rfl rfl (by omega))) ?_
                refine wl_det rfl rfl rfl (op_assign rfl) ?_
                refine wl_det rfl rfl rfl (op_assign rfl) ?_
                refine wl_det rfl rfl rfl (op_assign rfl) ?_
                refine wl_nil ?_
                refine st_tn ?_
                refine w_ret ?_
                refine st_ret (vs := [_, _, _]) [] Try.results79 ⟨rfl, ⟨rfl, ⟨rfl, trivial⟩⟩⟩ rfl ?_
                refine ⟨_, rfl, ?_⟩
                rw [hnum, if_neg (by omega), if_neg (by omega), if_neg hhd, if_neg (by rw [hov]; omega)]; simp only [hneg, Bool.false_eq_true, if_false]; exact ⟨rfl, trivial⟩
            · -- c72.f
              refine w_region ?_
              refine wl_det rfl rfl rfl (op_move rfl) ?_
              refine wl_det rfl rfl rfl (op_gtr rfl rfl) ?_
              refine wl_det rfl rfl rfl (op_assign rfl) ?_
              refine wl_nil ?_
              refine st_tn ?_
              refine w_cond_d rfl (fun hc72 => ?_) (fun hc72 => ?_)
              · -- c72.t
                refine w_seq ?_
                refine w_region ?_
                refine wl_det rfl rfl rfl (op_assign rfl) ?_
                refine wl_det rfl rfl rfl (op_assign rfl) ?_
                refine wl_det rfl rfl rfl (op_assign rfl) ?_
                refine wl_nil ?_
                refine st_tn ?_
                refine w_ret ?_
                refine st_br ?_
                refine st_tr ?_
                refine st_ret (vs := [_, _, _]) [] Try.results79 ⟨rfl, ⟨rfl, ⟨rfl, trivial⟩⟩⟩ rfl ?_
                refine ⟨_, rfl, ?_⟩
                rw [hnum, if_neg (by omega), if_neg (by omega), if_neg hhd, if_pos (by rw [hov]; omega)]; exact ⟨rfl, rfl⟩
              · -- c72.f
                refine w_seq ?_
                refine w_region ?_
                refine wl_det rfl rfl rfl (op_move rfl) ?_
                refine wl_det rfl rfl rfl (op_assign rfl) ?_
                refine wl_nil ?_
                refine st_tn ?_
                refine w_cond_f (rfl) ?_
                refine w_skip ?_
                refine st_bn ?_
                refine st_tn ?_
                refine w_seq ?_
                refine w_region ?_
                refine wl_det rfl rfl rfl (op_move rfl) ?_
                refine wl_det rfl rfl rfl (op_convI64 rfl (by rw [Try.underlying116]; rfl) Try.underlying3 (by omega)) ?_
                refine wl_det rfl rfl rfl (op_move rfl) ?_
                refine wl_det rfl rfl rfl (op_move rfl) ?_
                refine wl_det rfl rfl rfl (op_val (v' := .int .i64 ((at_ + 1 + szB b0.toNat : Nat) : Int)) (by congr 1; omega) (op_add' rfl rfl (by omega))) ?_
                refine wl_det rfl rfl rfl (op_assign rfl) ?_
                refine wl_det rfl rfl rfl (op_assign rfl) ?_
                refine wl_det rfl rfl rfl (op_assign rfl) ?_
                refine wl_nil ?_
                refine st_tn ?_
                refine w_ret ?_
                refine st_ret (vs := [_, _, _]) [] Try.results79 ⟨rfl, ⟨rfl, ⟨rfl, trivial⟩⟩⟩ rfl ?_
                refine ⟨_, rfl, ?_⟩
                rw [hnum, if_neg (by omega), if_neg (by omega), if_neg hhd, if_neg (by rw [hov]; omega)]; simp only [hneg, Bool.false_eq_true, if_false]; exact ⟨rfl, trivial⟩

end Go.Proofs.Ytkknlfhncheflaa
namespace Go.Proofs.Ytkknlfhncheflaa
open Go Go.SL Go.RowKit Go.RdM
set_option linter.unusedVariables false
set_option linter.unusedSimpArgs false
theorem tB107re : placesB Try.prog 107 = some ([(0, 1), (1, 1), (2, 1)], [Value.string .empty, Value.int .i64 0, Value.int .i64 0]) := by kernel_rfl
theorem tF107_0re : fieldB Try.prog 107 0 0 = true := by kernel_rfl
theorem tF107_1re : fieldB Try.prog 107 1 1 = true := by kernel_rfl
theorem tF107_2re : fieldB Try.prog 107 2 2 = true := by kernel_rfl
theorem tMixre : Try.prog.follows .mixedOrders = true := by kernel_rfl
theorem tO27re : oneB Try.prog 27 = true := by kernel_rfl
theorem tO3re : oneB Try.prog 3 = true := by kernel_rfl
theorem tO9re : oneB Try.prog 9 = true := by kernel_rfl
theorem tZ27re : (Try.prog.info? 27).map (·.size) = some 1 := by kernel_rfl
theorem tZ3re : (Try.prog.info? 3).map (·.size) = some 1 := by kernel_rfl

theorem celR {σ : World} {F : List Res} {R : RL} {b T : Nat} {s : RdM.Bs} {r : Rd} (lab : Nat) (h : getL R lab = some (cel b (cellR s r) T)) : Ent σ (rs R ++ F) (At ⟨b, 0, none⟩ (cellR s r)) := Ent.lab h (says_cel 0)
set_option maxHeartbeats 400000 in
set_option maxRecDepth 100000 in
theorem rok_any {σ : World} {F : List Res} {b : Nat} {s : RdM.Bs} {r : Rd} (hb : Ent σ F (At ⟨b, 0, none⟩ (cellR s r))) :
    FnT Try.prog σ F 77 [.pointer (some ⟨b, 0, none⟩)] [] (fun u ρ => u = .bool (decide (r.e = 0)) ∧ ρ = []) := by
  refine fn_of 12 Try.func77 rfl Try.ntmps77 rfl ?_
  refine w_seq ?_
  refine w_region ?_
  refine wl_det rfl rfl rfl (op_assign rfl) ?_
  refine wl_nil ?_
  refine st_tn ?_
  refine w_seq ?_
  refine w_region ?_
  refine wl_det rfl rfl rfl (op_move rfl) ?_
  refine wl_det rfl rfl rfl (op_val (v' := .bool true) (by simp) (op_nePtr rfl Try.underlying86)) ?_
  refine wl_det rfl rfl rfl (op_move rfl) ?_
  refine wl_wanted_det rfl rfl rfl rfl rfl rfl rfl (op_move rfl) ?_
  refine wl_wanted_det rfl rfl rfl rfl rfl rfl rfl (op_nilCheck rfl) ?_
  refine wl_wanted_det rfl rfl rfl rfl rfl rfl rfl (op_fieldAddr (off := 2) rfl tF107_2re) ?_
  refine wl_wanted_det rfl rfl rfl rfl rfl rfl rfl (op_load1 rfl tO27re (Ent.app (Ent.fld hb 2) _)) ?_
  refine wl_wanted_det rfl rfl rfl rfl rfl rfl rfl (op_eql rfl rfl) ?_
  refine wl_det rfl rfl rfl (op_pick_t rfl rfl) ?_
  refine wl_det rfl rfl rfl (op_assign rfl) ?_
  refine wl_nil ?_
  refine st_tn ?_
  refine w_ret ?_
  refine st_ret (vs := [_]) [] Try.results77 ⟨rfl, trivial⟩ rfl ?_
  refine ⟨_, rfl, ?_⟩
  exact ⟨rfl, rfl⟩

set_option maxHeartbeats 400000 in
set_option maxRecDepth 100000 in
theorem rfail_any {σ : World} {F : List Res} {b : Nat} {s : RdM.Bs} {r : Rd} (e : Int) (he : r.e = 0) :
    FnT Try.prog σ F 80 [.pointer (some ⟨b, 0, none⟩), .int .i64 e] [(600, cel b (cellR s r) 107)] (fun u ρ => u = .tuple #[] ∧ ρ = [(600, cel b (cellR s ⟨r.at_, e⟩) 107)]) := by
  refine fn_of 13 Try.func80 rfl Try.ntmps80 rfl ?_
  refine w_seq ?_
  refine w_region ?_
  refine wl_det rfl rfl rfl (op_move rfl) ?_
  refine wl_det rfl rfl rfl (op_nilCheck rfl) ?_
  refine wl_det rfl rfl rfl (op_fieldAddr (off := 2) rfl tF107_2re) ?_
  refine wl_det rfl rfl rfl (op_load1 rfl tO27re (Ent.lab (l := 600) rfl (says_cel 2))) ?_
  refine wl_det rfl rfl rfl (op_eql rfl rfl) ?_
  refine wl_nil ?_
  refine st_tn ?_
  refine w_cond_d rfl (fun hc8 => ?_) (fun hc8 => ?_)
  · -- c8.t
    refine w_region ?_
    refine wl_det rfl rfl rfl (op_move rfl) ?_
    refine wl_det rfl rfl rfl (op_move rfl) ?_
    refine wl_det rfl rfl rfl (op_nilCheck rfl) ?_
    refine wl_det rfl rfl rfl (op_fieldAddr (off := 2) rfl tF107_2re) ?_
    refine wl_op0 [600] rfl rfl rfl (op_store rfl rfl tZ27re (by rfl) (by rfl) (by exact Nat.le_of_ble_eq_true rfl)) ?_
    rintro _ _ ⟨rfl, rfl⟩
    refine wl_nil ?_
    refine st_end (vs := []) [600] Try.results80 trivial rfl ?_
    refine ⟨[(600, _)], rfl, ?_⟩
    exact ⟨rfl, rfl⟩
  · -- c8.f
    exfalso; exact hc8 he

set_option maxHeartbeats 400000 in
set_option maxRecDepth 100000 in
theorem rsize_any {σ : World} {F : List Res} {b : Nat} {s : RdM.Bs} {r : Rd} (most more : Int) (he : r.e = 0) (hs : s.length ≤ 1099511627776) (hm : more ≠ 0) :
    FnT Try.prog σ F 78 [.pointer (some ⟨b, 0, none⟩), .int .i64 most, .int .i64 more] [(600, cel b (cellR s r) 107)] (fun u ρ => u = .tuple #[.int .i64 (if szE s r.at_ most more = 0 then (num s r.at_).1 else 0), .int .i64 ((if szE s r.at_ most more = 0 then (num s r.at_).2.1 else 0 : Nat) : Int), .bool (decide (szE s r.at_ most more = 0))] ∧ ρ = [(600, cel b (cellR s ⟨r.at_, szE s r.at_ most more⟩) 107)]) := by
  refine fn_of 48 Try.func78 rfl Try.ntmps78 rfl ?_
  have hbd := num_bd s r.at_
  refine w_seq ?_
  refine w_region ?_
  refine wl_det rfl rfl rfl (op_assign rfl) ?_
  refine wl_det rfl rfl rfl (op_assign rfl) ?_
  refine wl_det rfl rfl rfl (op_assign rfl) ?_
  refine wl_nil ?_
  refine st_tn ?_
  refine w_seq ?_
  refine w_region ?_
  refine wl_det rfl rfl rfl (op_move rfl) ?_
  refine wl_det rfl rfl rfl (op_move rfl) ?_
  refine wl_det rfl rfl rfl (op_nilCheck rfl) ?_
  refine wl_det rfl rfl rfl (op_fieldAddr (off := 1) rfl tF107_1re) ?_
  refine wl_det rfl rfl rfl (op_load1 rfl tO3re (Ent.lab (l := 600) rfl (says_cel 1))) ?_
  refine wl_det rfl rfl rfl (op_fn Try.func79 rfl rfl rfl (num_any (r := r) r.at_ (celR 600 rfl) hs)) ?_
  refine wl_det rfl rfl rfl (op_move rfl) ?_
  refine wl_det rfl rfl rfl (op_extract rfl rfl) ?_
  refine wl_det rfl rfl rfl (op_extract rfl rfl) ?_
  refine wl_det rfl rfl rfl (op_extract rfl rfl) ?_
  refine wl_det rfl rfl rfl (op_assign rfl) ?_
  refine wl_det rfl rfl rfl (op_assign rfl) ?_
  refine wl_det rfl rfl rfl (op_assign rfl) ?_
  refine wl_nil ?_
  refine st_tn ?_
  refine w_seq ?_
  refine w_block ?_
  refine w_seq ?_
  refine w_region ?_
  refine wl_det rfl rfl rfl (op_move rfl) ?_
  refine wl_det rfl rfl rfl (op_neq rfl rfl) ?_
  refine wl_det rfl rfl rfl (op_assign rfl) ?_
  refine wl_nil ?_
  refine st_tn ?_
  refine w_cond_d rfl (fun hc20 => ?_) (fun hc20 => ?_)
  · -- c20.t
    have hz : szE s r.at_ most more = (num s r.at_).2.2 := by unfold szE; rw [if_pos hc20]
    have hz0 : szE s r.at_ most more ≠ 0 := by rw [hz]; exact hc20
    refine w_skip ?_
    refine st_bn ?_
    refine st_tn ?_
    refine w_seq ?_
    refine w_seq ?_
    refine w_region ?_
    refine wl_det rfl rfl rfl (op_move rfl) ?_
    refine wl_det rfl rfl rfl (op_val (v' := .bool true) (by simp; exact hc20) (op_neq rfl rfl)) ?_
    refine wl_nil ?_
    refine st_tn ?_
    refine w_cond_t (rfl) ?_
    refine w_seq ?_
    refine w_region ?_
    refine wl_det rfl rfl rfl (op_move rfl) ?_
    refine wl_det rfl rfl rfl (op_move rfl) ?_
    refine wl_op [600] rfl rfl rfl rfl (op_fn Try.func80 rfl rfl rfl (rfail_any _ he)) ?_
    rintro _ _ ⟨rfl, rfl⟩
    refine wl_nil ?_
    refine st_tn ?_
    refine w_seq ?_
    refine w_region ?_
    refine wl_det rfl rfl rfl (op_assign rfl) ?_
    refine wl_det rfl rfl rfl (op_assign rfl) ?_
    refine wl_det rfl rfl rfl (op_assign rfl) ?_
    refine wl_nil ?_
    refine st_tn ?_
    refine w_ret ?_
    refine st_tr ?_
    refine st_ret (vs := [_, _, _]) [600] Try.results78 ⟨rfl, ⟨rfl, ⟨rfl, trivial⟩⟩⟩ rfl ?_
    refine ⟨[(600, _)], rfl, ?_⟩
    exact ⟨by rw [if_neg hz0, if_neg hz0, decide_eq_false hz0]; rfl, by rw [hz]⟩
  · -- c20.f
    refine w_seq ?_
    refine w_region ?_
    refine wl_det rfl rfl rfl (op_move rfl) ?_
    refine wl_det rfl rfl rfl (op_lss rfl rfl) ?_
    refine wl_det rfl rfl rfl (op_assign rfl) ?_
    refine wl_nil ?_
    refine st_tn ?_
    refine w_cond_d rfl (fun hc23 => ?_) (fun hc23 => ?_)
    · -- c23.t
      have hz : szE s r.at_ most more = 3 := by unfold szE; rw [if_neg hc20, if_pos hc23]
      have hz0 : szE s r.at_ most more ≠ 0 := by rw [hz]; simp
      refine w_region ?_
      refine wl_det rfl rfl rfl (op_assign rfl) ?_
      refine wl_nil ?_
      refine st_bn ?_
      refine st_tn ?_
      refine w_seq ?_
      refine w_seq ?_
      refine w_region ?_
      refine wl_det rfl rfl rfl (op_move rfl) ?_
      refine wl_det rfl rfl rfl (op_val (v' := .bool true) (by simp) (op_neq rfl rfl)) ?_
      refine wl_nil ?_
      refine st_tn ?_
      refine w_cond_t (rfl) ?_
      refine w_seq ?_
      refine w_region ?_
      refine wl_det rfl rfl rfl (op_move rfl) ?_
      refine wl_det rfl rfl rfl (op_move rfl) ?_
      refine wl_op [600] rfl rfl rfl rfl (op_fn Try.func80 rfl rfl rfl (rfail_any _ he)) ?_
      rintro _ _ ⟨rfl, rfl⟩
      refine wl_nil ?_
      refine st_tn ?_
      refine w_seq ?_
      refine w_region ?_
      refine wl_det rfl rfl rfl (op_assign rfl) ?_
      refine wl_det rfl rfl rfl (op_assign rfl) ?_
      refine wl_det rfl rfl rfl (op_assign rfl) ?_
      refine wl_nil ?_
      refine st_tn ?_
      refine w_ret ?_
      refine st_tr ?_
      refine st_ret (vs := [_, _, _]) [600] Try.results78 ⟨rfl, ⟨rfl, ⟨rfl, trivial⟩⟩⟩ rfl ?_
      refine ⟨[(600, _)], rfl, ?_⟩
      exact ⟨by rw [if_neg hz0, if_neg hz0, decide_eq_false hz0]; rfl, by rw [hz]⟩
    · -- c23.f
      refine w_seq ?_
      refine w_region ?_
      refine wl_det rfl rfl rfl (op_move rfl) ?_
      refine wl_det rfl rfl rfl (op_move rfl) ?_
      refine wl_det rfl rfl rfl (op_gtr rfl rfl) ?_
      refine wl_det rfl rfl rfl (op_assign rfl) ?_
      refine wl_nil ?_
      refine st_tn ?_
      refine w_cond_d rfl (fun hc26 => ?_) (fun hc26 => ?_)
      · -- c26.t
        have hz : szE s r.at_ most more = more := by unfold szE; rw [if_neg hc20, if_neg hc23, if_pos hc26]
        have hz0 : szE s r.at_ most more ≠ 0 := by rw [hz]; exact hm
        refine w_region ?_
        refine wl_det rfl rfl rfl (op_move rfl) ?_
        refine wl_det rfl rfl rfl (op_assign rfl) ?_
        refine wl_nil ?_
        refine st_bn ?_
        refine st_tn ?_
        refine w_seq ?_
        refine w_seq ?_
        refine w_region ?_
        refine wl_det rfl rfl rfl (op_move rfl) ?_
        refine wl_det rfl rfl rfl (op_val (v' := .bool true) (by simp; exact hm) (op_neq rfl rfl)) ?_
        refine wl_nil ?_
        refine st_tn ?_
        refine w_cond_t (rfl) ?_
        refine w_seq ?_
        refine w_region ?_
        refine wl_det rfl rfl rfl (op_move rfl) ?_
        refine wl_det rfl rfl rfl (op_move rfl) ?_
        refine wl_op [600] rfl rfl rfl rfl (op_fn Try.func80 rfl rfl rfl (rfail_any _ he)) ?_
        rintro _ _ ⟨rfl, rfl⟩
        refine wl_nil ?_
        refine st_tn ?_
        refine w_seq ?_
        refine w_region ?_
        refine wl_det rfl rfl rfl (op_assign rfl) ?_
        refine wl_det rfl rfl rfl (op_assign rfl) ?_
        refine wl_det rfl rfl rfl (op_assign rfl) ?_
        refine wl_nil ?_
        refine st_tn ?_
        refine w_ret ?_
        refine st_tr ?_
        refine st_ret (vs := [_, _, _]) [600] Try.results78 ⟨rfl, ⟨rfl, ⟨rfl, trivial⟩⟩⟩ rfl ?_
        refine ⟨[(600, _)], rfl, ?_⟩
        exact ⟨by rw [if_neg hz0, if_neg hz0, decide_eq_false hz0]; rfl, by rw [hz]⟩
      · -- c26.f
        refine w_seq ?_
        refine w_region ?_
        refine wl_det rfl rfl rfl (op_move rfl) ?_
        refine wl_det rfl rfl rfl (op_nilCheck rfl) ?_
        refine wl_det rfl rfl rfl (op_fieldAddr (off := 0) rfl tF107_0re) ?_
        refine wl_det rfl rfl rfl (op_load1 rfl tO9re (Ent.lab (l := 600) rfl (says_cel 0))) ?_
        refine wl_det rfl rfl rfl (op_lenBs rfl Try.underlying9) ?_
        refine wl_det rfl rfl rfl (op_move rfl) ?_
        refine wl_det rfl rfl rfl (op_sub' rfl rfl (by omega)) ?_
        refine wl_det rfl rfl rfl (op_move rfl) ?_
        refine wl_det rfl rfl rfl (op_lss rfl rfl) ?_
        refine wl_det rfl rfl rfl (op_assign rfl) ?_
        refine wl_nil ?_
        refine st_tn ?_
        refine w_cond_d rfl (fun hc31 => ?_) (fun hc31 => ?_)
        · -- c31.t
          have hz : szE s r.at_ most more = 4 := by unfold szE; rw [if_neg hc20, if_neg hc23, if_neg hc26, if_pos hc31]
          have hz0 : szE s r.at_ most more ≠ 0 := by rw [hz]; simp
          refine w_region ?_
          refine wl_det rfl rfl rfl (op_assign rfl) ?_
          refine wl_nil ?_
          refine st_bn ?_
          refine st_tn ?_
          refine w_seq ?_
          refine w_seq ?_
          refine w_region ?_
          refine wl_det rfl rfl rfl (op_move rfl) ?_
          refine wl_det rfl rfl rfl (op_val (v' := .bool true) (by simp) (op_neq rfl rfl)) ?_
          refine wl_nil ?_
          refine st_tn ?_
          refine w_cond_t (rfl) ?_
          refine w_seq ?_
          refine w_region ?_
          refine wl_det rfl rfl rfl (op_move rfl) ?_
          refine wl_det rfl rfl rfl (op_move rfl) ?_
          refine wl_op [600] rfl rfl rfl rfl (op_fn Try.func80 rfl rfl rfl (rfail_any _ he)) ?_
          rintro _ _ ⟨rfl, rfl⟩
          refine wl_nil ?_
          refine st_tn ?_
          refine w_seq ?_
          refine w_region ?_
          refine wl_det rfl rfl rfl (op_assign rfl) ?_
          refine wl_det rfl rfl rfl (op_assign rfl) ?_
          refine wl_det rfl rfl rfl (op_assign rfl) ?_
          refine wl_nil ?_
          refine st_tn ?_
          refine w_ret ?_
          refine st_tr ?_
          refine st_ret (vs := [_, _, _]) [600] Try.results78 ⟨rfl, ⟨rfl, ⟨rfl, trivial⟩⟩⟩ rfl ?_
          refine ⟨[(600, _)], rfl, ?_⟩
          exact ⟨by rw [if_neg hz0, if_neg hz0, decide_eq_false hz0]; rfl, by rw [hz]⟩
        · -- c31.f
          have hz : szE s r.at_ most more = 0 := by unfold szE; rw [if_neg hc20, if_neg hc23, if_neg hc26, if_neg hc31]
          refine w_skip ?_
          refine st_bn ?_
          refine st_tn ?_
          refine w_seq ?_
          refine w_seq ?_
          refine w_region ?_
          refine wl_det rfl rfl rfl (op_move rfl) ?_
          refine wl_det rfl rfl rfl (op_val (v' := .bool false) (by simp; omega) (op_neq rfl rfl)) ?_
          refine wl_nil ?_
          refine st_tn ?_
          refine w_cond_f (rfl) ?_
          refine w_skip ?_
          refine st_tn ?_
          refine w_seq ?_
          refine w_region ?_
          refine wl_det rfl rfl rfl (op_move rfl) ?_
          refine wl_det rfl rfl rfl (op_move rfl) ?_
          refine wl_det rfl rfl rfl (op_assign rfl) ?_
          refine wl_det rfl rfl rfl (op_assign rfl) ?_
          refine wl_det rfl rfl rfl (op_assign rfl) ?_
          refine wl_nil ?_
          refine st_tn ?_
          refine w_ret ?_
          refine st_ret (vs := [_, _, _]) [600] Try.results78 ⟨rfl, ⟨rfl, ⟨rfl, trivial⟩⟩⟩ rfl ?_
          refine ⟨[(600, _)], rfl, ?_⟩
          exact ⟨by rw [if_pos hz, if_pos hz, decide_eq_true hz]; rfl, by rw [hz, ← he]⟩

set_option maxHeartbeats 400000 in
set_option maxRecDepth 100000 in
theorem rnum_any {σ : World} {F : List Res} {b : Nat} {s : RdM.Bs} (r : Rd) (hs : s.length ≤ 1099511627776) :
    FnT Try.prog σ F 64 [.pointer (some ⟨b, 0, none⟩)] [(600, cel b (cellR s r) 107)] (fun u ρ => u = .int .i64 (rdN s r).1 ∧ ρ = [(600, cel b (cellR s (rdN s r).2) 107)]) := by
  refine fn_of 29 Try.func64 rfl Try.ntmps64 rfl ?_
  refine w_seq ?_
  refine w_region ?_
  refine wl_det rfl rfl rfl (op_assign rfl) ?_
  refine wl_nil ?_
  refine st_tn ?_
  refine w_seq ?_
  refine w_seq ?_
  refine w_region ?_
  refine wl_det rfl rfl rfl (op_move rfl) ?_
  refine wl_det rfl rfl rfl (op_fn Try.func77 rfl rfl rfl (rok_any (celR 600 rfl))) ?_
  refine wl_det rfl rfl rfl (op_not_d rfl) ?_
  refine wl_nil ?_
  refine st_tn ?_
  refine w_cond_d rfl (fun hc8 => ?_) (fun hc8 => ?_)
  · -- c8.t
    refine w_seq ?_
    refine w_region ?_
    refine wl_det rfl rfl rfl (op_assign rfl) ?_
    refine wl_nil ?_
    refine st_tn ?_
    refine w_ret ?_
    refine st_tr ?_
    refine st_ret (vs := [_]) [600] Try.results64 ⟨rfl, trivial⟩ rfl ?_
    refine ⟨[(600, _)], rfl, ?_⟩
    have hr : rdN s r = (0, r) := rdN_err hc8
    rw [hr]; exact ⟨rfl, rfl⟩
  · -- c8.f
    have he : r.e = 0 := Classical.not_not.1 hc8
    refine w_skip ?_
    refine st_tn ?_
    refine w_seq ?_
    refine w_region ?_
    refine wl_det rfl rfl rfl (op_move rfl) ?_
    refine wl_det rfl rfl rfl (op_move rfl) ?_
    refine wl_det rfl rfl rfl (op_nilCheck rfl) ?_
    refine wl_det rfl rfl rfl (op_fieldAddr (off := 1) rfl tF107_1re) ?_
    refine wl_det rfl rfl rfl (op_load1 rfl tO3re (Ent.lab (l := 600) rfl (says_cel 1))) ?_
    refine wl_det rfl rfl rfl (op_fn Try.func79 rfl rfl rfl (num_any (r := r) r.at_ (celR 600 rfl) hs)) ?_
    refine wl_det rfl rfl rfl (op_move rfl) ?_
    refine wl_det rfl rfl rfl (op_extract rfl rfl) ?_
    refine wl_det rfl rfl rfl (op_extract rfl rfl) ?_
    refine wl_det rfl rfl rfl (op_extract rfl rfl) ?_
    refine wl_det rfl rfl rfl (op_assign rfl) ?_
    refine wl_det rfl rfl rfl (op_assign rfl) ?_
    refine wl_det rfl rfl rfl (op_assign rfl) ?_
    refine wl_nil ?_
    refine st_tn ?_
    refine w_seq ?_
    refine w_seq ?_
    refine w_region ?_
    refine wl_det rfl rfl rfl (op_move rfl) ?_
    refine wl_det rfl rfl rfl (op_neq rfl rfl) ?_
    refine wl_nil ?_
    refine st_tn ?_
    refine w_cond_d rfl (fun hc20 => ?_) (fun hc20 => ?_)
    · -- c20.t
      refine w_seq ?_
      refine w_region ?_
      refine wl_det rfl rfl rfl (op_move rfl) ?_
      refine wl_det rfl rfl rfl (op_move rfl) ?_
      refine wl_op [600] rfl rfl rfl rfl (op_fn Try.func80 rfl rfl rfl (rfail_any _ he)) ?_
      rintro _ _ ⟨rfl, rfl⟩
      refine wl_nil ?_
      refine st_tn ?_
      refine w_seq ?_
      refine w_region ?_
      refine wl_det rfl rfl rfl (op_assign rfl) ?_
      refine wl_nil ?_
      refine st_tn ?_
      refine w_ret ?_
      refine st_tr ?_
      refine st_ret (vs := [_]) [600] Try.results64 ⟨rfl, trivial⟩ rfl ?_
      refine ⟨[(600, _)], rfl, ?_⟩
      have hr : rdN s r = (0, ⟨r.at_, (num s r.at_).2.2⟩) := by unfold rdN; rw [if_neg hc8, if_pos hc20]
      rw [hr]; exact ⟨rfl, rfl⟩
    · -- c20.f
      refine w_skip ?_
      refine st_tn ?_
      refine w_seq ?_
      refine w_region ?_
      refine wl_det rfl rfl rfl (op_move rfl) ?_
      refine wl_det rfl rfl rfl (op_move rfl) ?_
      refine wl_det rfl rfl rfl (op_nilCheck rfl) ?_
      refine wl_det rfl rfl rfl (op_fieldAddr (off := 1) rfl tF107_1re) ?_
      refine wl_op0 [600] rfl rfl rfl (op_store rfl rfl tZ3re (by rfl) (by rfl) (by exact Nat.le_of_ble_eq_true rfl)) ?_
      rintro _ _ ⟨rfl, rfl⟩
      refine wl_nil ?_
      refine st_tn ?_
      refine w_seq ?_
      refine w_region ?_
      refine wl_det rfl rfl rfl (op_move rfl) ?_
      refine wl_det rfl rfl rfl (op_assign rfl) ?_
      refine wl_nil ?_
      refine st_tn ?_
      refine w_ret ?_
      refine st_ret (vs := [_]) [600] Try.results64 ⟨rfl, trivial⟩ rfl ?_
      refine ⟨[(600, _)], rfl, ?_⟩
      have hr : rdN s r = ((num s r.at_).1, ⟨(num s r.at_).2.1, 0⟩) := by unfold rdN; rw [if_neg hc8, if_neg hc20]
      rw [hr, ← he]; exact ⟨rfl, rfl⟩

set_option maxHeartbeats 400000 in
set_option maxRecDepth 100000 in
theorem rcnt_any {σ : World} {F : List Res} {b : Nat} {s : RdM.Bs} (most : Int) (r : Rd) (hs : s.length ≤ 1099511627776) :
    FnT Try.prog σ F 63 [.pointer (some ⟨b, 0, none⟩), .int .i64 most] [(600, cel b (cellR s r) 107)] (fun u ρ => u = .int .i64 (rdC s most r).1 ∧ ρ = [(600, cel b (cellR s (rdC s most r).2) 107)]) := by
  refine fn_of 24 Try.func63 rfl Try.ntmps63 rfl ?_
  refine w_seq ?_
  refine w_region ?_
  refine wl_det rfl rfl rfl (op_assign rfl) ?_
  refine wl_nil ?_
  refine st_tn ?_
  refine w_seq ?_
  refine w_seq ?_
  refine w_region ?_
  refine wl_det rfl rfl rfl (op_move rfl) ?_
  refine wl_det rfl rfl rfl (op_fn Try.func77 rfl rfl rfl (rok_any (celR 600 rfl))) ?_
  refine wl_det rfl rfl rfl (op_not_d rfl) ?_
  refine wl_nil ?_
  refine st_tn ?_
  refine w_cond_d rfl (fun hc10 => ?_) (fun hc10 => ?_)
  · -- c10.t
    refine w_seq ?_
    refine w_region ?_
    refine wl_det rfl rfl rfl (op_assign rfl) ?_
    refine wl_nil ?_
    refine st_tn ?_
    refine w_ret ?_
    refine st_tr ?_
    refine st_ret (vs := [_]) [600] Try.results63 ⟨rfl, trivial⟩ rfl ?_
    refine ⟨[(600, _)], rfl, ?_⟩
    have hr : rdC s most r = (0, r) := by unfold rdC; rw [if_pos hc10]
    rw [hr]; exact ⟨rfl, rfl⟩
  · -- c10.f
    have he : r.e = 0 := Classical.not_not.1 hc10
    refine w_skip ?_
    refine st_tn ?_
    refine w_seq ?_
    refine w_region ?_
    refine wl_det rfl rfl rfl (op_move rfl) ?_
    refine wl_det rfl rfl rfl (op_move rfl) ?_
    refine wl_op [600] rfl rfl rfl rfl (op_fn Try.func78 rfl rfl rfl (rsize_any most 6 he hs (by simp))) ?_
    rintro _ _ ⟨rfl, rfl⟩
    refine wl_det rfl rfl rfl (op_move rfl) ?_
    refine wl_det rfl rfl rfl (op_extract rfl rfl) ?_
    refine wl_det rfl rfl rfl (op_extract rfl rfl) ?_
    refine wl_det rfl rfl rfl (op_extract rfl rfl) ?_
    refine wl_det rfl rfl rfl (op_assign rfl) ?_
    refine wl_det rfl rfl rfl (op_assign rfl) ?_
    refine wl_det rfl rfl rfl (op_assign rfl) ?_
    refine wl_nil ?_
    refine st_tn ?_
    refine w_seq ?_
    refine w_seq ?_
    refine w_region ?_
    refine wl_det rfl rfl rfl (op_move rfl) ?_
    refine wl_nil ?_
    refine st_tn ?_
    refine w_cond_d rfl (fun hc18 => ?_) (fun hc18 => ?_)
    · -- c18.t
      have hr : rdC s most r = ((num s r.at_).1, ⟨(num s r.at_).2.1, 0⟩) := by unfold rdC; rw [if_neg hc10, if_neg (fun h => h hc18)]
      rw [hr, hc18]
      simp only [if_true]
      refine w_region ?_
      refine wl_det rfl rfl rfl (op_move rfl) ?_
      refine wl_det rfl rfl rfl (op_move rfl) ?_
      refine wl_det rfl rfl rfl (op_nilCheck rfl) ?_
      refine wl_det rfl rfl rfl (op_fieldAddr (off := 1) rfl tF107_1re) ?_
      refine wl_op0 [600] rfl rfl rfl (op_store rfl rfl tZ3re (by rfl) (by rfl) (by exact Nat.le_of_ble_eq_true rfl)) ?_
      rintro _ _ ⟨rfl, rfl⟩
      refine wl_nil ?_
      refine st_tn ?_
      refine w_seq ?_
      refine w_region ?_
      refine wl_det rfl rfl rfl (op_move rfl) ?_
      refine wl_det rfl rfl rfl (op_assign rfl) ?_
      refine wl_nil ?_
      refine st_tn ?_
      refine w_ret ?_
      refine st_ret (vs := [_]) [600] Try.results63 ⟨rfl, trivial⟩ rfl ?_
      refine ⟨[(600, _)], rfl, ?_⟩
      exact ⟨rfl, rfl⟩
    · -- c18.f
      have hr : rdC s most r = (0, ⟨r.at_, szE s r.at_ most 6⟩) := by unfold rdC; rw [if_neg hc10, if_pos hc18]
      rw [hr]
      simp only [if_neg hc18]
      refine w_skip ?_
      refine st_tn ?_
      refine w_seq ?_
      refine w_region ?_
      refine wl_det rfl rfl rfl (op_move rfl) ?_
      refine wl_det rfl rfl rfl (op_assign rfl) ?_
      refine wl_nil ?_
      refine st_tn ?_
      refine w_ret ?_
      refine st_ret (vs := [_]) [600] Try.results63 ⟨rfl, trivial⟩ rfl ?_
      refine ⟨[(600, _)], rfl, ?_⟩
      exact ⟨rfl, rfl⟩

set_option maxHeartbeats 400000 in
set_option maxRecDepth 100000 in
theorem rerr_any {σ : World} {F : List Res} {b : Nat} {s : RdM.Bs} {r : Rd} (hb : Ent σ F (At ⟨b, 0, none⟩ (cellR s r))) :
    FnT Try.prog σ F 65 [.pointer (some ⟨b, 0, none⟩)] [] (fun u ρ => u = .int .i64 r.e ∧ ρ = []) := by
  refine fn_of 9 Try.func65 rfl Try.ntmps65 rfl ?_
  refine w_seq ?_
  refine w_region ?_
  refine wl_det rfl rfl rfl (op_assign rfl) ?_
  refine wl_nil ?_
  refine st_tn ?_
  refine w_seq ?_
  refine w_seq ?_
  refine w_region ?_
  refine wl_det rfl rfl rfl (op_move rfl) ?_
  refine wl_det rfl rfl rfl (op_val (v' := .bool false) (by simp) (op_eqPtr rfl Try.underlying86)) ?_
  refine wl_nil ?_
  refine st_tn ?_
  refine w_cond_f (rfl) ?_
  refine w_skip ?_
  refine st_tn ?_
  refine w_seq ?_
  refine w_region ?_
  refine wl_det rfl rfl rfl (op_move rfl) ?_
  refine wl_det rfl rfl rfl (op_nilCheck rfl) ?_
  refine wl_det rfl rfl rfl (op_fieldAddr (off := 2) rfl tF107_2re) ?_
  refine wl_det rfl rfl rfl (op_load1 rfl tO27re (Ent.app (Ent.fld hb 2) _)) ?_
  refine wl_det rfl rfl rfl (op_assign rfl) ?_
  refine wl_nil ?_
  refine st_tn ?_
  refine w_ret ?_
  refine st_ret (vs := [_]) [] Try.results65 ⟨rfl, trivial⟩ rfl ?_
  refine ⟨_, rfl, ?_⟩
  exact ⟨rfl, rfl⟩

set_option maxHeartbeats 400000 in
set_option maxRecDepth 100000 in
theorem rend_any {σ : World} {F : List Res} {b : Nat} {s : RdM.Bs} {r : Rd} (hb : Ent σ F (At ⟨b, 0, none⟩ (cellR s r))) :
    FnT Try.prog σ F 66 [.pointer (some ⟨b, 0, none⟩)] [] (fun u ρ => u = .int .i64 (endE s r) ∧ ρ = []) := by
  refine fn_of 27 Try.func66 rfl Try.ntmps66 rfl ?_
  refine w_seq ?_
  refine w_region ?_
  refine wl_det rfl rfl rfl (op_assign rfl) ?_
  refine wl_nil ?_
  refine st_tn ?_
  refine w_seq ?_
  refine w_block ?_
  refine w_seq ?_
  refine w_region ?_
  refine wl_det rfl rfl rfl (op_move rfl) ?_
  refine wl_det rfl rfl rfl (op_val (v' := .bool false) (by simp) (op_eqPtr rfl Try.underlying86)) ?_
  refine wl_det rfl rfl rfl (op_assign rfl) ?_
  refine wl_nil ?_
  refine st_tn ?_
  refine w_cond_f (rfl) ?_
  refine w_seq ?_
  refine w_region ?_
  refine wl_det rfl rfl rfl (op_move rfl) ?_
  refine wl_det rfl rfl rfl (op_nilCheck rfl) ?_
  refine wl_det rfl rfl rfl (op_fieldAddr (off := 2) rfl tF107_2re) ?_
  refine wl_det rfl rfl rfl (op_load1 rfl tO27re (Ent.app (Ent.fld hb 2) _)) ?_
  refine wl_det rfl rfl rfl (op_neq rfl rfl) ?_
  refine wl_det rfl rfl rfl (op_assign rfl) ?_
  refine wl_nil ?_
  refine st_tn ?_
  refine w_cond_d rfl (fun hc6 => ?_) (fun hc6 => ?_)
  · -- c6.t
    refine w_seq ?_
    refine w_region ?_
    refine wl_det rfl rfl rfl (op_move rfl) ?_
    refine wl_det rfl rfl rfl (op_nilCheck rfl) ?_
    refine wl_det rfl rfl rfl (op_fieldAddr (off := 2) rfl tF107_2re) ?_
    refine wl_det rfl rfl rfl (op_load1 rfl tO27re (Ent.app (Ent.fld hb 2) _)) ?_
    refine wl_det rfl rfl rfl (op_assign rfl) ?_
    refine wl_nil ?_
    refine st_tn ?_
    refine w_ret ?_
    refine st_br ?_
    refine st_tr ?_
    refine st_ret (vs := [_]) [] Try.results66 ⟨rfl, trivial⟩ rfl ?_
    refine ⟨_, rfl, ?_⟩
    unfold endE; rw [if_pos (by assumption)]; exact ⟨rfl, rfl⟩
  · -- c6.f
    refine w_seq ?_
    refine w_drawW (fun β => [⟨17, [], [], [], noW (_), false, [], []⟩, ⟨18, [0], [], [], noW (_), false, [], []⟩, ⟨19, [1], [], [], noW (_), false, [], []⟩, ⟨20, [2], [], [], noW (_), false, [], []⟩, ⟨21, [], [], [], noW (_), false, [], []⟩, ⟨22, [4], [], [], noW (_), false, [], []⟩, ⟨23, [5], [], [], noW (_), false, [], []⟩, ⟨24, [6], [], [], noW (_), false, [], []⟩, ⟨25, [7], [], [], noW (_), false, [], []⟩]) [] [0] [⟨17, [], [], false, [], []⟩, ⟨18, [0], [], false, [], []⟩, ⟨19, [1], [], false, [], []⟩, ⟨20, [2], [], false, [], []⟩, ⟨21, [], [], false, [], []⟩, ⟨22, [4], [], false, [], []⟩, ⟨23, [5], [], false, [], []⟩, ⟨24, [6], [], false, [], []⟩, ⟨25, [7], [], false, [], []⟩] [[], [], [], [], [], [], [], [], []] [[], [], [], [], [], [], [], [], []] tMixre (fun _ => by rfl) (fun _ => by rfl) (by kernel_rfl) (by kernel_rfl) (by rfl) (by rfl)
        (fun β => ⟨.p rfl (by intro X; exact op_move rfl),
        ⟨.p rfl (by intro X; rintro _ _ ⟨rfl, rfl⟩; exact op_nilCheck rfl),
        ⟨.p rfl (by intro X; rintro _ _ ⟨rfl, rfl⟩; exact op_fieldAddr (off := 1) rfl tF107_1re),
        ⟨.p rfl (by intro X; rintro _ _ ⟨rfl, rfl⟩; exact op_load1 rfl tO3re (Ent.app (Ent.app (Ent.fld hb 1) X) _)),
        ⟨.p rfl (by intro X; exact op_move rfl),
        ⟨.p rfl (by intro X; rintro _ _ ⟨rfl, rfl⟩; exact op_nilCheck rfl),
        ⟨.p rfl (by intro X; rintro _ _ ⟨rfl, rfl⟩; exact op_fieldAddr (off := 0) rfl tF107_0re),
        ⟨.p rfl (by intro X; rintro _ _ ⟨rfl, rfl⟩; exact op_load1 rfl tO9re (Ent.app (Ent.app (Ent.fld hb 0) X) _)),
        ⟨.p rfl (by intro X; rintro _ _ ⟨rfl, rfl⟩; exact op_lenBs rfl Try.underlying9),
        trivial⟩⟩⟩⟩⟩⟩⟩⟩⟩)
        (fun β β' => ⟨fun _ => by rfl, ⟨fun _ => by rfl, ⟨fun _ => by rfl, ⟨fun _ => by rfl, ⟨fun _ => by rfl, ⟨fun _ => by rfl, ⟨fun _ => by rfl, ⟨fun _ => by rfl, ⟨fun _ => by rfl, trivial⟩⟩⟩⟩⟩⟩⟩⟩⟩) ?_
    intro β
    rintro _ _ ⟨rfl, rfl⟩ _ _ ⟨rfl, rfl⟩ _ _ ⟨rfl, rfl⟩ _ _ ⟨rfl, rfl⟩ _ _ ⟨rfl, rfl⟩ _ _ ⟨rfl, rfl⟩ _ _ ⟨rfl, rfl⟩ _ _ ⟨rfl, rfl⟩ _ _ ⟨rfl, rfl⟩
    refine wl_norm (e' := [(20, _), (25, _)]) (.cons rfl (.cons rfl (.nil _))) (by dsimp only [cond_false, cond_true, List.nil_append, List.cons_append]) ?_
    refine wl_det rfl rfl rfl (op_lss rfl rfl) ?_
    refine wl_det rfl rfl rfl (op_assign rfl) ?_
    refine wl_nil ?_
    refine st_tn ?_
    refine w_cond_d rfl (fun hc16 => ?_) (fun hc16 => ?_)
    · -- c16.t
      refine w_seq ?_
      refine w_region ?_
      refine wl_det rfl rfl rfl (op_assign rfl) ?_
      refine wl_nil ?_
      refine st_tn ?_
      refine w_ret ?_
      refine st_br ?_
      refine st_tr ?_
      refine st_ret (vs := [_]) [] Try.results66 ⟨rfl, trivial⟩ rfl ?_
      refine ⟨_, rfl, ?_⟩
      unfold endE; rw [if_neg (by assumption), if_pos (by omega)]; exact ⟨rfl, rfl⟩
    · -- c16.f
      refine w_skip ?_
      refine st_bn ?_
      refine st_tn ?_
      refine w_seq ?_
      refine w_region ?_
      refine wl_det rfl rfl rfl (op_assign rfl) ?_
      refine wl_nil ?_
      refine st_tn ?_
      refine w_ret ?_
      refine st_ret (vs := [_]) [] Try.results66 ⟨rfl, trivial⟩ rfl ?_
      refine ⟨_, rfl, ?_⟩
      unfold endE; rw [if_neg (by assumption), if_neg (by omega)]; exact ⟨rfl, rfl⟩

set_option maxHeartbeats 400000 in
set_option maxRecDepth 100000 in
theorem rnew_any {σ : World} {F : List Res} (lab : Nat) (s : RdM.Bs) :
    FnT Try.prog σ F 62 [.string (str s)] [] (fun u ρ => ∃ b, u = .pointer (some ⟨b, 0, none⟩) ∧ ρ = [(lab, cel b (cellR s ⟨0, 0⟩) 107)]) := by
  refine fn_of 6 Try.func62 rfl Try.ntmps62 rfl ?_
  refine w_seq ?_
  refine w_region ?_
  refine wl_det rfl rfl rfl (op_assign rfl) ?_
  refine wl_nil ?_
  refine st_tn ?_
  refine w_seq ?_
  refine w_region ?_
  refine wl_det rfl rfl rfl (op_move rfl) ?_
  refine wl_det rfl rfl rfl (op_build tB107re rfl rfl) ?_
  refine wl_op [] rfl rfl rfl rfl (op_box (T := 107) (l := 5) rfl) ?_
  rintro _ _ ⟨b5, rfl, rfl⟩
  refine wl_det rfl rfl rfl (op_assign rfl) ?_
  refine wl_nil ?_
  refine st_tn ?_
  refine w_ret ?_
  refine st_ret (vs := [_]) [5] Try.results62 ⟨rfl, trivial⟩ rfl ?_
  refine ⟨[(lab, _)], rfl, ?_⟩
  exact ⟨_, rfl, rfl⟩

end Go.Proofs.Ytkknlfhncheflaa
namespace Go.Proofs.Ytkknlfhncheflaa
open Go Go.SL Go.RowKit Go.RdM
set_option linter.unusedVariables false
set_option linter.unusedSimpArgs false
theorem tA90rf : aggB Try.prog 90 3 = true := by kernel_rfl
theorem tF90_0rf : fieldB Try.prog 90 0 0 = true := by kernel_rfl
theorem tF90_1rf : fieldB Try.prog 90 1 1 = true := by kernel_rfl
theorem tF90_2rf : fieldB Try.prog 90 2 2 = true := by kernel_rfl
theorem tMixrf : Try.prog.follows .mixedOrders = true := by kernel_rfl
theorem tO27rf : oneB Try.prog 27 = true := by kernel_rfl
theorem tO3rf : oneB Try.prog 3 = true := by kernel_rfl
theorem tO9rf : oneB Try.prog 9 = true := by kernel_rfl
theorem tZ27rf : (Try.prog.info? 27).map (·.size) = some 1 := by kernel_rfl
theorem tZ3rf : (Try.prog.info? 3).map (·.size) = some 1 := by kernel_rfl

set_option maxHeartbeats 4000000 in
set_option maxRecDepth 100000 in
theorem xnum_any {σ : World} {F : List Res} {s : RdM.Bs} {at_ : Nat} {e : Int} (hs : s.length ≤ 1099511627776) :
    FnT Try.prog σ F 82 [.agg #[.string (str s), .int .i64 at_, .int .i64 e]] [] (fun u ρ => u = .tuple #[.int .i64 (num s at_).1, .int .i64 (num s at_).2.1, .int .i64 (num s at_).2.2] ∧ ρ = []) := by
  refine fn_of 100 Try.func82 rfl Try.ntmps82 rfl ?_
  refine w_seq ?_
  refine w_region ?_
  refine wl_op [] rfl rfl rfl rfl (op_box (T := 90) (l := 1) rfl) ?_
  rintro _ _ ⟨b1, rfl, rfl⟩
  refine wl_det rfl rfl rfl (op_assign rfl) ?_
  refine wl_det rfl rfl rfl (op_assign rfl) ?_
  refine wl_det rfl rfl rfl (op_assign rfl) ?_
  refine wl_nil ?_
  refine st_tn ?_
  refine w_seq ?_
  refine w_seq ?_
  refine w_region ?_
  refine wl_det rfl rfl rfl (op_fieldAddr (off := 1) rfl tF90_1rf) ?_
  refine wl_det rfl rfl rfl (op_load1 rfl tO3rf (Ent.lab (l := 1) rfl (says_cel 1))) ?_
  refine wl_det rfl rfl rfl (op_fieldAddr (off := 0) rfl tF90_0rf) ?_
  refine wl_det rfl rfl rfl (op_load1 rfl tO9rf (Ent.lab (l := 1) rfl (says_cel 0))) ?_
  refine wl_det rfl rfl rfl (op_lenBs rfl Try.underlying9) ?_
  refine wl_det rfl rfl rfl (op_geq rfl rfl) ?_
  refine wl_nil ?_
  refine st_tn ?_
  refine w_cond_d rfl (fun hc17 => ?_) (fun hc17 => ?_)
  · -- c17.t
    refine w_seq ?_
    refine w_region ?_
    refine wl_det rfl rfl rfl (op_assign rfl) ?_
    refine wl_det rfl rfl rfl (op_assign rfl) ?_
    refine wl_det rfl rfl rfl (op_assign rfl) ?_
    refine wl_nil ?_
    refine st_tn ?_
    refine w_ret ?_
    refine st_tr ?_
    refine st_ret (vs := [_, _, _]) [] Try.results82 ⟨rfl, ⟨rfl, ⟨rfl, trivial⟩⟩⟩ rfl ?_
    refine ⟨_, rfl, ?_⟩
    rw [num_none (by omega)]; exact ⟨rfl, rfl⟩
  · -- c17.f
    obtain ⟨b0, hb0⟩ := getE (l := s) (i := at_) (by omega)
    have hb8 := b0.toNat_lt
    have hnum := num_some hb0
    have hsz : 8 < szB b0.toNat ↔ (b0.toNat < 120 ∨ b0.toNat > 136) := by unfold szB; split <;> omega
    refine w_skip ?_
    refine st_tn ?_
    refine w_seq ?_
    refine w_region ?_
    refine wl_det rfl rfl rfl (op_fieldAddr (off := 0) rfl tF90_0rf) ?_
    refine wl_det rfl rfl rfl (op_load1 rfl tO9rf (Ent.lab (l := 1) rfl (says_cel 0))) ?_
    refine wl_det rfl rfl rfl (op_fieldAddr (off := 1) rfl tF90_1rf) ?_
    refine wl_det rfl rfl rfl (op_load1 rfl tO3rf (Ent.lab (l := 1) rfl (says_cel 1))) ?_
    refine wl_det rfl rfl rfl (op_idxBs rfl rfl Try.underlying9 (by assumption)) ?_
    refine wl_det rfl rfl rfl (op_convI64 rfl (by rw [Try.underlying5]; rfl) Try.underlying3 (by omega)) ?_
    refine wl_det rfl rfl rfl (op_assign rfl) ?_
    refine wl_nil ?_
    refine st_tn ?_
    refine w_seq ?_
    refine w_seq ?_
    refine w_region ?_
    refine wl_det rfl rfl rfl (op_move rfl) ?_
    refine wl_det rfl rfl rfl (op_lss rfl rfl) ?_
    refine wl_det rfl rfl rfl (op_move rfl) ?_
    refine wl_gsplit (t := 26) rfl (fun hg26 => ?_) (fun hg26 => ?_)
    · -- 26 is True
      refine wl_unwanted rfl rfl rfl rfl rfl rfl rfl rfl ?_
      refine wl_unwanted rfl rfl rfl rfl rfl rfl rfl rfl ?_
      refine wl_det rfl rfl rfl (op_pick_t rfl rfl) ?_
      refine wl_nil ?_
      refine st_tn ?_
      refine w_cond_t (rfl) ?_
      refine w_seq ?_
      refine w_region ?_
      refine wl_det rfl rfl rfl (op_assign rfl) ?_
      refine wl_det rfl rfl rfl (op_assign rfl) ?_
      refine wl_det rfl rfl rfl (op_assign rfl) ?_
      refine wl_nil ?_
      refine st_tn ?_
      refine w_ret ?_
      refine st_tr ?_
      refine st_ret (vs := [_, _, _]) [] Try.results82 ⟨rfl, ⟨rfl, ⟨rfl, trivial⟩⟩⟩ rfl ?_
      refine ⟨_, rfl, ?_⟩
      rw [hnum, if_pos (by omega)]; exact ⟨rfl, rfl⟩
    · -- 26 is False
      refine wl_wanted_det rfl rfl rfl rfl rfl rfl rfl (op_move rfl) ?_
      refine wl_wanted_det rfl rfl rfl rfl rfl rfl rfl (op_gtr rfl rfl) ?_
      refine wl_det rfl rfl rfl (op_pick_f rfl rfl) ?_
      refine wl_nil ?_
      refine st_tn ?_
      refine w_cond_d rfl (fun hc29 => ?_) (fun hc29 => ?_)
      · -- c29.t
        refine w_seq ?_
        refine w_region ?_
        refine wl_det rfl rfl rfl (op_assign rfl) ?_
        refine wl_det rfl rfl rfl (op_assign rfl) ?_
        refine wl_det rfl rfl rfl (op_assign rfl) ?_
        refine wl_nil ?_
        refine st_tn ?_
        refine w_ret ?_
        refine st_tr ?_
        refine st_ret (vs := [_, _, _]) [] Try.results82 ⟨rfl, ⟨rfl, ⟨rfl, trivial⟩⟩⟩ rfl ?_
        refine ⟨_, rfl, ?_⟩
        rw [hnum, if_pos (by omega)]; exact ⟨rfl, rfl⟩
      · -- c29.f
        refine w_skip ?_
        refine st_tn ?_
        refine w_seq ?_
        refine w_region ?_
        refine wl_det rfl rfl rfl (op_move rfl) ?_
        refine wl_det rfl rfl rfl (op_sub' rfl rfl (by omega)) ?_
        refine wl_det rfl rfl rfl (op_assign rfl) ?_
        refine wl_det rfl rfl rfl (op_assign rfl) ?_
        refine wl_nil ?_
        refine st_tn ?_
        refine w_seq ?_
        refine w_seq ?_
        refine w_region ?_
        refine wl_det rfl rfl rfl (op_move rfl) ?_
        refine wl_det rfl rfl rfl (op_lss rfl rfl) ?_
        refine wl_nil ?_
        refine st_tn ?_
        refine w_cond_d rfl (fun hc33 => ?_) (fun hc33 => ?_)
        · -- c33.t
          have hneg : decide (b0.toNat < 128) = true := by simp; omega
          have hov : (if decide (b0.toNat < 128) = true then 1 else 0 : Nat) = 1 := by rw [if_pos hneg]
          have hk : szB b0.toNat = 128 - b0.toNat := by unfold szB; rw [if_pos (by omega)]
          refine w_region ?_
          refine wl_det rfl rfl rfl (op_move rfl) ?_
          refine wl_det rfl rfl rfl (op_sub' rfl rfl (by omega)) ?_
          refine wl_det rfl rfl rfl (op_assign rfl) ?_
          refine wl_det rfl rfl rfl (op_assign rfl) ?_
          refine wl_nil ?_
          refine st_tn ?_
          refine w_seq ?_
          refine w_seq ?_
          refine w_region ?_
          refine wl_det rfl rfl rfl (op_fieldAddr (off := 0) rfl tF90_0rf) ?_
          refine wl_det rfl rfl rfl (op_load1 rfl tO9rf (Ent.lab (l := 1) rfl (says_cel 0))) ?_
          refine wl_det rfl rfl rfl (op_lenBs rfl Try.underlying9) ?_
          refine wl_det rfl rfl rfl (op_fieldAddr (off := 1) rfl tF90_1rf) ?_
          refine wl_det rfl rfl rfl (op_load1 rfl tO3rf (Ent.lab (l := 1) rfl (says_cel 1))) ?_
          refine wl_det rfl rfl rfl (op_sub' rfl rfl (by omega)) ?_
          refine wl_det rfl rfl rfl (op_sub' rfl rfl (by omega)) ?_
          refine wl_det rfl rfl rfl (op_move rfl) ?_
          refine wl_det rfl rfl rfl (op_lss rfl rfl) ?_
          refine wl_nil ?_
          refine st_tn ?_
          refine w_cond_d rfl (fun hc44 => ?_) (fun hc44 => ?_)
          · -- c44.t
            refine w_seq ?_
            refine w_region ?_
            refine wl_det rfl rfl rfl (op_assign rfl) ?_
            refine wl_det rfl rfl rfl (op_assign rfl) ?_
            refine wl_det rfl rfl rfl (op_assign rfl) ?_
            refine wl_nil ?_
            refine st_tn ?_
            refine w_ret ?_
            refine st_tr ?_
            refine st_ret (vs := [_, _, _]) [] Try.results82 ⟨rfl, ⟨rfl, ⟨rfl, trivial⟩⟩⟩ rfl ?_
            refine ⟨_, rfl, ?_⟩
            rw [hnum, if_neg (by omega), if_pos (by omega)]; exact ⟨rfl, rfl⟩
          · -- c44.f
            refine w_skip ?_
            refine st_tn ?_
            refine w_seq ?_
            refine w_region ?_
            refine wl_det rfl rfl rfl (op_assign rfl) ?_
            refine wl_nil ?_
            refine st_tn ?_
            refine w_seq ?_
            refine w_seq ?_
            refine w_region ?_
            refine wl_det rfl rfl rfl (op_assign rfl) ?_
            refine wl_nil ?_
            refine st_tn ?_
            refine w_block ?_
            refine w_loopK (X := Nat) (fun i => i ≤ szB b0.toNat ∧ (0 < i → (raw s at_ (szB b0.toNat) (decide (b0.toNat < 128))).head? ≠ some 0)) (fun i => [(8, .int .u64 (val (raw s at_ i (decide (b0.toNat < 128))) : Nat)), (9, .int .i64 i)]) (fun _ => []) (fun i => szB b0.toNat - i) (0) [(1, _), (6, _), (7, _)] [(1, _)] (⟨Nat.zero_le _, fun h => absurd h (Nat.lt_irrefl _)⟩) (.cons rfl (.cons rfl (.nil _))) (.cons rfl (.cons rfl (.cons rfl (.nil _)))) [1] rfl (rfl) ?_
            rintro i ⟨hi, hz⟩
            refine w_norm2 (by dsimp only [List.cons_append, List.nil_append]) (by dsimp only [List.cons_append, List.nil_append]) ?_
            refine w_seq ?_
            refine w_seq ?_
            refine w_region ?_
            refine wl_det rfl rfl rfl (op_move rfl) ?_
            refine wl_det rfl rfl rfl (op_move rfl) ?_
            refine wl_det rfl rfl rfl (op_lss rfl rfl) ?_
            refine wl_nil ?_
            refine st_tn ?_
            refine w_cond_d rfl (fun hc47 => ?_) (fun hc47 => ?_)
            · -- c47.t
              obtain ⟨c0, hc0⟩ := getE (l := s) (i := at_ + 1 + i) (by omega)
              have hc8 := c0.toNat_lt
              have hsucc := raw_succ (neg := decide (b0.toNat < 128)) hc0
              have hlt : val (raw s at_ i (decide (b0.toNat < 128))) < 72057594037927936 := val_raw_lt (s := s) (at_ := at_) (k := i) (neg := decide (b0.toNat < 128)) (by omega) (j := 7) (by omega)
              have hfl := flp_lt (decide (b0.toNat < 128)) c0
              refine w_skip ?_
              refine st_tn ?_
              refine w_seq ?_
              refine w_block ?_
              refine w_seq ?_
              refine w_region ?_
              refine wl_det rfl rfl rfl (op_fieldAddr (off := 0) rfl tF90_0rf) ?_
              refine wl_det rfl rfl rfl (op_load1 rfl tO9rf (Ent.lab (l := 1) rfl (says_cel 0))) ?_
              refine wl_det rfl rfl rfl (op_fieldAddr (off := 1) rfl tF90_1rf) ?_
              refine wl_det rfl rfl rfl (op_load1 rfl tO3rf (Ent.lab (l := 1) rfl (says_cel 1))) ?_
              refine wl_det rfl rfl rfl (op_add' rfl rfl (by omega)) ?_
              refine wl_det rfl rfl rfl (op_move rfl) ?_
              refine wl_det rfl rfl rfl (op_add' rfl rfl (by omega)) ?_
              refine wl_det rfl rfl rfl (op_idxBs rfl rfl Try.underlying9 (by assumption)) ?_
              refine wl_det rfl rfl rfl (op_assign rfl) ?_
              refine wl_nil ?_
              refine st_tn ?_
              refine w_seq ?_
              refine w_seq ?_
              refine w_region ?_
              refine wl_det rfl rfl rfl (op_move rfl) ?_
              refine wl_nil ?_
              refine st_tn ?_
              refine w_cond_t (rfl) ?_
              refine w_region ?_
              refine wl_det rfl rfl rfl (op_move rfl) ?_
              refine wl_det rfl rfl rfl (op_val (v' := .int .u8 ((flp (decide (b0.toNat < 128)) c0 : Nat) : Int)) (by unfold flp; rw [if_pos hneg]; congr 1; simp [IntKind.bits, IntKind.wrap, IntKind.signed]; omega) (op_sub rfl rfl)) ?_
              refine wl_det rfl rfl rfl (op_assign rfl) ?_
              refine wl_nil ?_
              refine st_tn ?_
              refine w_seq ?_
              refine w_seq ?_
              refine w_region ?_
              refine wl_det rfl rfl rfl (op_move rfl) ?_
              refine wl_det rfl rfl rfl (op_eql rfl rfl) ?_
              refine wl_det rfl rfl rfl (op_move rfl) ?_
              refine wl_gsplit (t := 63) rfl (fun hg63 => ?_) (fun hg63 => ?_)
              · -- 63 is True
                refine wl_wanted_det rfl rfl rfl rfl rfl rfl rfl (op_move rfl) ?_
                refine wl_wanted_det rfl rfl rfl rfl rfl rfl rfl (op_eql rfl rfl) ?_
                refine wl_det rfl rfl rfl (op_pick_t rfl rfl) ?_
                refine wl_nil ?_
                refine st_tn ?_
                refine w_cond_d rfl (fun hc66 => ?_) (fun hc66 => ?_)
                · -- c66.t
                  refine w_seq ?_
                  refine w_region ?_
                  refine wl_det rfl rfl rfl (op_assign rfl) ?_
                  refine wl_det rfl rfl rfl (op_assign rfl) ?_
                  refine wl_det rfl rfl rfl (op_assign rfl) ?_
                  refine wl_nil ?_
                  refine st_tn ?_
                  refine w_ret ?_
                  refine st_tr ?_
                  refine st_br ?_
                  refine st_tr ?_
                  refine st_tr ?_
                  refine st_br ?_
                  refine st_tr ?_
                  refine st_ret (vs := [_, _, _]) [] Try.results82 ⟨rfl, ⟨rfl, ⟨rfl, trivial⟩⟩⟩ rfl ?_
                  refine ⟨_, rfl, ?_⟩
                  have hi0 : i = 0 := by simpa using hg63
                  rw [hnum, if_neg (by omega), if_neg (by omega), if_pos (head_zero hc0 hi0 (by omega) (by omega))]; exact ⟨rfl, rfl⟩
                · -- c66.f
                  refine w_skip ?_
                  refine st_tn ?_
                  refine w_region ?_
                  refine wl_det rfl rfl rfl (op_move rfl) ?_
                  refine wl_det rfl rfl rfl (op_mulU rfl rfl (by omega)) ?_
                  refine wl_det rfl rfl rfl (op_move rfl) ?_
                  refine wl_det rfl rfl rfl (op_convU64 rfl (by rw [Try.underlying5]; rfl) Try.underlying116 (by omega)) ?_
                  refine wl_det rfl rfl rfl (op_val (v' := .int .u64 ((val (raw s at_ (i + 1) (decide (b0.toNat < 128))) : Nat) : Int)) (by rw [hsucc, val_snoc]; congr 1) (op_addU rfl rfl (by omega))) ?_
                  refine wl_det rfl rfl rfl (op_assign rfl) ?_
                  refine wl_nil ?_
                  refine st_bn ?_
                  refine st_tn ?_
                  refine w_region ?_
                  refine wl_det rfl rfl rfl (op_move rfl) ?_
                  refine wl_det rfl rfl rfl (op_add' rfl rfl (by omega)) ?_
                  refine wl_det rfl rfl rfl (op_assign rfl) ?_
                  refine wl_nil ?_
                  refine st_roundK (x := i) (i + 1) [1] (⟨by omega, fun _ => head_ne hc0 hz (by intro hi0; simp at hg63; omega) (by omega)⟩) (by show szB b0.toNat - (i + 1) < szB b0.toNat - i; omega) (.cons rfl (.cons rfl (.nil _))) (.cons rfl (.cons rfl (.cons rfl (.nil _)))) rfl (rfl) 
              · -- 63 is False
                refine wl_unwanted rfl rfl rfl rfl rfl rfl rfl rfl ?_
                refine wl_unwanted rfl rfl rfl rfl rfl rfl rfl rfl ?_
                refine wl_det rfl rfl rfl (op_pick_f rfl rfl) ?_
                refine wl_nil ?_
                refine st_tn ?_
                refine w_cond_f (rfl) ?_
                refine w_skip ?_
                refine st_tn ?_
                refine w_region ?_
                refine wl_det rfl rfl rfl (op_move rfl) ?_
                refine wl_det rfl rfl rfl (op_mulU rfl rfl (by omega)) ?_
                refine wl_det rfl rfl rfl (op_move rfl) ?_
                refine wl_det rfl rfl rfl (op_convU64 rfl (by rw [Try.underlying5]; rfl) Try.underlying116 (by omega)) ?_
                refine wl_det rfl rfl rfl (op_val (v' := .int .u64 ((val (raw s at_ (i + 1) (decide (b0.toNat < 128))) : Nat) : Int)) (by rw [hsucc, val_snoc]; congr 1) (op_addU rfl rfl (by omega))) ?_
                refine wl_det rfl rfl rfl (op_assign rfl) ?_
                refine wl_nil ?_
                refine st_bn ?_
                refine st_tn ?_
                refine w_region ?_
                refine wl_det rfl rfl rfl (op_move rfl) ?_
                refine wl_det rfl rfl rfl (op_add' rfl rfl (by omega)) ?_
                refine wl_det rfl rfl rfl (op_assign rfl) ?_
                refine wl_nil ?_
                refine st_roundK (x := i) (i + 1) [1] (⟨by omega, fun _ => head_ne hc0 hz (by intro hi0; simp at hg63; omega) (by omega)⟩) (by show szB b0.toNat - (i + 1) < szB b0.toNat - i; omega) (.cons rfl (.cons rfl (.nil _))) (.cons rfl (.cons rfl (.cons rfl (.nil _)))) rfl (rfl) 
            · -- c47.f
              obtain rfl : i = szB b0.toNat := by omega
              have hhd : (raw s at_ (szB b0.toNat) (decide (b0.toNat < 128))).head? ≠ some 0 := by
                rcases Nat.eq_zero_or_pos (szB b0.toNat) with h0 | h0
                · rw [h0, raw_zero]; simp
                · exact hz h0
              have hpos : 0 < szB b0.toNat → 0 < val (raw s at_ (szB b0.toNat) (decide (b0.toNat < 128))) := fun h => val_pos hhd (raw_ne (by omega) h)
              refine w_exit ?_
              refine st_te ?_
              refine st_te ?_
              refine st_be ?_
              refine st_tn ?_
              refine w_seq ?_
              refine w_region ?_
              refine wl_det rfl rfl rfl (op_fieldAddr (off := 1) rfl tF90_1rf) ?_
              refine wl_det rfl rfl rfl (op_load1 rfl tO3rf (Ent.lab (l := 1) rfl (says_cel 1))) ?_
              refine wl_det rfl rfl rfl (op_add' rfl rfl (by omega)) ?_
              refine wl_det rfl rfl rfl (op_move rfl) ?_
              refine wl_det rfl rfl rfl (op_val (v' := .int .i64 ((at_ + 1 + szB b0.toNat : Nat) : Int)) (by congr 1; omega) (op_add' rfl rfl (by omega))) ?_
              refine wl_det rfl rfl rfl (op_assign rfl) ?_
              refine wl_nil ?_
              refine st_tn ?_
              refine w_seq ?_
              refine w_seq ?_
              refine w_region ?_
              refine wl_det rfl rfl rfl (op_move rfl) ?_
              refine wl_det rfl rfl rfl (op_not_t rfl) ?_
              refine wl_det rfl rfl rfl (op_move rfl) ?_
              refine wl_unwanted rfl rfl rfl rfl rfl rfl rfl rfl ?_
              refine wl_unwanted rfl rfl rfl rfl rfl rfl rfl rfl ?_
              refine wl_det rfl rfl rfl (op_pick_f rfl rfl) ?_
              refine wl_det rfl rfl rfl (op_move rfl) ?_
              refine wl_wanted_det rfl rfl rfl rfl rfl rfl rfl (op_move rfl) ?_
              refine wl_wanted_det rfl rfl rfl rfl rfl rfl rfl (op_move rfl) ?_
              refine wl_wanted_det rfl rfl rfl rfl rfl rfl rfl (op_move rfl) ?_
              refine wl_wanted_det rfl rfl rfl rfl rfl rfl rfl (op_gtr rfl rfl) ?_
              refine wl_wanted_det rfl rfl rfl rfl rfl rfl rfl (op_pick_t rfl rfl) ?_
              refine wl_det rfl rfl rfl (op_pick_f rfl rfl) ?_
              refine wl_nil ?_
              refine st_tn ?_
              refine w_cond_d rfl (fun hc89 => ?_) (fun hc89 => ?_)
              · -- c89.t
                refine w_seq ?_
                refine w_region ?_
                refine wl_det rfl rfl rfl (op_assign rfl) ?_
                refine wl_det rfl rfl rfl (op_assign rfl) ?_
                refine wl_det rfl rfl rfl (op_assign rfl) ?_
                refine wl_nil ?_
                refine st_tn ?_
                refine w_ret ?_
                refine st_tr ?_
                refine st_ret (vs := [_, _, _]) [] Try.results82 ⟨rfl, ⟨rfl, ⟨rfl, trivial⟩⟩⟩ rfl ?_
                refine ⟨_, rfl, ?_⟩
                rw [hnum, if_neg (by omega), if_neg (by omega), if_neg hhd, if_pos (by rw [hov]; omega)]; exact ⟨rfl, rfl⟩
              · -- c89.f
                refine w_skip ?_
                refine st_tn ?_
                refine w_seq ?_
                refine w_seq ?_
                refine w_region ?_
                refine wl_det rfl rfl rfl (op_move rfl) ?_
                refine wl_nil ?_
                refine st_tn ?_
                refine w_cond_t (rfl) ?_
                refine w_seq ?_
                refine w_region ?_
                refine wl_det rfl rfl rfl (op_move rfl) ?_
                refine wl_det rfl rfl rfl (op_subU rfl rfl (by have := hpos (by omega); omega)) ?_
                refine wl_det rfl rfl rfl (op_convI64 rfl (by rw [Try.underlying116]; rfl) Try.underlying3 (by omega)) ?_
                refine wl_det rfl rfl rfl (op_sub' rfl rfl (by omega)) ?_
                refine wl_det rfl rfl rfl (op_val (v' := .int .i64 (-((val (raw s at_ (szB b0.toNat) (decide (b0.toNat < 128))) : Nat) : Int))) (by congr 1; omega) (op_sub' rfl rfl (by omega))) ?_
                refine wl_det rfl rfl rfl (op_move rfl) ?_
                refine wl_det rfl rfl rfl (op_assign rfl) ?_
                refine wl_det rfl rfl rfl (op_assign rfl) ?_
                refine wl_det rfl rfl rfl (op_assign rfl) ?_
                refine wl_nil ?_
                refine st_tn ?_
                refine w_ret ?_
                refine st_tr ?_
                refine st_ret (vs := [_, _, _]) [] Try.results82 ⟨rfl, ⟨rfl, ⟨rfl, trivial⟩⟩⟩ rfl ?_
                refine ⟨_, rfl, ?_⟩
                rw [hnum, if_neg (by omega), if_neg (by omega), if_neg hhd, if_neg (by rw [hov]; omega)]; simp only [hneg, if_true]; exact ⟨rfl, trivial⟩
        · -- c33.f
          have hneg : decide (b0.toNat < 128) = false := by simp; omega
          have hov : (if decide (b0.toNat < 128) = true then 1 else 0 : Nat) = 0 := by rw [hneg]; rfl
          have hk : szB b0.toNat = b0.toNat - 128 := by unfold szB; rw [if_neg (by omega)]
          refine w_skip ?_
          refine st_tn ?_
          refine w_seq ?_
          refine w_seq ?_
          refine w_region ?_
          refine wl_det rfl rfl rfl (op_fieldAddr (off := 0) rfl tF90_0rf) ?_
          refine wl_det rfl rfl rfl (op_load1 rfl tO9rf (Ent.lab (l := 1) rfl (says_cel 0))) ?_
          refine wl_det rfl rfl rfl (op_lenBs rfl Try.underlying9) ?_
          refine wl_det rfl rfl rfl (op_fieldAddr (off := 1) rfl tF90_1rf) ?_
          refine wl_det rfl rfl rfl (op_load1 rfl tO3rf (Ent.lab (l := 1) rfl (says_cel 1))) ?_
          refine wl_det rfl rfl rfl (op_sub' rfl rfl (by omega)) ?_
          refine wl_det rfl rfl rfl (op_sub' rfl rfl (by omega)) ?_
          refine wl_det rfl rfl rfl (op_move rfl) ?_
          refine wl_det rfl rfl rfl (op_lss rfl rfl) ?_
          refine wl_nil ?_
          refine st_tn ?_
          refine w_cond_d rfl (fun hc44 => ?_) (fun hc44 => ?_)
          · -- c44.t
            refine w_seq ?_
            refine w_region ?_
            refine wl_det rfl rfl rfl (op_assign rfl) ?_
            refine wl_det rfl rfl rfl (op_assign rfl) ?_
            refine wl_det rfl rfl rfl (op_assign rfl) ?_
            refine wl_nil ?_
            refine st_tn ?_
            refine w_ret ?_
            refine st_tr ?_
            refine st_ret (vs := [_, _, _]) [] Try.results82 ⟨rfl, ⟨rfl, ⟨rfl, trivial⟩⟩⟩ rfl ?_
            refine ⟨_, rfl, ?_⟩
            rw [hnum, if_neg (by omega), if_pos (by omega)]; exact ⟨rfl, rfl⟩
          · -- c44.f
            refine w_skip ?_
            refine st_tn ?_
            refine w_seq ?_
            refine w_region ?_
            refine wl_det rfl rfl rfl (op_assign rfl) ?_
            refine wl_nil ?_
            refine st_tn ?_
            refine w_seq ?_
            refine w_seq ?_
            refine w_region ?_
            refine wl_det rfl rfl rfl (op_assign rfl) ?_
            refine wl_nil ?_
            refine st_tn ?_
            refine w_block ?_
            refine w_loopK (X := Nat) (fun i => i ≤ szB b0.toNat ∧ (0 < i → (raw s at_ (szB b0.toNat) (decide (b0.toNat < 128))).head? ≠ some 0)) (fun i => [(8, .int .u64 (val (raw s at_ i (decide (b0.toNat < 128))) : Nat)), (9, .int .i64 i)]) (fun _ => []) (fun i => szB b0.toNat - i) (0) [(1, _), (6, _), (7, _)] [(1, _)] (⟨Nat.zero_le _, fun h => absurd h (Nat.lt_irrefl _)⟩) (.cons rfl (.cons rfl (.nil _))) (.cons rfl (.cons rfl (.cons rfl (.nil _)))) [1] rfl (rfl) ?_
            rintro i ⟨hi, hz⟩
            refine w_norm2 (by dsimp only [List.cons_append, List.nil_append]) (by dsimp only [List.cons_append, List.nil_append]) ?_
            refine w_seq ?_
            refine w_seq ?_
            refine w_region ?_
            refine wl_det rfl rfl rfl (op_move rfl) ?_
            refine wl_det rfl rfl rfl (op_move rfl) ?_
            refine wl_det rfl rfl rfl (op_lss rfl rfl) ?_
            refine wl_nil ?_
            refine st_tn ?_
            refine w_cond_d rfl (fun hc47 => ?_) (fun hc47 => ?_)
            · -- c47.t
              obtain ⟨c0, hc0⟩ := getE (l := s) (i := at_ + 1 + i) (by omega)
              have hc8 := c0.toNat_lt
              have hsucc := raw_succ (neg := decide (b0.toNat < 128)) hc0
              have hlt : val (raw s at_ i (decide (b0.toNat < 128))) < 72057594037927936 := val_raw_lt (s := s) (at_ := at_) (k := i) (neg := decide (b0.toNat < 128)) (by omega) (j := 7) (by omega)
              have hfl := flp_lt (decide (b0.toNat < 128)) c0
              refine w_skip ?_
              refine st_tn ?_
              refine w_seq ?_
              refine w_block ?_
              refine w_seq ?_
              refine w_region ?_
              refine wl_det rfl rfl rfl (op_fieldAddr (off := 0) rfl tF90_0rf) ?_
              refine wl_det rfl rfl rfl (op_load1 rfl tO9rf (Ent.lab (l := 1) rfl (says_cel 0))) ?_
              refine wl_det rfl rfl rfl (op_fieldAddr (off := 1) rfl tF90_1rf) ?_
              refine wl_det rfl rfl rfl (op_load1 rfl tO3rf (Ent.lab (l := 1) rfl (says_cel 1))) ?_
              refine wl_det rfl rfl rfl (op_add' rfl rfl (by omega)) ?_
              refine wl_det rfl rfl rfl (op_move rfl) ?_
              refine wl_det rfl rfl rfl (op_add' rfl rfl (by omega)) ?_
              refine wl_det rfl rfl rfl (op_val (v' := .int .u8 ((flp (decide (b0.toNat < 128)) c0 : Nat) : Int)) (by unfold flp; rw [hneg]; rfl) (op_idxBs rfl rfl Try.underlying9 (by assumption))) ?_
              refine wl_det rfl rfl rfl (op_assign rfl) ?_
              refine wl_nil ?_
              refine st_tn ?_
              refine w_seq ?_
              refine w_seq ?_
              refine w_region ?_
              refine wl_det rfl rfl rfl (op_move rfl) ?_
              refine wl_nil ?_
              refine st_tn ?_
              refine w_cond_f (rfl) ?_
              refine w_skip ?_
              refine st_tn ?_
              refine w_seq ?_
              refine w_seq ?_
              refine w_region ?_
              refine wl_det rfl rfl rfl (op_move rfl) ?_
              refine wl_det rfl rfl rfl (op_eql rfl rfl) ?_
              refine wl_det rfl rfl rfl (op_move rfl) ?_
              refine wl_gsplit (t := 63) rfl (fun hg63 => ?_) (fun hg63 => ?_)
              · -- 63 is True
                refine wl_wanted_det rfl rfl rfl rfl rfl rfl rfl (op_move rfl) ?_
                refine wl_wanted_det rfl rfl rfl rfl rfl rfl rfl (op_eql rfl rfl) ?_
                refine wl_det rfl rfl rfl (op_pick_t rfl rfl) ?_
                refine wl_nil ?_
                refine st_tn ?_
                refine w_cond_d rfl (fun hc66 => ?_) (fun hc66 => ?_)
                · -- c66.t
                  refine w_seq ?_
                  refine w_region ?_
                  refine wl_det rfl rfl rfl (op_assign rfl) ?_
                  refine wl_det rfl rfl rfl (op_assign rfl) ?_
                  refine wl_det rfl rfl rfl (op_assign rfl) ?_
                  refine wl_nil ?_
                  refine st_tn ?_
                  refine w_ret ?_
                  refine st_tr ?_
                  refine st_br ?_
                  refine st_tr ?_
                  refine st_tr ?_
                  refine st_br ?_
                  refine st_tr ?_
                  refine st_ret (vs := [_, _, _]) [] Try.results82 ⟨rfl, ⟨rfl, ⟨rfl, trivial⟩⟩⟩ rfl ?_
                  refine ⟨_, rfl, ?_⟩
                  have hi0 : i = 0 := by simpa using hg63
                  rw [hnum, if_neg (by omega), if_neg (by omega), if_pos (head_zero hc0 hi0 (by omega) (by omega))]; exact ⟨rfl, rfl⟩
                · -- c66.f
                  refine w_skip ?_
                  refine st_tn ?_
                  refine w_region ?_
                  refine wl_det rfl rfl rfl (op_move rfl) ?_
                  refine wl_det rfl rfl rfl (op_mulU rfl rfl (by omega)) ?_
                  refine wl_det rfl rfl rfl (op_move rfl) ?_
                  refine wl_det rfl rfl rfl (op_convU64 rfl (by rw [Try.underlying5]; rfl) Try.underlying116 (by omega)) ?_
                  refine wl_det rfl rfl rfl (op_val (v' := .int .u64 ((val (raw s at_ (i + 1) (decide (b0.toNat < 128))) : Nat) : Int)) (by rw [hsucc, val_snoc]; congr 1) (op_addU rfl rfl (by omega))) ?_
                  refine wl_det rfl rfl rfl (op_assign rfl) ?_
                  refine wl_nil ?_
                  refine st_bn ?_
                  refine st_tn ?_
                  refine w_region ?_
                  refine wl_det rfl rfl rfl (op_move rfl) ?_
                  refine wl_det rfl rfl rfl (op_add' rfl rfl (by omega)) ?_
                  refine wl_det rfl rfl rfl (op_assign rfl) ?_
                  refine wl_nil ?_
                  refine st_roundK (x := i) (i + 1) [1] (⟨by omega, fun _ => head_ne hc0 hz (by intro hi0; simp at hg63; omega) (by omega)⟩) (by show szB b0.toNat - (i + 1) < szB b0.toNat - i; omega) (.cons rfl (.cons rfl (.nil _))) (.cons rfl (.cons rfl (.cons rfl (.nil _)))) rfl (rfl) 
              · -- 63 is False
                refine wl_unwanted rfl rfl rfl rfl rfl rfl rfl rfl ?_
                refine wl_unwanted rfl rfl rfl rfl rfl rfl rfl rfl ?_
                refine wl_det rfl rfl rfl (op_pick_f rfl rfl) ?_
                refine wl_nil ?_
                refine st_tn ?_
                refine w_cond_f (rfl) ?_
                refine w_skip ?_
                refine st_tn ?_
                refine w_region ?_
                refine wl_det rfl rfl rfl (op_move rfl) ?_
                refine wl_det rfl rfl rfl (op_mulU rfl rfl (by omega)) ?_
                refine wl_det rfl rfl rfl (op_move rfl) ?_
                refine wl_det rfl rfl rfl (op_convU64 rfl (by rw [Try.underlying5]; rfl) Try.underlying116 (by omega)) ?_
                refine wl_det rfl rfl rfl (op_val (v' := .int .u64 ((val (raw s at_ (i + 1) (decide (b0.toNat < 128))) : Nat) : Int)) (by rw [hsucc, val_snoc]; congr 1) (op_addU rfl rfl (by omega))) ?_
                refine wl_det rfl rfl rfl (op_assign rfl) ?_
                refine wl_nil ?_
                refine st_bn ?_
                refine st_tn ?_
                refine w_region ?_
                refine wl_det rfl rfl rfl (op_move rfl) ?_
                refine wl_det rfl rfl rfl (op_add' rfl rfl (by omega)) ?_
                refine wl_det rfl rfl rfl (op_assign rfl) ?_
                refine wl_nil ?_
                refine st_roundK (x := i) (i + 1) [1] (⟨by omega, fun _ => head_ne hc0 hz (by intro hi0; simp at hg63; omega) (by omega)⟩) (by show szB b0.toNat - (i + 1) < szB b0.toNat - i; omega) (.cons rfl (.cons rfl (.nil _))) (.cons rfl (.cons rfl (.cons rfl (.nil _)))) rfl (rfl) 
            · -- c47.f
              obtain rfl : i = szB b0.toNat := by omega
              have hhd : (raw s at_ (szB b0.toNat) (decide (b0.toNat < 128))).head? ≠ some 0 := by
                rcases Nat.eq_zero_or_pos (szB b0.toNat) with h0 | h0
                · rw [h0, raw_zero]; simp
                · exact hz h0
              have hpos : 0 < szB b0.toNat → 0 < val (raw s at_ (szB b0.toNat) (decide (b0.toNat < 128))) := fun h => val_pos hhd (raw_ne (by omega) h)
              refine w_exit ?_
              refine st_te ?_
              refine st_te ?_
              refine st_be ?_
              refine st_tn ?_
              refine w_seq ?_
              refine w_region ?_
              refine wl_det rfl rfl rfl (op_fieldAddr (off := 1) rfl tF90_1rf) ?_
              refine wl_det rfl rfl rfl (op_load1 rfl tO3rf (Ent.lab (l := 1) rfl (says_cel 1))) ?_
              refine wl_det rfl rfl rfl (op_add' rfl rfl (by omega)) ?_
              refine wl_det rfl rfl rfl (op_move rfl) ?_
              refine wl_det rfl rfl rfl (op_val (v' := .int .i64 ((at_ + 1 + szB b0.toNat : Nat) : Int)) (by congr 1; omega) (op_add' rfl rfl (by omega))) ?_
              refine wl_det rfl rfl rfl (op_assign rfl) ?_
              refine wl_nil ?_
              refine st_tn ?_
              refine w_seq ?_
              refine w_seq ?_
              refine w_region ?_
              refine wl_det rfl rfl rfl (op_move rfl) ?_
              refine wl_det rfl rfl rfl (op_not_f rfl) ?_
              refine wl_det rfl rfl rfl (op_move rfl) ?_
              refine wl_wanted_det rfl rfl rfl rfl rfl rfl rfl (op_move rfl) ?_
              refine wl_wanted_det rfl rfl rfl rfl rfl rfl rfl (op_gtr rfl rfl) ?_
              refine wl_det rfl rfl rfl (op_pick_t rfl rfl) ?_
              refine wl_det rfl rfl rfl (op_move rfl) ?_
              refine wl_gsplit (t := 83) rfl (fun hg83 => ?_) (fun hg83 => ?_)
              · -- 83 is True
                refine wl_unwanted rfl rfl rfl rfl rfl rfl rfl rfl ?_
                refine wl_unwanted rfl rfl rfl rfl rfl rfl rfl rfl ?_
                refine wl_unwantedU rfl rfl rfl rfl rfl rfl rfl ?_
                refine wl_unwantedU rfl rfl rfl rfl rfl rfl rfl ?_
                refine wl_unwanted rfl rfl rfl rfl rfl rfl rfl rfl ?_
                refine wl_det rfl rfl rfl (op_pick_t rfl rfl) ?_
                refine wl_nil ?_
                refine st_tn ?_
                refine w_cond_t (rfl) ?_
                refine w_seq ?_
                refine w_region ?_
                refine wl_det rfl rfl rfl (op_assign rfl) ?_
                refine wl_det rfl rfl rfl (op_assign rfl) ?_
                refine wl_det rfl rfl rfl (op_assign rfl) ?_
                refine wl_nil ?_
                refine st_tn ?_
                refine w_ret ?_
                refine st_tr ?_
                refine st_ret (vs := [_, _, _]) [] Try.results82 ⟨rfl, ⟨rfl, ⟨rfl, trivial⟩⟩⟩ rfl ?_
                refine ⟨_, rfl, ?_⟩
                rw [hnum, if_neg (by omega), if_neg (by omega), if_neg hhd, if_pos (by rw [hov]; omega)]; exact ⟨rfl, rfl⟩
              · -- 83 is False
                refine wl_wanted_det rfl rfl rfl rfl rfl rfl rfl (op_move rfl) ?_
                refine wl_wanted_det rfl rfl rfl rfl rfl rfl rfl (op_move rfl) ?_
                refine wl_unwanted rfl rfl rfl rfl rfl rfl rfl rfl ?_
                refine wl_unwanted rfl rfl rfl rfl rfl rfl rfl rfl ?_
                refine wl_wanted_det rfl rfl rfl rfl rfl rfl rfl (op_pick_f rfl rfl) ?_
                refine wl_det rfl rfl rfl (op_pick_f rfl rfl) ?_
                refine wl_nil ?_
                refine st_tn ?_
                refine w_cond_f (rfl) ?_
                refine w_skip ?_
                refine st_tn ?_
                refine w_seq ?_
                refine w_seq ?_
                refine w_region ?_
                refine wl_det rfl rfl rfl (op_move rfl) ?_
                refine wl_nil ?_
                refine st_tn ?_
                refine w_cond_f (rfl) ?_
                refine w_skip ?_
                refine st_tn ?_
                refine w_seq ?_
                refine w_region ?_
                refine wl_det rfl rfl rfl (op_move rfl) ?_
                refine wl_det rfl rfl rfl (op_convI64 rfl (by rw [Try.underlying116]; rfl) Try.underlying3 (by omega)) ?_
                refine wl_det rfl rfl rfl (op_move rfl) ?_
                refine wl_det rfl rfl rfl (op_assign rfl) ?_
                refine wl_det rfl rfl rfl (op_assign rfl) ?_
                refine wl_det rfl rfl rfl (op_assign rfl) ?_
                refine wl_nil ?_
                refine st_tn ?_
                refine w_ret ?_
                refine st_ret (vs := [_, _, _]) [] Try.results82 ⟨rfl, ⟨rfl, ⟨rfl, trivial⟩⟩⟩ rfl ?_
                refine ⟨_, rfl, ?_⟩
                rw [hnum, if_neg (by omega), if_neg (by omega), if_neg hhd, if_neg (by rw [hov]; omega)]; simp only [hneg, Bool.false_eq_true, if_false]; exact ⟨rfl, trivial⟩

set_option maxHeartbeats 1000000 in
set_option maxRecDepth 100000 in
theorem xrd_any {σ : World} {F : List Res} {b : Nat} {s : RdM.Bs} (r : Rd) (hs : s.length ≤ 1099511627776) :
    FnT Try.prog σ F 68 [.pointer (some ⟨b, 0, none⟩)] [(600, cel b (cellR s r) 90)] (fun u ρ => u = .int .i64 (rdN s r).1 ∧ ρ = [(600, cel b (cellR s (rdN s r).2) 90)]) := by
  refine fn_of 30 Try.func68 rfl Try.ntmps68 rfl ?_
  refine w_seq ?_
  refine w_region ?_
  refine wl_det rfl rfl rfl (op_assign rfl) ?_
  refine wl_nil ?_
  refine st_tn ?_
  refine w_seq ?_
  refine w_region ?_
  refine wl_det rfl rfl rfl (op_move rfl) ?_
  refine wl_det rfl rfl rfl (op_nilCheck rfl) ?_
  refine wl_det rfl rfl rfl (op_loadA rfl tA90rf (Ent.lab (l := 600) rfl (says_cel 0)) (Nat.le_of_ble_eq_true rfl)) ?_
  refine wl_det rfl rfl rfl (op_fn Try.func82 rfl rfl rfl (xnum_any (at_ := r.at_) (e := r.e) hs)) ?_
  refine wl_det rfl rfl rfl (op_move rfl) ?_
  refine wl_det rfl rfl rfl (op_extract rfl rfl) ?_
  refine wl_det rfl rfl rfl (op_extract rfl rfl) ?_
  refine wl_det rfl rfl rfl (op_extract rfl rfl) ?_
  refine wl_det rfl rfl rfl (op_assign rfl) ?_
  refine wl_det rfl rfl rfl (op_assign rfl) ?_
  refine wl_det rfl rfl rfl (op_assign rfl) ?_
  refine wl_nil ?_
  refine st_tn ?_
  refine w_seq ?_
  refine w_seq ?_
  refine w_region ?_
  refine wl_det rfl rfl rfl (op_move rfl) ?_
  refine wl_det rfl rfl rfl (op_nilCheck rfl) ?_
  refine wl_det rfl rfl rfl (op_fieldAddr (off := 2) rfl tF90_2rf) ?_
  refine wl_det rfl rfl rfl (op_load1 rfl tO27rf (Ent.lab (l := 600) rfl (says_cel 2))) ?_
  refine wl_det rfl rfl rfl (op_neq rfl rfl) ?_
  refine wl_nil ?_
  refine st_tn ?_
  refine w_cond_d rfl (fun hc18 => ?_) (fun hc18 => ?_)
  · -- c18.t
    refine w_seq ?_
    refine w_region ?_
    refine wl_det rfl rfl rfl (op_assign rfl) ?_
    refine wl_nil ?_
    refine st_tn ?_
    refine w_ret ?_
    refine st_tr ?_
    refine st_ret (vs := [_]) [600] Try.results68 ⟨rfl, trivial⟩ rfl ?_
    refine ⟨[(600, _)], rfl, ?_⟩
    have hr : rdN s r = (0, r) := rdN_err hc18
    rw [hr]; exact ⟨rfl, rfl⟩
  · -- c18.f
    have he : r.e = 0 := Classical.not_not.1 hc18
    refine w_skip ?_
    refine st_tn ?_
    refine w_seq ?_
    refine w_region ?_
    refine wl_det rfl rfl rfl (op_move rfl) ?_
    refine wl_det rfl rfl rfl (op_move rfl) ?_
    refine wl_det rfl rfl rfl (op_nilCheck rfl) ?_
    refine wl_det rfl rfl rfl (op_fieldAddr (off := 2) rfl tF90_2rf) ?_
    refine wl_op0 [600] rfl rfl rfl (op_store rfl rfl tZ27rf (by rfl) (by rfl) (by exact Nat.le_of_ble_eq_true rfl)) ?_
    rintro _ _ ⟨rfl, rfl⟩
    refine wl_nil ?_
    refine st_tn ?_
    refine w_seq ?_
    refine w_seq ?_
    refine w_region ?_
    refine wl_det rfl rfl rfl (op_move rfl) ?_
    refine wl_det rfl rfl rfl (op_neq rfl rfl) ?_
    refine wl_nil ?_
    refine st_tn ?_
    refine w_cond_d rfl (fun hc24 => ?_) (fun hc24 => ?_)
    · -- c24.t
      refine w_seq ?_
      refine w_region ?_
      refine wl_det rfl rfl rfl (op_assign rfl) ?_
      refine wl_nil ?_
      refine st_tn ?_
      refine w_ret ?_
      refine st_tr ?_
      refine st_ret (vs := [_]) [600] Try.results68 ⟨rfl, trivial⟩ rfl ?_
      refine ⟨[(600, _)], rfl, ?_⟩
      have hr : rdN s r = (0, ⟨r.at_, (num s r.at_).2.2⟩) := by unfold rdN; rw [if_neg hc18, if_pos hc24]
      rw [hr]; exact ⟨rfl, rfl⟩
    · -- c24.f
      refine w_skip ?_
      refine st_tn ?_
      refine w_seq ?_
      refine w_region ?_
      refine wl_det rfl rfl rfl (op_move rfl) ?_
      refine wl_det rfl rfl rfl (op_move rfl) ?_
      refine wl_det rfl rfl rfl (op_nilCheck rfl) ?_
      refine wl_det rfl rfl rfl (op_fieldAddr (off := 1) rfl tF90_1rf) ?_
      refine wl_op0 [600] rfl rfl rfl (op_store rfl rfl tZ3rf (by rfl) (by rfl) (by exact Nat.le_of_ble_eq_true rfl)) ?_
      rintro _ _ ⟨rfl, rfl⟩
      refine wl_nil ?_
      refine st_tn ?_
      refine w_seq ?_
      refine w_region ?_
      refine wl_det rfl rfl rfl (op_move rfl) ?_
      refine wl_det rfl rfl rfl (op_assign rfl) ?_
      refine wl_nil ?_
      refine st_tn ?_
      refine w_ret ?_
      refine st_ret (vs := [_]) [600] Try.results68 ⟨rfl, trivial⟩ rfl ?_
      refine ⟨[(600, _)], rfl, ?_⟩
      have h0 : (num s r.at_).2.2 = 0 := Classical.not_not.1 hc24
      have hr : rdN s r = ((num s r.at_).1, ⟨(num s r.at_).2.1, (num s r.at_).2.2⟩) := by unfold rdN; rw [if_neg hc18, if_neg hc24, h0]
      rw [hr]; exact ⟨rfl, rfl⟩

theorem rdC_err {s : RdM.Bs} {most : Int} {r : Rd} (h : (rdN s r).2.e ≠ 0) : rdC s most r = (0, (rdN s r).2) := by
  unfold rdN at h ⊢; unfold rdC
  by_cases h1 : r.e ≠ 0
  · rw [if_pos h1, if_pos h1]
  · rw [if_neg h1] at h ⊢
    rw [if_neg h1]
    by_cases h2 : (num s r.at_).2.2 ≠ 0
    · have hz : szE s r.at_ most 6 = (num s r.at_).2.2 := by unfold szE; rw [if_pos h2]
      rw [if_pos h2, hz, if_pos h2]
    · rw [if_neg h2] at h; exact absurd rfl h
theorem rdC_of {s : RdM.Bs} {most : Int} {r : Rd} (h : (rdN s r).2.e = 0) : rdC s most r = if (rdN s r).1 < 0 then (0, ⟨r.at_, 3⟩) else if (rdN s r).1 > most then (0, ⟨r.at_, 6⟩) else if (s.length : Int) - (rdN s r).2.at_ < (rdN s r).1 then (0, ⟨r.at_, 4⟩) else ((rdN s r).1, (rdN s r).2) := by
  obtain ⟨he, hn⟩ := rdN_some h
  have hnn : (num s r.at_).2.2 = 0 := by rw [hn]
  have hz : szE s r.at_ most 6 = if (rdN s r).1 < 0 then 3 else if (rdN s r).1 > most then 6 else if (s.length : Int) - (rdN s r).2.at_ < (rdN s r).1 then 4 else 0 := by
    unfold szE; rw [if_neg (fun hh => hh hnn), hn]
  unfold rdC
  rw [if_neg (fun hh => hh he), hz, hn]
  split
  · simp
  · split
    · simp
    · split
      · simp
      · simp only [ne_eq, not_true, if_false]
        rw [← h]
set_option maxHeartbeats 1000000 in
set_option maxRecDepth 100000 in
theorem xsz_any {σ : World} {F : List Res} {b : Nat} {s : RdM.Bs} (most : Int) (r : Rd) (hs : s.length ≤ 1099511627776) :
    FnT Try.prog σ F 81 [.pointer (some ⟨b, 0, none⟩), .int .i64 most, .int .i64 6] [(600, cel b (cellR s r) 90)] (fun u ρ => u = .int .i64 (rdC s most r).1 ∧ ρ = [(600, cel b (cellR s (rdC s most r).2) 90)]) := by
  refine fn_of 57 Try.func81 rfl Try.ntmps81 rfl ?_
  refine w_seq ?_
  refine w_region ?_
  refine wl_det rfl rfl rfl (op_assign rfl) ?_
  refine wl_nil ?_
  refine st_tn ?_
  refine w_seq ?_
  refine w_region ?_
  refine wl_det rfl rfl rfl (op_move rfl) ?_
  refine wl_det rfl rfl rfl (op_nilCheck rfl) ?_
  refine wl_det rfl rfl rfl (op_fieldAddr (off := 1) rfl tF90_1rf) ?_
  refine wl_det rfl rfl rfl (op_load1 rfl tO3rf (Ent.lab (l := 600) rfl (says_cel 1))) ?_
  refine wl_det rfl rfl rfl (op_assign rfl) ?_
  refine wl_nil ?_
  refine st_tn ?_
  refine w_seq ?_
  refine w_region ?_
  refine wl_det rfl rfl rfl (op_move rfl) ?_
  refine wl_op [600] rfl rfl rfl rfl (op_fn Try.func68 rfl rfl rfl (xrd_any r hs)) ?_
  rintro _ _ ⟨rfl, rfl⟩
  refine wl_det rfl rfl rfl (op_assign rfl) ?_
  refine wl_nil ?_
  refine st_tn ?_
  refine w_seq ?_
  refine w_seq ?_
  refine w_region ?_
  refine wl_det rfl rfl rfl (op_move rfl) ?_
  refine wl_det rfl rfl rfl (op_nilCheck rfl) ?_
  refine wl_det rfl rfl rfl (op_fieldAddr (off := 2) rfl tF90_2rf) ?_
  refine wl_det rfl rfl rfl (op_load1 rfl tO27rf (Ent.lab (l := 600) rfl (says_cel 2))) ?_
  refine wl_det rfl rfl rfl (op_neq rfl rfl) ?_
  refine wl_nil ?_
  refine st_tn ?_
  refine w_cond_d rfl (fun hc19 => ?_) (fun hc19 => ?_)
  · -- c19.t
    refine w_seq ?_
    refine w_region ?_
    refine wl_det rfl rfl rfl (op_assign rfl) ?_
    refine wl_nil ?_
    refine st_tn ?_
    refine w_ret ?_
    refine st_tr ?_
    refine st_ret (vs := [_]) [600] Try.results81 ⟨rfl, trivial⟩ rfl ?_
    refine ⟨[(600, _)], rfl, ?_⟩
    rw [rdC_err hc19]; exact ⟨rfl, rfl⟩
  · -- c19.f
    have h0 : (rdN s r).2.e = 0 := Classical.not_not.1 hc19
    have hof := rdC_of (most := most) h0
    obtain ⟨he, hn⟩ := rdN_some h0
    have hbd := (num_bd s r.at_).1
    rw [hn] at hbd
    dsimp only at hbd
    refine w_skip ?_
    refine st_tn ?_
    refine w_seq ?_
    refine w_seq ?_
    refine w_region ?_
    refine wl_det rfl rfl rfl (op_move rfl) ?_
    refine wl_det rfl rfl rfl (op_lss rfl rfl) ?_
    refine wl_nil ?_
    refine st_tn ?_
    refine w_cond_d rfl (fun hc21 => ?_) (fun hc21 => ?_)
    · -- c21.t
      rw [if_pos hc21] at hof
      refine w_region ?_
      refine wl_det rfl rfl rfl (op_move rfl) ?_
      refine wl_det rfl rfl rfl (op_nilCheck rfl) ?_
      refine wl_det rfl rfl rfl (op_fieldAddr (off := 2) rfl tF90_2rf) ?_
      refine wl_op0 [600] rfl rfl rfl (op_store rfl rfl tZ27rf (by rfl) (by rfl) (by exact Nat.le_of_ble_eq_true rfl)) ?_
      rintro _ _ ⟨rfl, rfl⟩
      refine wl_nil ?_
      refine st_tn ?_
      refine w_seq ?_
      refine w_seq ?_
      refine w_region ?_
      refine wl_det rfl rfl rfl (op_move rfl) ?_
      refine wl_det rfl rfl rfl (op_nilCheck rfl) ?_
      refine wl_det rfl rfl rfl (op_fieldAddr (off := 2) rfl tF90_2rf) ?_
      refine wl_det rfl rfl rfl (op_load1 rfl tO27rf (Ent.lab (l := 600) rfl (says_cel 2))) ?_
      refine wl_det rfl rfl rfl (op_val (v' := .bool true) (by simp) (op_neq rfl rfl)) ?_
      refine wl_nil ?_
      refine st_tn ?_
      refine w_cond_t (rfl) ?_
      refine w_seq ?_
      refine w_region ?_
      refine wl_det rfl rfl rfl (op_move rfl) ?_
      refine wl_det rfl rfl rfl (op_move rfl) ?_
      refine wl_det rfl rfl rfl (op_nilCheck rfl) ?_
      refine wl_det rfl rfl rfl (op_fieldAddr (off := 1) rfl tF90_1rf) ?_
      refine wl_op0 [600] rfl rfl rfl (op_store rfl rfl tZ3rf (by rfl) (by rfl) (by exact Nat.le_of_ble_eq_true rfl)) ?_
      rintro _ _ ⟨rfl, rfl⟩
      refine wl_nil ?_
      refine st_tn ?_
      refine w_seq ?_
      refine w_region ?_
      refine wl_det rfl rfl rfl (op_assign rfl) ?_
      refine wl_nil ?_
      refine st_tn ?_
      refine w_ret ?_
      refine st_tr ?_
      refine st_ret (vs := [_]) [600] Try.results81 ⟨rfl, trivial⟩ rfl ?_
      refine ⟨[(600, _)], rfl, ?_⟩
      rw [hof]; exact ⟨rfl, rfl⟩
    · -- c21.f
      rw [if_neg hc21] at hof
      refine w_seq ?_
      refine w_region ?_
      refine wl_det rfl rfl rfl (op_move rfl) ?_
      refine wl_det rfl rfl rfl (op_move rfl) ?_
      refine wl_det rfl rfl rfl (op_gtr rfl rfl) ?_
      refine wl_nil ?_
      refine st_tn ?_
      refine w_cond_d rfl (fun hc27 => ?_) (fun hc27 => ?_)
      · -- c27.t
        rw [if_pos hc27] at hof
        refine w_region ?_
        refine wl_det rfl rfl rfl (op_move rfl) ?_
        refine wl_det rfl rfl rfl (op_move rfl) ?_
        refine wl_det rfl rfl rfl (op_nilCheck rfl) ?_
        refine wl_det rfl rfl rfl (op_fieldAddr (off := 2) rfl tF90_2rf) ?_
        refine wl_op0 [600] rfl rfl rfl (op_store rfl rfl tZ27rf (by rfl) (by rfl) (by exact Nat.le_of_ble_eq_true rfl)) ?_
        rintro _ _ ⟨rfl, rfl⟩
        refine wl_nil ?_
        refine st_tn ?_
        refine w_seq ?_
        refine w_seq ?_
        refine w_region ?_
        refine wl_det rfl rfl rfl (op_move rfl) ?_
        refine wl_det rfl rfl rfl (op_nilCheck rfl) ?_
        refine wl_det rfl rfl rfl (op_fieldAddr (off := 2) rfl tF90_2rf) ?_
        refine wl_det rfl rfl rfl (op_load1 rfl tO27rf (Ent.lab (l := 600) rfl (says_cel 2))) ?_
        refine wl_det rfl rfl rfl (op_val (v' := .bool true) (by simp) (op_neq rfl rfl)) ?_
        refine wl_nil ?_
        refine st_tn ?_
        refine w_cond_t (rfl) ?_
        refine w_seq ?_
        refine w_region ?_
        refine wl_det rfl rfl rfl (op_move rfl) ?_
        refine wl_det rfl rfl rfl (op_move rfl) ?_
        refine wl_det rfl rfl rfl (op_nilCheck rfl) ?_
        refine wl_det rfl rfl rfl (op_fieldAddr (off := 1) rfl tF90_1rf) ?_
        refine wl_op0 [600] rfl rfl rfl (op_store rfl rfl tZ3rf (by rfl) (by rfl) (by exact Nat.le_of_ble_eq_true rfl)) ?_
        rintro _ _ ⟨rfl, rfl⟩
        refine wl_nil ?_
        refine st_tn ?_
        refine w_seq ?_
        refine w_region ?_
        refine wl_det rfl rfl rfl (op_assign rfl) ?_
        refine wl_nil ?_
        refine st_tn ?_
        refine w_ret ?_
        refine st_tr ?_
        refine st_ret (vs := [_]) [600] Try.results81 ⟨rfl, trivial⟩ rfl ?_
        refine ⟨[(600, _)], rfl, ?_⟩
        rw [hof]; exact ⟨rfl, rfl⟩
      · -- c27.f
        rw [if_neg hc27] at hof
        refine w_seq ?_
        refine w_drawW (fun β => [⟨32, [], [], [], noW (_), false, [], []⟩, ⟨33, [], [], [], noW (_), false, [], []⟩, ⟨34, [1], [], [], noW (_), false, [], []⟩, ⟨35, [2], [], [], noW (_), false, [], []⟩, ⟨36, [3], [], [], noW (_), false, [], []⟩, ⟨37, [4], [], [], noW (_), false, [], []⟩, ⟨38, [], [], [], noW (_), false, [], []⟩, ⟨39, [6], [], [], noW (_), false, [], []⟩, ⟨40, [7], [], [], noW (_), false, [], []⟩, ⟨41, [8], [], [], noW (_), false, [], []⟩, ⟨42, [5, 9], [], [], noW (_), false, [], []⟩]) [] [8, 0] [⟨32, [], [], false, [], []⟩, ⟨33, [], [], false, [], []⟩, ⟨34, [1], [], false, [], []⟩, ⟨35, [2], [], false, [], []⟩, ⟨36, [3], [], false, [], []⟩, ⟨37, [4], [], false, [], []⟩, ⟨38, [], [], false, [], []⟩, ⟨39, [6], [], false, [], []⟩, ⟨40, [7], [], false, [], []⟩, ⟨41, [8], [], false, [], []⟩, ⟨42, [5, 9], [], false, [], []⟩] [[], [], [], [], [], [], [], [], [], [], []] [[], [], [], [], [], [], [], [], [], [], []] tMixrf (fun _ => by rfl) (fun _ => by rfl) (by kernel_rfl) (by kernel_rfl) (by rfl) (by rfl)
            (fun β => ⟨.p rfl (by intro X; exact op_move rfl),
            ⟨.p rfl (by intro X; exact op_move rfl),
            ⟨.p rfl (by intro X; rintro _ _ ⟨rfl, rfl⟩; exact op_nilCheck rfl),
            ⟨.p rfl (by intro X; rintro _ _ ⟨rfl, rfl⟩; exact op_fieldAddr (off := 0) rfl tF90_0rf),
            ⟨.p rfl (by intro X; rintro _ _ ⟨rfl, rfl⟩; exact op_load1 rfl tO9rf (Ent.lab (l := 600) rfl (says_cel 0))),
            ⟨.p rfl (by intro X; rintro _ _ ⟨rfl, rfl⟩; exact op_lenBs rfl Try.underlying9),
            ⟨.p rfl (by intro X; exact op_move rfl),
            ⟨.p rfl (by intro X; rintro _ _ ⟨rfl, rfl⟩; exact op_nilCheck rfl),
            ⟨.p rfl (by intro X; rintro _ _ ⟨rfl, rfl⟩; exact op_fieldAddr (off := 1) rfl tF90_1rf),
            ⟨.p rfl (by intro X; rintro _ _ ⟨rfl, rfl⟩; exact op_load1 rfl tO3rf (Ent.lab (l := 600) rfl (says_cel 1))),
            ⟨.p rfl (by intro X; rintro _ _ ⟨rfl, rfl⟩ _ _ ⟨rfl, rfl⟩; exact op_sub' rfl rfl (by omega)),
            trivial⟩⟩⟩⟩⟩⟩⟩⟩⟩⟩⟩)
            (fun β β' => ⟨fun _ => by rfl, ⟨fun _ => by rfl, ⟨fun _ => by rfl, ⟨fun _ => by rfl, ⟨fun _ => by rfl, ⟨fun _ => by rfl, ⟨fun _ => by rfl, ⟨fun _ => by rfl, ⟨fun _ => by rfl, ⟨fun _ => by rfl, ⟨fun _ => by rfl, trivial⟩⟩⟩⟩⟩⟩⟩⟩⟩⟩⟩) ?_
        intro β
        rintro _ _ ⟨rfl, rfl⟩ _ _ ⟨rfl, rfl⟩ _ _ ⟨rfl, rfl⟩ _ _ ⟨rfl, rfl⟩ _ _ ⟨rfl, rfl⟩ _ _ ⟨rfl, rfl⟩ _ _ ⟨rfl, rfl⟩ _ _ ⟨rfl, rfl⟩ _ _ ⟨rfl, rfl⟩ _ _ ⟨rfl, rfl⟩ _ _ ⟨rfl, rfl⟩
        refine wl_norm (e' := [(0, _), (7, _), (8, _), (32, _), (42, _)]) (.cons rfl (.cons rfl (.cons rfl (.cons rfl (.cons rfl (.nil _)))))) (by dsimp only [cond_false, cond_true, List.nil_append, List.cons_append]) ?_
        refine wl_det rfl rfl rfl (op_gtr rfl rfl) ?_
        refine wl_nil ?_
        refine st_tn ?_
        refine w_cond_d rfl (fun hc43 => ?_) (fun hc43 => ?_)
        · -- c43.t
          rw [if_pos (by omega)] at hof
          refine w_region ?_
          refine wl_det rfl rfl rfl (op_move rfl) ?_
          refine wl_det rfl rfl rfl (op_nilCheck rfl) ?_
          refine wl_det rfl rfl rfl (op_fieldAddr (off := 2) rfl tF90_2rf) ?_
          refine wl_op0 [600] rfl rfl rfl (op_store rfl rfl tZ27rf (by rfl) (by rfl) (by exact Nat.le_of_ble_eq_true rfl)) ?_
          rintro _ _ ⟨rfl, rfl⟩
          refine wl_nil ?_
          refine st_tn ?_
          refine w_seq ?_
          refine w_seq ?_
          refine w_region ?_
          refine wl_det rfl rfl rfl (op_move rfl) ?_
          refine wl_det rfl rfl rfl (op_nilCheck rfl) ?_
          refine wl_det rfl rfl rfl (op_fieldAddr (off := 2) rfl tF90_2rf) ?_
          refine wl_det rfl rfl rfl (op_load1 rfl tO27rf (Ent.lab (l := 600) rfl (says_cel 2))) ?_
          refine wl_det rfl rfl rfl (op_val (v' := .bool true) (by simp) (op_neq rfl rfl)) ?_
          refine wl_nil ?_
          refine st_tn ?_
          refine w_cond_t (rfl) ?_
          refine w_seq ?_
          refine w_region ?_
          refine wl_det rfl rfl rfl (op_move rfl) ?_
          refine wl_det rfl rfl rfl (op_move rfl) ?_
          refine wl_det rfl rfl rfl (op_nilCheck rfl) ?_
          refine wl_det rfl rfl rfl (op_fieldAddr (off := 1) rfl tF90_1rf) ?_
          refine wl_op0 [600] rfl rfl rfl (op_store rfl rfl tZ3rf (by rfl) (by rfl) (by exact Nat.le_of_ble_eq_true rfl)) ?_
          rintro _ _ ⟨rfl, rfl⟩
          refine wl_nil ?_
          refine st_tn ?_
          refine w_seq ?_
          refine w_region ?_
          refine wl_det rfl rfl rfl (op_assign rfl) ?_
          refine wl_nil ?_
          refine st_tn ?_
          refine w_ret ?_
          refine st_tr ?_
          refine st_ret (vs := [_]) [600] Try.results81 ⟨rfl, trivial⟩ rfl ?_
          refine ⟨[(600, _)], rfl, ?_⟩
          rw [hof]; exact ⟨rfl, rfl⟩
        · -- c43.f
          rw [if_neg (by omega)] at hof
          refine w_skip ?_
          refine st_tn ?_
          refine w_seq ?_
          refine w_seq ?_
          refine w_region ?_
          refine wl_det rfl rfl rfl (op_move rfl) ?_
          refine wl_det rfl rfl rfl (op_nilCheck rfl) ?_
          refine wl_det rfl rfl rfl (op_fieldAddr (off := 2) rfl tF90_2rf) ?_
          refine wl_det rfl rfl rfl (op_load1 rfl tO27rf (Ent.lab (l := 600) rfl (says_cel 2))) ?_
          refine wl_det rfl rfl rfl (op_val (v' := .bool false) (by simp; exact h0) (op_neq rfl rfl)) ?_
          refine wl_nil ?_
          refine st_tn ?_
          refine w_cond_f (rfl) ?_
          refine w_skip ?_
          refine st_tn ?_
          refine w_seq ?_
          refine w_region ?_
          refine wl_det rfl rfl rfl (op_move rfl) ?_
          refine wl_det rfl rfl rfl (op_assign rfl) ?_
          refine wl_nil ?_
          refine st_tn ?_
          refine w_ret ?_
          refine st_ret (vs := [_]) [600] Try.results81 ⟨rfl, trivial⟩ rfl ?_
          refine ⟨[(600, _)], rfl, ?_⟩
          rw [hof]; exact ⟨rfl, rfl⟩

set_option maxHeartbeats 400000 in
set_option maxRecDepth 100000 in
theorem xcnt_any {σ : World} {F : List Res} {b : Nat} {s : RdM.Bs} (most : Int) (r : Rd) (hs : s.length ≤ 1099511627776) :
    FnT Try.prog σ F 67 [.pointer (some ⟨b, 0, none⟩), .int .i64 most] [(600, cel b (cellR s r) 90)] (fun u ρ => u = .int .i64 (rdC s most r).1 ∧ ρ = [(600, cel b (cellR s (rdC s most r).2) 90)]) := by
  refine fn_of 8 Try.func67 rfl Try.ntmps67 rfl ?_
  refine w_seq ?_
  refine w_region ?_
  refine wl_det rfl rfl rfl (op_assign rfl) ?_
  refine wl_nil ?_
  refine st_tn ?_
  refine w_seq ?_
  refine w_region ?_
  refine wl_det rfl rfl rfl (op_move rfl) ?_
  refine wl_det rfl rfl rfl (op_move rfl) ?_
  refine wl_op [600] rfl rfl rfl rfl (op_fn Try.func81 rfl rfl rfl (xsz_any most r hs)) ?_
  rintro _ _ ⟨rfl, rfl⟩
  refine wl_det rfl rfl rfl (op_assign rfl) ?_
  refine wl_nil ?_
  refine st_tn ?_
  refine w_ret ?_
  refine st_ret (vs := [_]) [600] Try.results67 ⟨rfl, trivial⟩ rfl ?_
  refine ⟨[(600, _)], rfl, ?_⟩
  exact ⟨rfl, rfl⟩

set_option maxHeartbeats 400000 in
set_option maxRecDepth 100000 in
theorem xend_any {σ : World} {F : List Res} {b : Nat} {s : RdM.Bs} {r : Rd} (hb : Ent σ F (At ⟨b, 0, none⟩ (cellR s r))) :
    FnT Try.prog σ F 69 [.pointer (some ⟨b, 0, none⟩)] [] (fun u ρ => u = .int .i64 (endE s r) ∧ ρ = []) := by
  refine fn_of 24 Try.func69 rfl Try.ntmps69 rfl ?_
  refine w_seq ?_
  refine w_region ?_
  refine wl_det rfl rfl rfl (op_assign rfl) ?_
  refine wl_nil ?_
  refine st_tn ?_
  refine w_seq ?_
  refine w_seq ?_
  refine w_cutL [(19, .bool (decide (r.e = 0 ∧ r.at_ < s.length)))] [0] [] rfl (fun K' hK => ?_) ?_
  · -- cut r1
    by_cases h : r.e = 0
    · -- h True
      refine w_drawW (fun β => [⟨3, [], [], [], noW (_), false, [], []⟩, ⟨4, [0], [], [], noW (_), false, [], []⟩, ⟨5, [1], [], [], noW (_), false, [], []⟩, ⟨6, [2], [], [], noW (_), false, [], []⟩, ⟨7, [3], [], [], noW (_), false, [], []⟩, ⟨8, [4], [], [], noW (_), false, [], []⟩, ⟨9, [], [], [], noW (_), false, [], []⟩, ⟨10, [6], [], [], noW (_), false, [], []⟩, ⟨11, [7], [], [], noW (_), false, [], []⟩, ⟨12, [8], [], [], noW (_), false, [], []⟩, ⟨13, [], [], [], noW (_), false, [], []⟩, ⟨14, [10], [], [], noW (_), false, [], []⟩, ⟨15, [11], [], [], noW (_), false, [], []⟩, ⟨16, [12], [], [], noW (_), false, [], []⟩, ⟨17, [13], [], [], noW (_), false, [], []⟩, ⟨18, [9, 14], [], [], noW (_), false, [], []⟩, ⟨19, [5, 15], [], [], noW (_), false, [], []⟩]) [] [0] [⟨3, [], [], false, [], []⟩, ⟨4, [0], [], false, [], []⟩, ⟨5, [1], [], false, [], []⟩, ⟨6, [2], [], false, [], []⟩, ⟨7, [3], [], false, [], []⟩, ⟨8, [4], [], false, [], []⟩, ⟨9, [], [], false, [], []⟩, ⟨10, [6], [], false, [], []⟩, ⟨11, [7], [], false, [], []⟩, ⟨12, [8], [], false, [], []⟩, ⟨13, [], [], false, [], []⟩, ⟨14, [10], [], false, [], []⟩, ⟨15, [11], [], false, [], []⟩, ⟨16, [12], [], false, [], []⟩, ⟨17, [13], [], false, [], []⟩, ⟨18, [9, 14], [], false, [], []⟩, ⟨19, [5, 15], [], false, [], []⟩] [[], [], [], [], [], [], [], [], [], [], [], [], [], [], [], [], []] [[], [], [], [], [], [], [], [], [], [], [], [], [], [], [], [], []] tMixrf (fun _ => by rfl) (fun _ => by rfl) (by kernel_rfl) (by kernel_rfl) (by rfl) (by rfl)
          (fun β => ⟨.p rfl (by intro X; exact op_move rfl),
          ⟨.p rfl (by intro X; rintro _ _ ⟨rfl, rfl⟩; exact op_nilCheck rfl),
          ⟨.p rfl (by intro X; rintro _ _ ⟨rfl, rfl⟩; exact op_fieldAddr (off := 2) rfl tF90_2rf),
          ⟨.p rfl (by intro X; rintro _ _ ⟨rfl, rfl⟩; exact op_load1 rfl tO27rf (Ent.app (Ent.app (Ent.fld hb 2) X) _)),
          ⟨.p rfl (by intro X; rintro _ _ ⟨rfl, rfl⟩; exact op_eql rfl rfl),
          ⟨.p rfl (by intro X; rintro _ _ ⟨rfl, rfl⟩; exact op_move rfl),
          ⟨.w rfl rfl rfl (by rintro _ _ ⟨rfl, rfl⟩; first | rfl | (exact congrArg Value.bool (decide_eq_true (by omega))) | (exact congrArg Value.bool (decide_eq_false (by omega))) | (simp; done) | (simp; omega) | (simp [*]; done)) (by intro X; exact op_move rfl),
          ⟨.w rfl rfl rfl (by rintro _ _ ⟨rfl, rfl⟩; first | rfl | (exact congrArg Value.bool (decide_eq_true (by omega))) | (exact congrArg Value.bool (decide_eq_false (by omega))) | (simp; done) | (simp; omega) | (simp [*]; done)) (by intro X; rintro _ _ ⟨rfl, rfl⟩; exact op_nilCheck rfl),
          ⟨.w rfl rfl rfl (by rintro _ _ ⟨rfl, rfl⟩; first | rfl | (exact congrArg Value.bool (decide_eq_true (by omega))) | (exact congrArg Value.bool (decide_eq_false (by omega))) | (simp; done) | (simp; omega) | (simp [*]; done)) (by intro X; rintro _ _ ⟨rfl, rfl⟩; exact op_fieldAddr (off := 1) rfl tF90_1rf),
          ⟨.w rfl rfl rfl (by rintro _ _ ⟨rfl, rfl⟩; first | rfl | (exact congrArg Value.bool (decide_eq_true (by omega))) | (exact congrArg Value.bool (decide_eq_false (by omega))) | (simp; done) | (simp; omega) | (simp [*]; done)) (by intro X; rintro _ _ ⟨rfl, rfl⟩; exact op_load1 rfl tO3rf (Ent.app (Ent.app (Ent.fld hb 1) X) _)),
          ⟨.w rfl rfl rfl (by rintro _ _ ⟨rfl, rfl⟩; first | rfl | (exact congrArg Value.bool (decide_eq_true (by omega))) | (exact congrArg Value.bool (decide_eq_false (by omega))) | (simp; done) | (simp; omega) | (simp [*]; done)) (by intro X; exact op_move rfl),
          ⟨.w rfl rfl rfl (by rintro _ _ ⟨rfl, rfl⟩; first | rfl | (exact congrArg Value.bool (decide_eq_true (by omega))) | (exact congrArg Value.bool (decide_eq_false (by omega))) | (simp; done) | (simp; omega) | (simp [*]; done)) (by intro X; rintro _ _ ⟨rfl, rfl⟩; exact op_nilCheck rfl),
          ⟨.w rfl rfl rfl (by rintro _ _ ⟨rfl, rfl⟩; first | rfl | (exact congrArg Value.bool (decide_eq_true (by omega))) | (exact congrArg Value.bool (decide_eq_false (by omega))) | (simp; done) | (simp; omega) | (simp [*]; done)) (by intro X; rintro _ _ ⟨rfl, rfl⟩; exact op_fieldAddr (off := 0) rfl tF90_0rf),
          ⟨.w rfl rfl rfl (by rintro _ _ ⟨rfl, rfl⟩; first | rfl | (exact congrArg Value.bool (decide_eq_true (by omega))) | (exact congrArg Value.bool (decide_eq_false (by omega))) | (simp; done) | (simp; omega) | (simp [*]; done)) (by intro X; rintro _ _ ⟨rfl, rfl⟩; exact op_load1 rfl tO9rf (Ent.app (Ent.app (Ent.fld hb 0) X) _)),
          ⟨.w rfl rfl rfl (by rintro _ _ ⟨rfl, rfl⟩; first | rfl | (exact congrArg Value.bool (decide_eq_true (by omega))) | (exact congrArg Value.bool (decide_eq_false (by omega))) | (simp; done) | (simp; omega) | (simp [*]; done)) (by intro X; rintro _ _ ⟨rfl, rfl⟩; exact op_lenBs rfl Try.underlying9),
          ⟨.w rfl rfl rfl (by rintro _ _ ⟨rfl, rfl⟩; first | rfl | (exact congrArg Value.bool (decide_eq_true (by omega))) | (exact congrArg Value.bool (decide_eq_false (by omega))) | (simp; done) | (simp; omega) | (simp [*]; done)) (by intro X; rintro _ _ ⟨rfl, rfl⟩ _ _ ⟨rfl, rfl⟩; exact op_lss rfl rfl),
          ⟨.p rfl (by intro X; rintro _ _ ⟨rfl, rfl⟩ _ _ ⟨rfl, rfl⟩; exact op_pick_t (by first | rfl | (show some (Value.bool (decide _)) = _; rw [decide_eq_true (by omega)]) | (show some (Value.bool (decide _)) = _; rw [decide_eq_false (by omega)]) | (simp [ev, lk]; done) | (simp [ev, lk]; omega) | (simp [ev, lk, *]; done)) rfl),
          trivial⟩⟩⟩⟩⟩⟩⟩⟩⟩⟩⟩⟩⟩⟩⟩⟩⟩)
          (fun β β' => ⟨fun _ => by rfl, ⟨fun _ => by rfl, ⟨fun _ => by rfl, ⟨fun _ => by rfl, ⟨fun _ => by rfl, ⟨fun _ => by rfl, ⟨fun _ => by rfl, ⟨fun _ => by rfl, ⟨fun _ => by rfl, ⟨fun _ => by rfl, ⟨fun _ => by rfl, ⟨fun _ => by rfl, ⟨fun _ => by rfl, ⟨fun _ => by rfl, ⟨fun _ => by rfl, ⟨fun _ => by rfl, ⟨fun _ => by rfl, trivial⟩⟩⟩⟩⟩⟩⟩⟩⟩⟩⟩⟩⟩⟩⟩⟩⟩) ?_
      intro β
      rintro _ _ ⟨rfl, rfl⟩ _ _ ⟨rfl, rfl⟩ _ _ ⟨rfl, rfl⟩ _ _ ⟨rfl, rfl⟩ _ _ ⟨rfl, rfl⟩ _ _ ⟨rfl, rfl⟩ _ _ ⟨rfl, rfl⟩ _ _ ⟨rfl, rfl⟩ _ _ ⟨rfl, rfl⟩ _ _ ⟨rfl, rfl⟩ _ _ ⟨rfl, rfl⟩ _ _ ⟨rfl, rfl⟩ _ _ ⟨rfl, rfl⟩ _ _ ⟨rfl, rfl⟩ _ _ ⟨rfl, rfl⟩ _ _ ⟨rfl, rfl⟩ _ _ ⟨rfl, rfl⟩
      refine wl_norm (e' := [(0, _), (19, _)]) (.cons rfl (.cons rfl (.nil _))) (by dsimp only [cond_false, cond_true, List.nil_append, List.cons_append]) ?_
      refine wl_nil ?_
      refine st_tn ?_
      exact cut_done1 [] hK rfl (by simp [h]) (by rfl) rfl rfl
    · -- h False
      refine w_drawW (fun β => [⟨3, [], [], [], noW (_), false, [], []⟩, ⟨4, [0], [], [], noW (_), false, [], []⟩, ⟨5, [1], [], [], noW (_), false, [], []⟩, ⟨6, [2], [], [], noW (_), false, [], []⟩, ⟨7, [3], [], [], noW (_), false, [], []⟩, ⟨8, [4], [], [], noW (_), false, [], []⟩, ⟨9, [], [], [], noW (Det undef), false, [], []⟩, ⟨10, [], [], [], noW (Det undef), false, [], []⟩, ⟨11, [], [], [], noW (Det undef), false, [], []⟩, ⟨12, [], [], [], noW (Det undef), false, [], []⟩, ⟨13, [], [], [], noW (Det undef), false, [], []⟩, ⟨14, [], [], [], noW (Det undef), false, [], []⟩, ⟨15, [], [], [], noW (Det undef), false, [], []⟩, ⟨16, [], [], [], noW (Det undef), false, [], []⟩, ⟨17, [], [], [], noW (Det undef), false, [], []⟩, ⟨18, [], [], [], noW (Det undef), false, [], []⟩, ⟨19, [5, 15], [], [], noW (_), false, [], []⟩]) [] [0] [⟨3, [], [], false, [], []⟩, ⟨4, [0], [], false, [], []⟩, ⟨5, [1], [], false, [], []⟩, ⟨6, [2], [], false, [], []⟩, ⟨7, [3], [], false, [], []⟩, ⟨8, [4], [], false, [], []⟩, ⟨9, [], [], false, [], []⟩, ⟨10, [], [], false, [], []⟩, ⟨11, [], [], false, [], []⟩, ⟨12, [], [], false, [], []⟩, ⟨13, [], [], false, [], []⟩, ⟨14, [], [], false, [], []⟩, ⟨15, [], [], false, [], []⟩, ⟨16, [], [], false, [], []⟩, ⟨17, [], [], false, [], []⟩, ⟨18, [], [], false, [], []⟩, ⟨19, [5, 15], [], false, [], []⟩] [[], [], [], [], [], [], [], [], [], [], [], [], [], [], [], [], []] [[], [], [], [], [], [], [], [], [], [], [], [], [], [], [], [], []] tMixrf (fun _ => by rfl) (fun _ => by rfl) (by kernel_rfl) (by kernel_rfl) (by rfl) (by rfl)
          (fun β => ⟨.p rfl (by intro X; exact op_move rfl),
          ⟨.p rfl (by intro X; rintro _ _ ⟨rfl, rfl⟩; exact op_nilCheck rfl),
          ⟨.p rfl (by intro X; rintro _ _ ⟨rfl, rfl⟩; exact op_fieldAddr (off := 2) rfl tF90_2rf),
          ⟨.p rfl (by intro X; rintro _ _ ⟨rfl, rfl⟩; exact op_load1 rfl tO27rf (Ent.app (Ent.app (Ent.fld hb 2) X) _)),
          ⟨.p rfl (by intro X; rintro _ _ ⟨rfl, rfl⟩; exact op_eql rfl rfl),
          ⟨.p rfl (by intro X; rintro _ _ ⟨rfl, rfl⟩; exact op_move rfl),
          ⟨.u rfl rfl rfl (by rintro _ _ ⟨rfl, rfl⟩; exact congrArg (offB true) (by first | rfl | (exact congrArg Value.bool (decide_eq_true (by omega))) | (exact congrArg Value.bool (decide_eq_false (by omega))) | (simp; done) | (simp; omega) | (simp [*]; done) : _ = Value.bool false)) ⟨rfl, rfl⟩ rfl rfl,
          ⟨.u rfl rfl rfl (by rintro _ _ ⟨rfl, rfl⟩; exact congrArg (offB true) (by first | rfl | (exact congrArg Value.bool (decide_eq_true (by omega))) | (exact congrArg Value.bool (decide_eq_false (by omega))) | (simp; done) | (simp; omega) | (simp [*]; done) : _ = Value.bool false)) ⟨rfl, rfl⟩ rfl rfl,
          ⟨.u rfl rfl rfl (by rintro _ _ ⟨rfl, rfl⟩; exact congrArg (offB true) (by first | rfl | (exact congrArg Value.bool (decide_eq_true (by omega))) | (exact congrArg Value.bool (decide_eq_false (by omega))) | (simp; done) | (simp; omega) | (simp [*]; done) : _ = Value.bool false)) ⟨rfl, rfl⟩ rfl rfl,
          ⟨.u rfl rfl rfl (by rintro _ _ ⟨rfl, rfl⟩; exact congrArg (offB true) (by first | rfl | (exact congrArg Value.bool (decide_eq_true (by omega))) | (exact congrArg Value.bool (decide_eq_false (by omega))) | (simp; done) | (simp; omega) | (simp [*]; done) : _ = Value.bool false)) ⟨rfl, rfl⟩ rfl rfl,
          ⟨.u rfl rfl rfl (by rintro _ _ ⟨rfl, rfl⟩; exact congrArg (offB true) (by first | rfl | (exact congrArg Value.bool (decide_eq_true (by omega))) | (exact congrArg Value.bool (decide_eq_false (by omega))) | (simp; done) | (simp; omega) | (simp [*]; done) : _ = Value.bool false)) ⟨rfl, rfl⟩ rfl rfl,
          ⟨.u rfl rfl rfl (by rintro _ _ ⟨rfl, rfl⟩; exact congrArg (offB true) (by first | rfl | (exact congrArg Value.bool (decide_eq_true (by omega))) | (exact congrArg Value.bool (decide_eq_false (by omega))) | (simp; done) | (simp; omega) | (simp [*]; done) : _ = Value.bool false)) ⟨rfl, rfl⟩ rfl rfl,
          ⟨.u rfl rfl rfl (by rintro _ _ ⟨rfl, rfl⟩; exact congrArg (offB true) (by first | rfl | (exact congrArg Value.bool (decide_eq_true (by omega))) | (exact congrArg Value.bool (decide_eq_false (by omega))) | (simp; done) | (simp; omega) | (simp [*]; done) : _ = Value.bool false)) ⟨rfl, rfl⟩ rfl rfl,
          ⟨.u rfl rfl rfl (by rintro _ _ ⟨rfl, rfl⟩; exact congrArg (offB true) (by first | rfl | (exact congrArg Value.bool (decide_eq_true (by omega))) | (exact congrArg Value.bool (decide_eq_false (by omega))) | (simp; done) | (simp; omega) | (simp [*]; done) : _ = Value.bool false)) ⟨rfl, rfl⟩ rfl rfl,
          ⟨.u rfl rfl rfl (by rintro _ _ ⟨rfl, rfl⟩; exact congrArg (offB true) (by first | rfl | (exact congrArg Value.bool (decide_eq_true (by omega))) | (exact congrArg Value.bool (decide_eq_false (by omega))) | (simp; done) | (simp; omega) | (simp [*]; done) : _ = Value.bool false)) ⟨rfl, rfl⟩ rfl rfl,
          ⟨.u rfl rfl rfl (by rintro _ _ ⟨rfl, rfl⟩; exact congrArg (offB true) (by first | rfl | (exact congrArg Value.bool (decide_eq_true (by omega))) | (exact congrArg Value.bool (decide_eq_false (by omega))) | (simp; done) | (simp; omega) | (simp [*]; done) : _ = Value.bool false)) ⟨rfl, rfl⟩ rfl rfl,
          ⟨.p rfl (by intro X; rintro _ _ ⟨rfl, rfl⟩ _ _ ⟨rfl, rfl⟩; exact op_pick_f (by first | rfl | (show some (Value.bool (decide _)) = _; rw [decide_eq_true (by omega)]) | (show some (Value.bool (decide _)) = _; rw [decide_eq_false (by omega)]) | (simp [ev, lk]; done) | (simp [ev, lk]; omega) | (simp [ev, lk, *]; done)) rfl),
          trivial⟩⟩⟩⟩⟩⟩⟩⟩⟩⟩⟩⟩⟩⟩⟩⟩⟩)
          (fun β β' => ⟨fun _ => by rfl, ⟨fun _ => by rfl, ⟨fun _ => by rfl, ⟨fun _ => by rfl, ⟨fun _ => by rfl, ⟨fun _ => by rfl, ⟨fun _ => by rfl, ⟨fun _ => by rfl, ⟨fun _ => by rfl, ⟨fun _ => by rfl, ⟨fun _ => by rfl, ⟨fun _ => by rfl, ⟨fun _ => by rfl, ⟨fun _ => by rfl, ⟨fun _ => by rfl, ⟨fun _ => by rfl, ⟨fun _ => by rfl, trivial⟩⟩⟩⟩⟩⟩⟩⟩⟩⟩⟩⟩⟩⟩⟩⟩⟩) ?_
      intro β
      rintro _ _ ⟨rfl, rfl⟩ _ _ ⟨rfl, rfl⟩ _ _ ⟨rfl, rfl⟩ _ _ ⟨rfl, rfl⟩ _ _ ⟨rfl, rfl⟩ _ _ ⟨rfl, rfl⟩ _ _ ⟨rfl, rfl⟩ _ _ ⟨rfl, rfl⟩ _ _ ⟨rfl, rfl⟩ _ _ ⟨rfl, rfl⟩ _ _ ⟨rfl, rfl⟩ _ _ ⟨rfl, rfl⟩ _ _ ⟨rfl, rfl⟩ _ _ ⟨rfl, rfl⟩ _ _ ⟨rfl, rfl⟩ _ _ ⟨rfl, rfl⟩ _ _ ⟨rfl, rfl⟩
      refine wl_norm (e' := [(0, _), (19, _)]) (.cons rfl (.cons rfl (.nil _))) (by dsimp only [cond_false, cond_true, List.nil_append, List.cons_append]) ?_
      refine wl_nil ?_
      refine st_tn ?_
      exact cut_done1 [] hK rfl (by simp [h]) (by rfl) rfl rfl
  · -- behind r1
    show W _ _ _ _ _ [(19, _), (0, _)] [] _
    refine w_cond_d rfl (fun hc19 => ?_) (fun hc19 => ?_)
    · -- c19.t
      refine w_seq ?_
      refine w_region ?_
      refine wl_det rfl rfl rfl (op_assign rfl) ?_
      refine wl_nil ?_
      refine st_tn ?_
      refine w_ret ?_
      refine st_tr ?_
      refine st_ret (vs := [_]) [] Try.results69 ⟨rfl, trivial⟩ rfl ?_
      refine ⟨_, rfl, ?_⟩
      unfold endE; rw [if_neg (fun h => h hc19.1), if_pos hc19.2]; exact ⟨rfl, rfl⟩
    · -- c19.f
      refine w_skip ?_
      refine st_tn ?_
      refine w_seq ?_
      refine w_region ?_
      refine wl_det rfl rfl rfl (op_move rfl) ?_
      refine wl_det rfl rfl rfl (op_nilCheck rfl) ?_
      refine wl_det rfl rfl rfl (op_fieldAddr (off := 2) rfl tF90_2rf) ?_
      refine wl_det rfl rfl rfl (op_load1 rfl tO27rf (Ent.app (Ent.fld hb 2) _)) ?_
      refine wl_det rfl rfl rfl (op_assign rfl) ?_
      refine wl_nil ?_
      refine st_tn ?_
      refine w_ret ?_
      refine st_ret (vs := [_]) [] Try.results69 ⟨rfl, trivial⟩ rfl ?_
      refine ⟨_, rfl, ?_⟩
      have : endE s r = r.e := by
        unfold endE
        by_cases h : r.e ≠ 0
        · rw [if_pos h]
        · rw [if_neg h, if_neg (fun h2 => hc19 ⟨Classical.not_not.1 h, h2⟩)]; exact (Classical.not_not.1 h).symm
      rw [this]; exact ⟨rfl, rfl⟩

end Go.Proofs.Ytkknlfhncheflaa
namespace Go.Proofs.Ytkknlfhncheflaa
open Go Go.SL Go.RowKit Go.BitM
set_option linter.unusedVariables false
set_option linter.unusedSimpArgs false

theorem nb_be (x : Nat) : nb x = (RdM.be x).length := by
  induction x using Nat.strongRecOn with
  | _ x ih =>
    rcases Nat.eq_zero_or_pos x with h | h
    · subst h; rw [nb_zero, RdM.be_zero]; rfl
    · rw [nb_pos h, RdM.be_pos h, ih (x / 256) (by omega)]; simp
theorem byteAt_zero (x : Nat) : byteAt x 0 = UInt8.ofNat x := by
  unfold byteAt
  simp
theorem byteAt_div {x : Nat} {j : Nat} : byteAt ((x / 256 : Nat) : Int) j = byteAt x ((j : Int) + 1) := by
  unfold byteAt
  congr 2
  have h1 : (8 * (j : Int)).toNat = 8 * j := by omega
  have h2 : (8 * ((j : Int) + 1)).toNat = 8 + 8 * j := by omega
  rw [h1, h2, Int.pow_add]
  have : ((x / 256 : Nat) : Int) = (x : Int) / 2 ^ 8 := by omega
  rw [this, Int.ediv_ediv, if_neg (fun h => absurd h.1 (by decide)), Int.sub_zero]
theorem tops_be (x : Nat) : tops x (nb x) (nb x) = RdM.be x := by
  induction x using Nat.strongRecOn with
  | _ x ih =>
    rcases Nat.eq_zero_or_pos x with h | h
    · subst h; rw [nb_zero, RdM.be_zero]; rfl
    · have hi := ih (x / 256) (by omega)
      rw [RdM.be_pos h, ← hi, nb_pos h, tops_succ]
      congr 1
      · unfold tops
        apply List.map_congr_left
        intro i hi
        have hi := List.mem_range.1 hi
        obtain ⟨j, hj⟩ : ∃ j : Nat, ((nb (x / 256) : Nat) : Int) - 1 - i = j := ⟨nb (x / 256) - 1 - i, by omega⟩
        have hj2 : ((nb (x / 256) + 1 : Nat) : Int) - 1 - i = (j : Int) + 1 := by omega
        rw [hj, hj2, byteAt_div]
      · rw [show ((nb (x / 256) + 1 : Nat) : Int) - 1 - ((nb (x / 256) : Nat) : Int) = 0 by omega, byteAt_zero]
theorem encN_eq (x : Int) : encN x = RdM.encN x := by
  unfold encN RdM.encN
  rcases Int.le_total 0 x with h | h
  · obtain ⟨m, rfl⟩ := Int.eq_ofNat_of_zero_le h
    rw [Int.toNat_natCast, tops_be, nb_be]
    congr 1
  · have : x.toNat = 0 := by omega
    rw [this, nb_zero, RdM.be_zero]; rfl
/-- Where the decoding of a set is. -/
structure Dc where
  at_ : Int
  wrong : Bool
  out : List Run
  r : RdM.Rd
def badC (i : Nat) (at_ m z : Int) : Prop := m < 0 ∨ (0 < i ∧ m = 0) ∨ z < 1 ∨ m > 1048576 ∨ z > 1048576 - at_ - m
instance (i : Nat) (at_ m z : Int) : Decidable (badC i at_ m z) := inferInstanceAs (Decidable (m < 0 ∨ (0 < i ∧ m = 0) ∨ z < 1 ∨ m > 1048576 ∨ z > 1048576 - at_ - m))
/-- Reads one run. -/
def dstep (s : RdM.Bs) (i : Nat) (d : Dc) : Dc :=
  if (RdM.rdN s (RdM.rdN s d.r).2).2.e ≠ 0 then { d with r := (RdM.rdN s (RdM.rdN s d.r).2).2 }
  else if d.wrong = true ∨ badC i d.at_ (RdM.rdN s d.r).1 (RdM.rdN s (RdM.rdN s d.r).2).1 then { d with wrong := true, r := (RdM.rdN s (RdM.rdN s d.r).2).2 }
  else ⟨d.at_ + ((RdM.rdN s d.r).1 + (RdM.rdN s (RdM.rdN s d.r).2).1), false, d.out ++ [(d.at_ + (RdM.rdN s d.r).1, d.at_ + (RdM.rdN s d.r).1 + (RdM.rdN s (RdM.rdN s d.r).2).1 - 1)], (RdM.rdN s (RdM.rdN s d.r).2).2⟩
def dto (s : RdM.Bs) (r0 : RdM.Rd) : Nat → Dc
  | 0 => ⟨0, false, [], r0⟩
  | i + 1 => dstep s i (dto s r0 i)
theorem dstep_err {s : RdM.Bs} {i : Nat} {d : Dc} (h : d.r.e ≠ 0) : dstep s i d = d := by
  have h1 : RdM.rdN s d.r = (0, d.r) := RdM.rdN_err h
  unfold dstep; rw [h1, if_pos (by rw [h1]; exact h), h1]
theorem dto_err {s : RdM.Bs} {r0 : RdM.Rd} {i : Nat} (h : (dto s r0 i).r.e ≠ 0) : ∀ k, dto s r0 (i + k) = dto s r0 i
  | 0 => rfl
  | k + 1 => by
    have ih := dto_err h k
    show dstep s (i + k) (dto s r0 (i + k)) = _
    rw [ih]; exact dstep_err h
/-- What the decoding keeps. -/
structure DOk (s : RdM.Bs) (r0 : RdM.Rd) (i : Nat) (d : Dc) : Prop where
  lo : 0 ≤ d.at_
  hi : d.at_ ≤ 1048576
  len : d.out.length ≤ i
  wf : WF d.out
  inb : inB 0 1048575 d.out
  en : d.at_ = endOf 0 d.out
  bytes : r0.at_ ≤ s.length → r0.e = 0 → d.r.at_ ≤ s.length ∧ (d.r.e = 0 → d.wrong = false → d.out.length = i ∧ s.take d.r.at_ = s.take r0.at_ ++ encR 0 d.out)
theorem endOf_nil : endOf 0 ([] : List Run) = 0 := rfl
theorem dok_zero (s : RdM.Bs) (r0 : RdM.Rd) : DOk s r0 0 ⟨0, false, [], r0⟩ :=
  ⟨Int.le_refl _, by simp, Nat.le_refl _, ⟨by simp, List.Pairwise.nil⟩, fun r hr => by simp at hr, rfl, fun h1 h2 => ⟨h1, fun _ _ => ⟨rfl, by simp [encR]⟩⟩⟩
theorem dok_succ {s : RdM.Bs} {r0 : RdM.Rd} {i : Nat} {d : Dc} (h : DOk s r0 i d) : DOk s r0 (i + 1) (dstep s i d) := by
  obtain ⟨p, hp⟩ : ∃ p, p = RdM.rdN s d.r := ⟨_, rfl⟩
  obtain ⟨q, hq⟩ : ∃ q, q = RdM.rdN s p.2 := ⟨_, rfl⟩
  have hlen := h.len
  have hat : d.r.at_ ≤ s.length → q.2.at_ ≤ s.length := fun h1 => by rw [hq]; exact RdM.rdN_ok (by rw [hp]; exact RdM.rdN_ok h1)
  unfold dstep
  rw [← hp, ← hq]
  by_cases h1 : q.2.e ≠ 0
  · rw [if_pos h1]
    exact ⟨h.lo, h.hi, by show d.out.length ≤ _; omega, h.wf, h.inb, h.en, fun g1 g2 => ⟨hat (h.bytes g1 g2).1, fun g3 => absurd g3 h1⟩⟩
  · rw [if_neg h1]
    by_cases h2 : d.wrong = true ∨ badC i d.at_ p.1 q.1
    · rw [if_pos h2]
      exact ⟨h.lo, h.hi, by show d.out.length ≤ _; omega, h.wf, h.inb, h.en, fun g1 g2 => ⟨hat (h.bytes g1 g2).1, fun _ g3 => by simp at g3⟩⟩
    · rw [if_neg h2]
      have h1 : q.2.e = 0 := Classical.not_not.1 h1
      have hw : d.wrong = false := by
        cases hh : d.wrong with
        | false => rfl
        | true => exact absurd (.inl hh) h2
      have hb : ¬ badC i d.at_ p.1 q.1 := fun hh => h2 (.inr hh)
      unfold badC at hb
      have hlo := h.lo
      have hhi := h.hi
      obtain ⟨e1, n1⟩ := RdM.rdN_some (s := s) (r := p.2) (by rw [← hq]; exact h1)
      rw [← hq] at n1
      obtain ⟨e0, n0⟩ := RdM.rdN_some (s := s) (r := d.r) (by rw [← hp]; exact e1)
      rw [← hp] at n0
      have en := h.en
      have hnew : WF (d.out ++ [(d.at_ + p.1, d.at_ + p.1 + q.1 - 1)]) ∨ ¬ WF (d.out ++ [(d.at_ + p.1, d.at_ + p.1 + q.1 - 1)]) := Classical.em _
      refine ⟨by show 0 ≤ d.at_ + (p.1 + q.1); omega, by show d.at_ + (p.1 + q.1) ≤ 1048576; omega, by show (d.out ++ [_]).length ≤ _; simp; omega, ?_, ?_, ?_, fun g1 g2 => ⟨hat (h.bytes g1 g2).1, fun _ _ => ?_⟩⟩
      · refine WF.snoc_iff.2 ⟨h.wf, by show d.at_ + p.1 ≤ d.at_ + p.1 + q.1 - 1; omega, fun x hx => ?_⟩
        show x.2 + 1 < d.at_ + p.1
        have hne : d.out ≠ [] := fun hh => by rw [hh] at hx; simp at hx
        have hi0 : 0 < i := by have := List.length_pos_iff.2 hne; omega
        have hp0 : 0 < p.1 := by omega
        have hle : x.2 + 1 ≤ endOf 0 d.out := by
          rcases List.eq_nil_or_concat d.out with hn | ⟨l', y, hl'⟩
          · exact absurd hn hne
          · rw [List.concat_eq_append] at hl'
            rw [hl', endOf_snoc]
            rw [hl'] at hx
            have hwf := h.wf
            rw [hl'] at hwf
            have h3 := WF.snoc_iff.1 hwf
            rcases List.mem_append.1 hx with hx | hx
            · have := h3.2.2 x hx
              have := h3.2.1
              omega
            · rw [List.mem_singleton] at hx; subst hx; omega
        omega
      · intro x hx
        rcases List.mem_append.1 hx with hx | hx
        · exact h.inb x hx
        · rw [List.mem_singleton] at hx; subst hx
          show 0 ≤ d.at_ + p.1 ∧ d.at_ + p.1 ≤ d.at_ + p.1 + q.1 - 1 ∧ d.at_ + p.1 + q.1 - 1 ≤ 1048575
          omega
      · show d.at_ + (p.1 + q.1) = endOf 0 (d.out ++ [_])
        rw [endOf_snoc]; show _ = d.at_ + p.1 + q.1 - 1 + 1; omega
      · obtain ⟨_, h4⟩ := h.bytes g1 g2
        obtain ⟨h5, h6⟩ := h4 e0 hw
        refine ⟨by show (d.out ++ [_]).length = i + 1; simp; exact h5, ?_⟩
        show s.take q.2.at_ = _ ++ encR 0 (d.out ++ [_])
        rw [encR_snoc, (RdM.take_num n1 (by omega)).1, (RdM.take_num n0 (by omega)).1, h6, ← en, encN_eq, encN_eq]
        have a1 : d.at_ + p.1 - d.at_ = p.1 := by omega
        have a2 : d.at_ + p.1 + q.1 - 1 - (d.at_ + p.1) + 1 = q.1 := by omega
        rw [a1, a2]; simp
theorem dok (s : RdM.Bs) (r0 : RdM.Rd) : ∀ i, DOk s r0 i (dto s r0 i)
  | 0 => dok_zero s r0
  | i + 1 => dok_succ (dok s r0 i)
/-- The decoding of a set: its runs, and the error. -/
def decB (s : RdM.Bs) : List Run × Int :=
  if RdM.endE s (dto s (RdM.rdC s 1048576 ⟨0, 0⟩).2 (RdM.rdC s 1048576 ⟨0, 0⟩).1.toNat).r ≠ 0 then ([], RdM.endE s (dto s (RdM.rdC s 1048576 ⟨0, 0⟩).2 (RdM.rdC s 1048576 ⟨0, 0⟩).1.toNat).r)
  else if (dto s (RdM.rdC s 1048576 ⟨0, 0⟩).2 (RdM.rdC s 1048576 ⟨0, 0⟩).1.toNat).wrong = true then ([], 3)
  else ((dto s (RdM.rdC s 1048576 ⟨0, 0⟩).2 (RdM.rdC s 1048576 ⟨0, 0⟩).1.toNat).out, 0)
theorem decB_ok (s : RdM.Bs) : WF (decB s).1 ∧ inB 0 1048575 (decB s).1 := by
  unfold decB
  split
  · exact ⟨⟨by simp, List.Pairwise.nil⟩, fun r hr => by simp at hr⟩
  · split
    · exact ⟨⟨by simp, List.Pairwise.nil⟩, fun r hr => by simp at hr⟩
    · exact ⟨(dok _ _ _).wf, (dok _ _ _).inb⟩
/-- A set that is decoded has that form. -/
theorem decB_enc {s : RdM.Bs} (h : (decB s).2 = 0) : encBm (decB s).1 = s := by
  obtain ⟨c, hc⟩ : ∃ c, c = RdM.rdC s 1048576 ⟨0, 0⟩ := ⟨_, rfl⟩
  unfold decB at h ⊢
  rw [← hc] at h ⊢
  by_cases h1 : RdM.endE s (dto s c.2 c.1.toNat).r ≠ 0
  · rw [if_pos h1] at h; exact absurd h h1
  · rw [if_neg h1] at h ⊢
    by_cases h2 : (dto s c.2 c.1.toNat).wrong = true
    · rw [if_pos h2] at h; simp at h
    · rw [if_neg h2]
      have h2 : (dto s c.2 c.1.toNat).wrong = false := by simpa using h2
      have h1 := Classical.not_not.1 h1
      have he : (dto s c.2 c.1.toNat).r.e = 0 ∧ s.length ≤ (dto s c.2 c.1.toNat).r.at_ := by
        unfold RdM.endE at h1
        by_cases h3 : (dto s c.2 c.1.toNat).r.e ≠ 0
        · rw [if_pos h3] at h1; exact absurd h1 h3
        · rw [if_neg h3] at h1
          by_cases h4 : (dto s c.2 c.1.toNat).r.at_ < s.length
          · rw [if_pos h4] at h1; simp at h1
          · exact ⟨Classical.not_not.1 h3, by omega⟩
      have hc0 : c.2.e = 0 := by
        apply Classical.byContradiction
        intro hh
        have h5 := dto_err (s := s) (r0 := c.2) (i := 0) hh c.1.toNat
        rw [Nat.zero_add] at h5
        rw [h5] at he
        exact hh he.1
      obtain ⟨_, hn, h6, h7, h8⟩ := RdM.rdC_some (s := s) (most := 1048576) (r := ⟨0, 0⟩) (by rw [← hc]; exact hc0)
      rw [← hc] at hn h6 h7 h8
      have hb := (dok s c.2 c.1.toNat).bytes (by omega) hc0
      obtain ⟨h9, h10⟩ := hb.2 he.1 h2
      rw [List.take_of_length_le he.2, (RdM.take_num hn h6).1] at h10
      unfold encBm
      show encN ((dto s c.2 c.1.toNat).out.length : Int) ++ encR 0 (dto s c.2 c.1.toNat).out = s
      have h11 : ((dto s c.2 c.1.toNat).out.length : Int) = c.1 := by rw [h9]; omega
      rw [h11, encN_eq]
      exact (h10.trans (by simp)).symm
end Go.Proofs.Ytkknlfhncheflaa
namespace Go.Proofs.Ytkknlfhncheflaa
open Go Go.SL Go.RowKit Go.BitM
set_option linter.unusedVariables false
set_option linter.unusedSimpArgs false
theorem tA26dd : aggB Try.prog 26 1 = true := by kernel_rfl
theorem tB26dd : placesB Try.prog 26 = some ([(0, 1)], [Value.slice none 0 0]) := by kernel_rfl
theorem tB58dd : placesB Try.prog 58 = some ([(0, 1), (1, 1)], [Value.int .i64 0, Value.int .i64 0]) := by kernel_rfl
theorem tF26_0dd : fieldB Try.prog 26 0 0 = true := by kernel_rfl
theorem tL24_1dd : zerosB Try.prog 24 58 2 1 = some [Value.int .i64 0, Value.int .i64 0] := by kernel_rfl
theorem tN26dd : (Try.prog.info? 26).bind (·.zero) = some (Value.agg #[Value.slice none 0 0]) := by kernel_rfl
theorem tO24dd : oneB Try.prog 24 = true := by kernel_rfl
theorem tP24dd : appB Try.prog 24 58 2 16 = true := by kernel_rfl
theorem tZ24dd : (Try.prog.info? 24).map (·.size) = some 1 := by kernel_rfl
theorem tZ26dd : (Try.prog.info? 26).map (·.size) = some 1 := by kernel_rfl

theorem rnum_l {σ : World} {F : List Res} {b : Nat} {s : RdM.Bs} (lab : Nat) (r : RdM.Rd) (hs : s.length ≤ 1099511627776) :
      FnT Try.prog σ F 64 [.pointer (some ⟨b, 0, none⟩)] [(lab, cel b (cellR s r) 107)] (fun u ρ => u = .int .i64 (RdM.rdN s r).1 ∧ ρ = [(lab, cel b (cellR s (RdM.rdN s r).2) 107)]) :=
  fn_lab (rnum_any r hs) rfl fun u ρ ⟨h1, h2⟩ => ⟨_, ⟨h1, rfl⟩, by rw [h2]; rfl⟩
theorem rcnt_l {σ : World} {F : List Res} {b : Nat} {s : RdM.Bs} (lab : Nat) (most : Int) (r : RdM.Rd) (hs : s.length ≤ 1099511627776) :
      FnT Try.prog σ F 63 [.pointer (some ⟨b, 0, none⟩), .int .i64 most] [(lab, cel b (cellR s r) 107)] (fun u ρ => u = .int .i64 (RdM.rdC s most r).1 ∧ ρ = [(lab, cel b (cellR s (RdM.rdC s most r).2) 107)]) :=
  fn_lab (rcnt_any most r hs) rfl fun u ρ ⟨h1, h2⟩ => ⟨_, ⟨h1, rfl⟩, by rw [h2]; rfl⟩
def cnt0 (s : RdM.Bs) : Int × RdM.Rd := RdM.rdC s 1048576 ⟨0, 0⟩
def dcs (s : RdM.Bs) (i : Nat) : Dc := dto s (cnt0 s).2 i
theorem cnt0_bd (s : RdM.Bs) : 0 ≤ (cnt0 s).1 ∧ (cnt0 s).1 ≤ 1048576 := by
  by_cases h : (cnt0 s).2.e = 0
  · obtain ⟨_, _, h1, h2, _⟩ := RdM.rdC_some h
    exact ⟨h1, h2⟩
  · have : (cnt0 s).1 = 0 := by
      unfold cnt0 RdM.rdC at h ⊢
      split
      · rfl
      · rename_i h1; rw [if_neg h1] at h
        split
        · rfl
        · rename_i h2; rw [if_neg h2] at h; exact absurd rfl h
    omega
theorem decB_eq (s : RdM.Bs) {at_ : Int} {wr : Bool} {out : List Run} {r : RdM.Rd} (h : dcs s (cnt0 s).1.toNat = ⟨at_, wr, out, r⟩) : decB s = if RdM.endE s r ≠ 0 then ([], RdM.endE s r) else if wr = true then ([], 3) else (out, 0) := by
  have h' : dto s (RdM.rdC s 1048576 ⟨0, 0⟩).2 (RdM.rdC s 1048576 ⟨0, 0⟩).1.toNat = ⟨at_, wr, out, r⟩ := h
  unfold decB; rw [h']
theorem dcs_err {s : RdM.Bs} {i n : Nat} {d : Dc} (h : dcs s i = d) (he : d.r.e ≠ 0) (hi : i ≤ n) : dcs s n = d := by
  obtain ⟨k, rfl⟩ : ∃ k, n = i + k := ⟨n - i, by omega⟩
  have h' : dto s (cnt0 s).2 i = d := h
  have := dto_err (s := s) (r0 := (cnt0 s).2) (i := i) (by rw [h']; exact he) k
  exact this.trans h'
theorem dcs_zero (s : RdM.Bs) : dcs s 0 = ⟨0, false, [], (cnt0 s).2⟩ := rfl
theorem dcs_succ (s : RdM.Bs) (i : Nat) : dcs s (i + 1) = dstep s i (dcs s i) := rfl
section
variable {s : RdM.Bs} {i : Nat} {at_ : Int} {wr : Bool} {out : List Run} {r : RdM.Rd}
theorem dcs_ok (hd : dcs s i = ⟨at_, wr, out, r⟩) : DOk s (cnt0 s).2 i ⟨at_, wr, out, r⟩ := by
  have h := dok s (cnt0 s).2 i
  have hd' : dto s (cnt0 s).2 i = ⟨at_, wr, out, r⟩ := hd
  rwa [hd'] at h
theorem nx_err (hd : dcs s i = ⟨at_, wr, out, r⟩) (he : (RdM.rdN s (RdM.rdN s r).2).2.e ≠ 0) : dcs s (i + 1) = ⟨at_, wr, out, (RdM.rdN s (RdM.rdN s r).2).2⟩ := by
  rw [dcs_succ, hd]; unfold dstep; rw [if_pos he]
theorem nx_wr (hd : dcs s i = ⟨at_, wr, out, r⟩) (he : ¬ (RdM.rdN s (RdM.rdN s r).2).2.e ≠ 0) (hb : wr = true ∨ badC i at_ (RdM.rdN s r).1 (RdM.rdN s (RdM.rdN s r).2).1) : dcs s (i + 1) = ⟨at_, decide (wr = true ∨ badC i at_ (RdM.rdN s r).1 (RdM.rdN s (RdM.rdN s r).2).1), out, (RdM.rdN s (RdM.rdN s r).2).2⟩ := by
  rw [decide_eq_true hb, dcs_succ, hd]; unfold dstep; rw [if_neg he, if_pos hb]
theorem nx_ok (hd : dcs s i = ⟨at_, wr, out, r⟩) (he : ¬ (RdM.rdN s (RdM.rdN s r).2).2.e ≠ 0) (hb : ¬ (wr = true ∨ badC i at_ (RdM.rdN s r).1 (RdM.rdN s (RdM.rdN s r).2).1)) : dcs s (i + 1) = ⟨at_ + ((RdM.rdN s r).1 + (RdM.rdN s (RdM.rdN s r).2).1), decide (wr = true ∨ badC i at_ (RdM.rdN s r).1 (RdM.rdN s (RdM.rdN s r).2).1), out ++ [(at_ + (RdM.rdN s r).1, at_ + (RdM.rdN s r).1 + (RdM.rdN s (RdM.rdN s r).2).1 - 1)], (RdM.rdN s (RdM.rdN s r).2).2⟩ := by
  rw [decide_eq_false hb, dcs_succ, hd]; unfold dstep; rw [if_neg he, if_neg hb]
end
theorem cnt_lt {s : RdM.Bs} {i : Nat} (h : (i : Int) < (RdM.rdC s 1048576 ⟨0, 0⟩).1) : i < (cnt0 s).1.toNat := by
  have hq : (i : Int) < (cnt0 s).1 := h
  omega
theorem cnt_eq {s : RdM.Bs} {i : Nat} (h : ¬ (i : Int) < (RdM.rdC s 1048576 ⟨0, 0⟩).1) (hi : i ≤ (cnt0 s).1.toNat) : i = (cnt0 s).1.toNat := by
  have hq : ¬ (i : Int) < (cnt0 s).1 := h
  omega
set_option maxHeartbeats 2000000 in
set_option maxRecDepth 100000 in
theorem dec_any {σ : World} {F : List Res} (lab : Nat) (s : RdM.Bs) (hs : s.length ≤ 1099511627776) :
    FnT Try.prog σ F 44 [.string (str s)] [] (fun u ρ => ∃ a c, u = .tuple #[bm a (decB s).1.length c, .int .i64 (decB s).2] ∧ ρ = [(lab, slW 58 encRun 2 (.slice a (decB s).1.length c) (decB s).1)]) := by
  refine fn_of 88 Try.func44 rfl Try.ntmps44 rfl ?_
  have hcb := cnt0_bd s
  refine w_seq ?_
  refine w_region ?_
  refine wl_op [] rfl rfl rfl rfl (op_alloc (l := 2) tN26dd) ?_
  rintro _ _ ⟨b2, rfl, rfl⟩
  refine wl_det rfl rfl rfl (op_assign rfl) ?_
  refine wl_nil ?_
  refine st_tn ?_
  refine w_seq ?_
  refine w_region ?_
  refine wl_det rfl rfl rfl (op_move rfl) ?_
  refine wl_op [] rfl rfl rfl rfl (op_fn Try.func62 rfl rfl rfl (rnew_any 13 s)) ?_
  rintro _ _ ⟨b13, rfl, rfl⟩
  refine wl_det rfl rfl rfl (op_assign rfl) ?_
  refine wl_nil ?_
  refine st_tn ?_
  refine w_seq ?_
  refine w_region ?_
  refine wl_op [] rfl rfl rfl rfl (op_alloc (l := 5) tN26dd) ?_
  rintro _ _ ⟨b5, rfl, rfl⟩
  refine wl_nil ?_
  refine st_tn ?_
  refine w_seq ?_
  refine w_region ?_
  refine wl_det rfl rfl rfl (op_assign rfl) ?_
  refine wl_det rfl rfl rfl (op_assign rfl) ?_
  refine wl_nil ?_
  refine st_tn ?_
  refine w_seq ?_
  refine w_seq ?_
  refine w_region ?_
  refine wl_det rfl rfl rfl (op_move rfl) ?_
  refine wl_op [13] rfl rfl rfl rfl (op_fn Try.func63 rfl rfl rfl (rcnt_l 13 1048576 ⟨0, 0⟩ hs)) ?_
  rintro _ _ ⟨rfl, rfl⟩
  refine wl_det rfl rfl rfl (op_move rfl) ?_
  refine wl_nil ?_
  refine st_tn ?_
  refine w_block ?_
  refine w_emp 95 (slO_nil 58 2) ?_
  refine w_loopQ (X := Int × Bool × Nat × List Run × Option Addr × Nat × RdM.Rd) (fun z => z.2.2.1 ≤ (cnt0 s).1.toNat ∧ dcs s z.2.2.1 = ⟨z.1, z.2.1, z.2.2.2.1, z.2.2.2.2.2.2⟩) (fun z => [(6, .int .i64 (z.1)), (7, .bool (z.2.1)), (16, .int .i64 (z.2.2.1))]) (fun z => [(95, slW 58 encRun 2 (.slice (z.2.2.2.2.1) (z.2.2.2.1).length (z.2.2.2.2.2.1)) (z.2.2.2.1)), (5, cel b5 [.slice (z.2.2.2.2.1) (z.2.2.2.1).length (z.2.2.2.2.2.1)] 26), (13, cel b13 (cellR s (z.2.2.2.2.2.2)) 107)]) (fun z => (cnt0 s).1.toNat - z.2.2.1) ((0, false, 0, [], none, 0, (cnt0 s).2)) [(2, _), (4, _), (5, _), (15, _)] [(2, _)] [95, 5, 13, 2] rfl (rfl) (.cons rfl (.cons rfl (.cons rfl (.nil _)))) (.cons rfl (.cons rfl (.cons rfl (.cons rfl (.nil _))))) (by
      try dsimp only
      exact ⟨Nat.zero_le _, dcs_zero s⟩) ?_
  rintro ⟨at_, wr, i, out, a_out, c_out, r⟩ ⟨hi, hd⟩
  refine w_norm2 (by dsimp only [List.cons_append, List.nil_append]) (by dsimp only [List.cons_append, List.nil_append]) ?_
  try dsimp only at hi hd ⊢
  refine w_seq ?_
  refine w_region ?_
  refine wl_det rfl rfl rfl (op_lss rfl rfl) ?_
  refine wl_nil ?_
  refine st_tn ?_
  refine w_seq ?_
  refine w_cond_d rfl (fun hc17 => ?_) (fun hc17 => ?_)
  · -- c17.t
    have hil : i < (cnt0 s).1.toNat := cnt_lt hc17
    have hok := dcs_ok hd
    have hlo := hok.lo
    have hhi := hok.hi
    have hln := hok.len
    dsimp only at hlo hhi hln
    refine w_skip ?_
    refine st_tn ?_
    refine w_seq ?_
    refine w_block ?_
    refine w_seq ?_
    refine w_region ?_
    refine wl_det rfl rfl rfl (op_move rfl) ?_
    refine wl_det rfl rfl rfl (op_assign rfl) ?_
    refine wl_nil ?_
    refine st_tn ?_
    refine w_seq ?_
    refine w_region ?_
    refine wl_det rfl rfl rfl (op_move rfl) ?_
    refine wl_op [13] rfl rfl rfl rfl (op_fn Try.func64 rfl rfl rfl (rnum_l 13 r hs)) ?_
    rintro _ _ ⟨rfl, rfl⟩
    refine wl_det rfl rfl rfl (op_move rfl) ?_
    refine wl_op [13] rfl rfl rfl rfl (op_fn Try.func64 rfl rfl rfl (rnum_l 13 (RdM.rdN s r).2 hs)) ?_
    rintro _ _ ⟨rfl, rfl⟩
    refine wl_det rfl rfl rfl (op_assign rfl) ?_
    refine wl_det rfl rfl rfl (op_assign rfl) ?_
    refine wl_nil ?_
    refine st_tn ?_
    refine w_seq ?_
    refine w_seq ?_
    refine w_region ?_
    refine wl_det rfl rfl rfl (op_move rfl) ?_
    refine wl_det rfl rfl rfl (op_fn Try.func65 rfl rfl rfl (rerr_any (celR 13 rfl))) ?_
    refine wl_det rfl rfl rfl (op_neq rfl rfl) ?_
    refine wl_nil ?_
    refine st_tn ?_
    refine w_cond_d rfl (fun hc25 => ?_) (fun hc25 => ?_)
    · -- c25.t
      have hfin := dcs_err (n := (cnt0 s).1.toNat) (nx_err hd hc25) hc25 (by omega)
      have hend : RdM.endE s (RdM.rdN s (RdM.rdN s r).2).2 ≠ 0 := by unfold RdM.endE; rw [if_pos hc25]; exact hc25
      have hdec := decB_eq s hfin
      refine w_exit ?_
      refine st_te ?_
      refine st_bne rfl ?_
      refine st_te ?_
      refine st_te ?_
      refine st_be ?_
      refine st_tn ?_
      refine w_seq ?_
      refine w_seq ?_
      refine w_region ?_
      refine wl_det rfl rfl rfl (op_move rfl) ?_
      refine wl_det rfl rfl rfl (op_fn Try.func66 rfl rfl rfl (rend_any (celR 13 rfl))) ?_
      refine wl_det rfl rfl rfl (op_assign rfl) ?_
      refine wl_nil ?_
      refine st_tn ?_
      refine w_block ?_
      refine w_seq ?_
      refine w_region ?_
      refine wl_det rfl rfl rfl (op_move rfl) ?_
      refine wl_det rfl rfl rfl (op_val (v' := .bool true) (by simp; exact hend) (op_neq rfl rfl)) ?_
      refine wl_det rfl rfl rfl (op_assign rfl) ?_
      refine wl_nil ?_
      refine st_tn ?_
      refine w_cond_t (rfl) ?_
      refine w_seq ?_
      refine w_region ?_
      refine wl_det rfl rfl rfl (op_build tB26dd rfl rfl) ?_
      refine wl_det rfl rfl rfl (op_move rfl) ?_
      refine wl_op0 [2] rfl rfl rfl (op_store rfl rfl tZ26dd (by rfl) (by rfl) (by exact Nat.le_of_ble_eq_true rfl)) ?_
      rintro _ _ ⟨rfl, rfl⟩
      refine wl_det rfl rfl rfl (op_assign rfl) ?_
      refine wl_nil ?_
      refine st_tn ?_
      refine w_emp 77 (slO_nil 58 2) ?_
      refine w_ret ?_
      refine st_br ?_
      refine st_tr ?_
      refine st_ret (vs := [_, _]) [77] Try.results44 ⟨⟨_, rfl, Ent.mono (Ent.lab (l := 2) rfl (says_cel 0)) (fun _ h => run_load_agg tA26dd h (Nat.le_of_ble_eq_true rfl))⟩, ⟨rfl, trivial⟩⟩ rfl ?_
      refine ⟨[(lab, _)], rfl, ?_⟩
      rw [hdec, if_pos (by assumption)]; exact ⟨none, 0, rfl, rfl⟩
    · -- c25.f
      refine w_skip ?_
      refine st_tn ?_
      refine w_seq ?_
      refine w_seq ?_
      refine w_cutL [(7, .bool (decide (wr = true ∨ badC i at_ (RdM.rdN s r).1 (RdM.rdN s (RdM.rdN s r).2).1)))] [2, 4, 5, 6, 9, 10, 15, 16] [95, 5, 13, 2] rfl (fun K' hK => ?_) ?_
      · -- cut r9
        refine w_region ?_
        refine wl_det rfl rfl rfl (op_move rfl) ?_
        refine wl_det rfl rfl rfl (op_move rfl) ?_
        refine wl_gsplitB (t := 27) rfl (fun hg27 => ?_) (fun hg27 => ?_)
        · -- 27 is True
          refine wl_unwanted rfl rfl rfl rfl rfl rfl rfl rfl ?_
          refine wl_unwanted rfl rfl rfl rfl rfl rfl rfl rfl ?_
          refine wl_det rfl rfl rfl (op_pick_t rfl rfl) ?_
          refine wl_det rfl rfl rfl (op_move rfl) ?_
          refine wl_unwanted rfl rfl rfl rfl rfl rfl rfl rfl ?_
          refine wl_unwanted rfl rfl rfl rfl rfl rfl rfl rfl ?_
          refine wl_unwanted rfl rfl rfl rfl rfl rfl rfl rfl ?_
          refine wl_unwantedU rfl rfl rfl rfl rfl rfl rfl ?_
          refine wl_unwantedU rfl rfl rfl rfl rfl rfl rfl ?_
          refine wl_unwanted rfl rfl rfl rfl rfl rfl rfl rfl ?_
          refine wl_det rfl rfl rfl (op_pick_t rfl rfl) ?_
          refine wl_det rfl rfl rfl (op_move rfl) ?_
          refine wl_unwanted rfl rfl rfl rfl rfl rfl rfl rfl ?_
          refine wl_unwanted rfl rfl rfl rfl rfl rfl rfl rfl ?_
          refine wl_det rfl rfl rfl (op_pick_t rfl rfl) ?_
          refine wl_det rfl rfl rfl (op_move rfl) ?_
          refine wl_unwanted rfl rfl rfl rfl rfl rfl rfl rfl ?_
          refine wl_unwanted rfl rfl rfl rfl rfl rfl rfl rfl ?_
          refine wl_det rfl rfl rfl (op_pick_t rfl rfl) ?_
          refine wl_det rfl rfl rfl (op_move rfl) ?_
          refine wl_unwanted rfl rfl rfl rfl rfl rfl rfl rfl ?_
          refine wl_unwanted rfl rfl rfl rfl rfl rfl rfl rfl ?_
          refine wl_unwanted rfl rfl rfl rfl rfl rfl rfl rfl ?_
          refine wl_unwanted rfl rfl rfl rfl rfl rfl rfl rfl ?_
          refine wl_unwanted rfl rfl rfl rfl rfl rfl rfl rfl ?_
          refine wl_unwanted rfl rfl rfl rfl rfl rfl rfl rfl ?_
          refine wl_det rfl rfl rfl (op_pick_t rfl rfl) ?_
          refine wl_det rfl rfl rfl (op_assign rfl) ?_
          refine wl_nil ?_
          refine st_tn ?_
          exact cut_done1 [95, 5, 13, 2] hK rfl (by unfold badC; first | (simp [*]; done) | (simp [*]; omega) | (cases wr <;> simp_all; done) | (cases wr <;> simp_all <;> omega)) (agc rfl rfl (agc rfl rfl (agc rfl rfl (agc rfl rfl (agc rfl rfl (agc rfl rfl (agc rfl rfl (agc rfl rfl agn)))))))) rfl rfl
        · -- 27 is False
          refine wl_wanted_det rfl rfl rfl rfl rfl rfl rfl (op_move rfl) ?_
          refine wl_wanted_det rfl rfl rfl rfl rfl rfl rfl (op_lss rfl rfl) ?_
          refine wl_det rfl rfl rfl (op_pick_f rfl rfl) ?_
          refine wl_det rfl rfl rfl (op_move rfl) ?_
          refine wl_gsplit (t := 31) rfl (fun hg31 => ?_) (fun hg31 => ?_)
          · -- 31 is True
            refine wl_unwanted rfl rfl rfl rfl rfl rfl rfl rfl ?_
            refine wl_unwanted rfl rfl rfl rfl rfl rfl rfl rfl ?_
            refine wl_unwanted rfl rfl rfl rfl rfl rfl rfl rfl ?_
            refine wl_unwantedU rfl rfl rfl rfl rfl rfl rfl ?_
            refine wl_unwantedU rfl rfl rfl rfl rfl rfl rfl ?_
            refine wl_unwanted rfl rfl rfl rfl rfl rfl rfl rfl ?_
            refine wl_det rfl rfl rfl (op_pick_t rfl rfl) ?_
            refine wl_det rfl rfl rfl (op_move rfl) ?_
            refine wl_unwanted rfl rfl rfl rfl rfl rfl rfl rfl ?_
            refine wl_unwanted rfl rfl rfl rfl rfl rfl rfl rfl ?_
            refine wl_det rfl rfl rfl (op_pick_t rfl rfl) ?_
            refine wl_det rfl rfl rfl (op_move rfl) ?_
            refine wl_unwanted rfl rfl rfl rfl rfl rfl rfl rfl ?_
            refine wl_unwanted rfl rfl rfl rfl rfl rfl rfl rfl ?_
            refine wl_det rfl rfl rfl (op_pick_t rfl rfl) ?_
            refine wl_det rfl rfl rfl (op_move rfl) ?_
            refine wl_unwanted rfl rfl rfl rfl rfl rfl rfl rfl ?_
            refine wl_unwanted rfl rfl rfl rfl rfl rfl rfl rfl ?_
            refine wl_unwanted rfl rfl rfl rfl rfl rfl rfl rfl ?_
            refine wl_unwanted rfl rfl rfl rfl rfl rfl rfl rfl ?_
            refine wl_unwanted rfl rfl rfl rfl rfl rfl rfl rfl ?_
            refine wl_unwanted rfl rfl rfl rfl rfl rfl rfl rfl ?_
            refine wl_det rfl rfl rfl (op_pick_t rfl rfl) ?_
            refine wl_det rfl rfl rfl (op_assign rfl) ?_
            refine wl_nil ?_
            refine st_tn ?_
            exact cut_done1 [95, 5, 13, 2] hK rfl (by unfold badC; first | (simp [*]; done) | (simp [*]; omega) | (cases wr <;> simp_all; done) | (cases wr <;> simp_all <;> omega)) (agc rfl rfl (agc rfl rfl (agc rfl rfl (agc rfl rfl (agc rfl rfl (agc rfl rfl (agc rfl rfl (agc rfl rfl agn)))))))) rfl rfl
          · -- 31 is False
            refine wl_wanted_det rfl rfl rfl rfl rfl rfl rfl (op_move rfl) ?_
            refine wl_wanted_det rfl rfl rfl rfl rfl rfl rfl (op_gtr rfl rfl) ?_
            refine wl_wanted_det rfl rfl rfl rfl rfl rfl rfl (op_move rfl) ?_
            refine wl_gsplit (t := 34) rfl (fun hg34 => ?_) (fun hg34 => ?_)
            · -- 34 is True
              refine wl_wanted_det rfl rfl rfl rfl rfl rfl rfl (op_move rfl) ?_
              refine wl_wanted_det rfl rfl rfl rfl rfl rfl rfl (op_eql rfl rfl) ?_
              refine wl_wanted_det rfl rfl rfl rfl rfl rfl rfl (op_pick_t rfl rfl) ?_
              refine wl_det rfl rfl rfl (op_pick_f rfl rfl) ?_
              refine wl_det rfl rfl rfl (op_move rfl) ?_
              refine wl_gsplit (t := 39) rfl (fun hg39 => ?_) (fun hg39 => ?_)
              · -- 39 is True
                refine wl_unwanted rfl rfl rfl rfl rfl rfl rfl rfl ?_
                refine wl_unwanted rfl rfl rfl rfl rfl rfl rfl rfl ?_
                refine wl_det rfl rfl rfl (op_pick_t rfl rfl) ?_
                refine wl_det rfl rfl rfl (op_move rfl) ?_
                refine wl_unwanted rfl rfl rfl rfl rfl rfl rfl rfl ?_
                refine wl_unwanted rfl rfl rfl rfl rfl rfl rfl rfl ?_
                refine wl_det rfl rfl rfl (op_pick_t rfl rfl) ?_
                refine wl_det rfl rfl rfl (op_move rfl) ?_
                refine wl_unwanted rfl rfl rfl rfl rfl rfl rfl rfl ?_
                refine wl_unwanted rfl rfl rfl rfl rfl rfl rfl rfl ?_
                refine wl_unwanted rfl rfl rfl rfl rfl rfl rfl rfl ?_
                refine wl_unwanted rfl rfl rfl rfl rfl rfl rfl rfl ?_
                refine wl_unwanted rfl rfl rfl rfl rfl rfl rfl rfl ?_
                refine wl_unwanted rfl rfl rfl rfl rfl rfl rfl rfl ?_
                refine wl_det rfl rfl rfl (op_pick_t rfl rfl) ?_
                refine wl_det rfl rfl rfl (op_assign rfl) ?_
                refine wl_nil ?_
                refine st_tn ?_
                exact cut_done1 [95, 5, 13, 2] hK rfl (by unfold badC; first | (simp [*]; done) | (simp [*]; omega) | (cases wr <;> simp_all; done) | (cases wr <;> simp_all <;> omega)) (agc rfl rfl (agc rfl rfl (agc rfl rfl (agc rfl rfl (agc rfl rfl (agc rfl rfl (agc rfl rfl (agc rfl rfl agn)))))))) rfl rfl
              · -- 39 is False
                refine wl_wanted_det rfl rfl rfl rfl rfl rfl rfl (op_move rfl) ?_
                refine wl_wanted_det rfl rfl rfl rfl rfl rfl rfl (op_lss rfl rfl) ?_
                refine wl_det rfl rfl rfl (op_pick_f rfl rfl) ?_
                refine wl_det rfl rfl rfl (op_move rfl) ?_
                refine wl_gsplit (t := 43) rfl (fun hg43 => ?_) (fun hg43 => ?_)
                · -- 43 is True
                  refine wl_unwanted rfl rfl rfl rfl rfl rfl rfl rfl ?_
                  refine wl_unwanted rfl rfl rfl rfl rfl rfl rfl rfl ?_
                  refine wl_det rfl rfl rfl (op_pick_t rfl rfl) ?_
                  refine wl_det rfl rfl rfl (op_move rfl) ?_
                  refine wl_unwanted rfl rfl rfl rfl rfl rfl rfl rfl ?_
                  refine wl_unwanted rfl rfl rfl rfl rfl rfl rfl rfl ?_
                  refine wl_unwanted rfl rfl rfl rfl rfl rfl rfl rfl ?_
                  refine wl_unwanted rfl rfl rfl rfl rfl rfl rfl rfl ?_
                  refine wl_unwanted rfl rfl rfl rfl rfl rfl rfl rfl ?_
                  refine wl_unwanted rfl rfl rfl rfl rfl rfl rfl rfl ?_
                  refine wl_det rfl rfl rfl (op_pick_t rfl rfl) ?_
                  refine wl_det rfl rfl rfl (op_assign rfl) ?_
                  refine wl_nil ?_
                  refine st_tn ?_
                  exact cut_done1 [95, 5, 13, 2] hK rfl (by unfold badC; first | (simp [*]; done) | (simp [*]; omega) | (cases wr <;> simp_all; done) | (cases wr <;> simp_all <;> omega)) (agc rfl rfl (agc rfl rfl (agc rfl rfl (agc rfl rfl (agc rfl rfl (agc rfl rfl (agc rfl rfl (agc rfl rfl agn)))))))) rfl rfl
                · -- 43 is False
                  refine wl_wanted_det rfl rfl rfl rfl rfl rfl rfl (op_move rfl) ?_
                  refine wl_wanted_det rfl rfl rfl rfl rfl rfl rfl (op_gtr rfl rfl) ?_
                  refine wl_det rfl rfl rfl (op_pick_f rfl rfl) ?_
                  refine wl_det rfl rfl rfl (op_move rfl) ?_
                  refine wl_gsplit (t := 47) rfl (fun hg47 => ?_) (fun hg47 => ?_)
                  · -- 47 is True
                    refine wl_unwanted rfl rfl rfl rfl rfl rfl rfl rfl ?_
                    refine wl_unwanted rfl rfl rfl rfl rfl rfl rfl rfl ?_
                    refine wl_unwanted rfl rfl rfl rfl rfl rfl rfl rfl ?_
                    refine wl_unwanted rfl rfl rfl rfl rfl rfl rfl rfl ?_
                    refine wl_unwanted rfl rfl rfl rfl rfl rfl rfl rfl ?_
                    refine wl_unwanted rfl rfl rfl rfl rfl rfl rfl rfl ?_
                    refine wl_det rfl rfl rfl (op_pick_t rfl rfl) ?_
                    refine wl_det rfl rfl rfl (op_assign rfl) ?_
                    refine wl_nil ?_
                    refine st_tn ?_
                    exact cut_done1 [95, 5, 13, 2] hK rfl (by unfold badC; first | (simp [*]; done) | (simp [*]; omega) | (cases wr <;> simp_all; done) | (cases wr <;> simp_all <;> omega)) (agc rfl rfl (agc rfl rfl (agc rfl rfl (agc rfl rfl (agc rfl rfl (agc rfl rfl (agc rfl rfl (agc rfl rfl agn)))))))) rfl rfl
                  · -- 47 is False
                    refine wl_wanted_det rfl rfl rfl rfl rfl rfl rfl (op_move rfl) ?_
                    refine wl_wanted_det rfl rfl rfl rfl rfl rfl rfl (op_move rfl) ?_
                    refine wl_wanted_det rfl rfl rfl rfl rfl rfl rfl (op_sub' rfl rfl (by omega)) ?_
                    refine wl_wanted_det rfl rfl rfl rfl rfl rfl rfl (op_move rfl) ?_
                    refine wl_wanted_det rfl rfl rfl rfl rfl rfl rfl (op_sub' rfl rfl (by omega)) ?_
                    refine wl_wanted_det rfl rfl rfl rfl rfl rfl rfl (op_gtr rfl rfl) ?_
                    refine wl_det rfl rfl rfl (op_pick_f rfl rfl) ?_
                    refine wl_det rfl rfl rfl (op_assign rfl) ?_
                    refine wl_nil ?_
                    refine st_tn ?_
                    exact cut_done1 [95, 5, 13, 2] hK rfl (by unfold badC; first | (simp [*]; done) | (simp [*]; omega) | (cases wr <;> simp_all; done) | (cases wr <;> simp_all <;> omega)) (agc rfl rfl (agc rfl rfl (agc rfl rfl (agc rfl rfl (agc rfl rfl (agc rfl rfl (agc rfl rfl (agc rfl rfl agn)))))))) rfl rfl
            · -- 34 is False
              refine wl_unwanted rfl rfl rfl rfl rfl rfl rfl rfl ?_
              refine wl_unwanted rfl rfl rfl rfl rfl rfl rfl rfl ?_
              refine wl_wanted_det rfl rfl rfl rfl rfl rfl rfl (op_pick_f rfl rfl) ?_
              refine wl_det rfl rfl rfl (op_pick_f rfl rfl) ?_
              refine wl_det rfl rfl rfl (op_move rfl) ?_
              refine wl_wanted_det rfl rfl rfl rfl rfl rfl rfl (op_move rfl) ?_
              refine wl_wanted_det rfl rfl rfl rfl rfl rfl rfl (op_lss rfl rfl) ?_
              refine wl_det rfl rfl rfl (op_pick_f rfl rfl) ?_
              refine wl_det rfl rfl rfl (op_move rfl) ?_
              refine wl_gsplit (t := 43) rfl (fun hg43 => ?_) (fun hg43 => ?_)
              · -- 43 is True
                refine wl_unwanted rfl rfl rfl rfl rfl rfl rfl rfl ?_
                refine wl_unwanted rfl rfl rfl rfl rfl rfl rfl rfl ?_
                refine wl_det rfl rfl rfl (op_pick_t rfl rfl) ?_
                refine wl_det rfl rfl rfl (op_move rfl) ?_
                refine wl_unwanted rfl rfl rfl rfl rfl rfl rfl rfl ?_
                refine wl_unwanted rfl rfl rfl rfl rfl rfl rfl rfl ?_
                refine wl_unwanted rfl rfl rfl rfl rfl rfl rfl rfl ?_
                refine wl_unwanted rfl rfl rfl rfl rfl rfl rfl rfl ?_
                refine wl_unwanted rfl rfl rfl rfl rfl rfl rfl rfl ?_
                refine wl_unwanted rfl rfl rfl rfl rfl rfl rfl rfl ?_
                refine wl_det rfl rfl rfl (op_pick_t rfl rfl) ?_
                refine wl_det rfl rfl rfl (op_assign rfl) ?_
                refine wl_nil ?_
                refine st_tn ?_
                exact cut_done1 [95, 5, 13, 2] hK rfl (by unfold badC; first | (simp [*]; done) | (simp [*]; omega) | (cases wr <;> simp_all; done) | (cases wr <;> simp_all <;> omega)) (agc rfl rfl (agc rfl rfl (agc rfl rfl (agc rfl rfl (agc rfl rfl (agc rfl rfl (agc rfl rfl (agc rfl rfl agn)))))))) rfl rfl
              · -- 43 is False
                refine wl_wanted_det rfl rfl rfl rfl rfl rfl rfl (op_move rfl) ?_
                refine wl_wanted_det rfl rfl rfl rfl rfl rfl rfl (op_gtr rfl rfl) ?_
                refine wl_det rfl rfl rfl (op_pick_f rfl rfl) ?_
                refine wl_det rfl rfl rfl (op_move rfl) ?_
                refine wl_gsplit (t := 47) rfl (fun hg47 => ?_) (fun hg47 => ?_)
                · -- 47 is True
                  refine wl_unwanted rfl rfl rfl rfl rfl rfl rfl rfl ?_
                  refine wl_unwanted rfl rfl rfl rfl rfl rfl rfl rfl ?_
                  refine wl_unwanted rfl rfl rfl rfl rfl rfl rfl rfl ?_
                  refine wl_unwanted rfl rfl rfl rfl rfl rfl rfl rfl ?_
                  refine wl_unwanted rfl rfl rfl rfl rfl rfl rfl rfl ?_
                  refine wl_unwanted rfl rfl rfl rfl rfl rfl rfl rfl ?_
                  refine wl_det rfl rfl rfl (op_pick_t rfl rfl) ?_
                  refine wl_det rfl rfl rfl (op_assign rfl) ?_
                  refine wl_nil ?_
                  refine st_tn ?_
                  exact cut_done1 [95, 5, 13, 2] hK rfl (by unfold badC; first | (simp [*]; done) | (simp [*]; omega) | (cases wr <;> simp_all; done) | (cases wr <;> simp_all <;> omega)) (agc rfl rfl (agc rfl rfl (agc rfl rfl (agc rfl rfl (agc rfl rfl (agc rfl rfl (agc rfl rfl (agc rfl rfl agn)))))))) rfl rfl
                · -- 47 is False
                  refine wl_wanted_det rfl rfl rfl rfl rfl rfl rfl (op_move rfl) ?_
                  refine wl_wanted_det rfl rfl rfl rfl rfl rfl rfl (op_move rfl) ?_
                  refine wl_wanted_det rfl rfl rfl rfl rfl rfl rfl (op_sub' rfl rfl (by omega)) ?_
                  refine wl_wanted_det rfl rfl rfl rfl rfl rfl rfl (op_move rfl) ?_
                  refine wl_wanted_det rfl rfl rfl rfl rfl rfl rfl (op_sub' rfl rfl (by omega)) ?_
                  refine wl_wanted_det rfl rfl rfl rfl rfl rfl rfl (op_gtr rfl rfl) ?_
                  refine wl_det rfl rfl rfl (op_pick_f rfl rfl) ?_
                  refine wl_det rfl rfl rfl (op_assign rfl) ?_
                  refine wl_nil ?_
                  refine st_tn ?_
                  exact cut_done1 [95, 5, 13, 2] hK rfl (by unfold badC; first | (simp [*]; done) | (simp [*]; omega) | (cases wr <;> simp_all; done) | (cases wr <;> simp_all <;> omega)) (agc rfl rfl (agc rfl rfl (agc rfl rfl (agc rfl rfl (agc rfl rfl (agc rfl rfl (agc rfl rfl (agc rfl rfl agn)))))))) rfl rfl
      · -- behind r9
        show W _ _ _ _ _ [(7, _), (2, _), (4, _), (5, _), (6, _), (9, _), (10, _), (15, _), (16, _)] [(95, _), (5, _), (13, _), (2, _)] _
        refine w_seq ?_
        refine w_region ?_
        refine wl_det rfl rfl rfl (op_move rfl) ?_
        refine wl_nil ?_
        refine st_tn ?_
        refine w_cond_d rfl (fun hc55 => ?_) (fun hc55 => ?_)
        · -- c55.t
          have hw := nx_wr hd hc25 hc55
          refine w_exit ?_
          refine st_te ?_
          refine st_be ?_
          refine st_tn ?_
          refine w_region ?_
          refine wl_det rfl rfl rfl (op_add' rfl rfl (by omega)) ?_
          refine wl_det rfl rfl rfl (op_move rfl) ?_
          refine wl_nil ?_
          refine st_roundQ (x := (at_, wr, i, out, a_out, c_out, r)) ((_, _, i + 1, _, _, _, _)) [95, 5, 13, 2] rfl (rfl) (.cons rfl (.cons rfl (.cons rfl (.nil _)))) (.cons rfl (.cons rfl (.cons rfl (.cons rfl (.nil _))))) (by
              try dsimp only
              exact ⟨by omega, hw⟩) (by
              try dsimp only
              omega) 
        · -- c55.f
          have hw := nx_ok hd hc25 hc55
          have hnb : ¬ badC i at_ (RdM.rdN s r).1 (RdM.rdN s (RdM.rdN s r).2).1 := fun hh => hc55 (.inr hh)
          unfold badC at hnb
          refine w_skip ?_
          refine st_tn ?_
          refine w_seq ?_
          refine w_region ?_
          refine wl_det rfl rfl rfl (op_fieldAddr (off := 0) rfl tF26_0dd) ?_
          refine wl_det rfl rfl rfl (op_load1 rfl tO24dd (Ent.lab (l := 5) rfl (says_cel 0))) ?_
          refine wl_det rfl rfl rfl (op_move rfl) ?_
          refine wl_det rfl rfl rfl (op_move rfl) ?_
          refine wl_det rfl rfl rfl (op_add' rfl rfl (by omega)) ?_
          refine wl_det rfl rfl rfl (op_move rfl) ?_
          refine wl_det rfl rfl rfl (op_move rfl) ?_
          refine wl_det rfl rfl rfl (op_add' rfl rfl (by omega)) ?_
          refine wl_det rfl rfl rfl (op_move rfl) ?_
          refine wl_det rfl rfl rfl (op_add' rfl rfl (by omega)) ?_
          refine wl_det rfl rfl rfl (op_sub' rfl rfl (by omega)) ?_
          refine wl_det rfl rfl rfl (op_build tB58dd rfl rfl) ?_
          refine wl_op [] rfl rfl rfl rfl (op_buildSlice (enc := encRun) (l := [(at_ + (RdM.rdN s r).1, at_ + (RdM.rdN s r).1 + (RdM.rdN s (RdM.rdN s r).2).1 - 1)]) (lab := 68) tL24_1dd rfl rfl (fun _ => rfl) rfl) ?_
          rintro _ _ ⟨a68, c68, rfl, rfl⟩
          refine wl_op [95] rfl rfl rfl rfl (op_append (lab := 95) (lab' := 69) rfl rfl tP24dd enc1Run (Sl.lab 68 rfl (by simp [maxLen])) (by first | omega | (simp; done) | (simp; omega) | (simp [*]; omega)) (by first | omega | (simp; done) | (simp; omega) | (simp [*]; omega))) ?_
          rintro _ _ ⟨a69, c69, rfl, rfl⟩
          refine wl_det rfl rfl rfl (op_fieldAddr (off := 0) rfl tF26_0dd) ?_
          refine wl_op0 [5] rfl rfl rfl (op_store rfl rfl tZ24dd (by rfl) (by rfl) (by exact Nat.le_of_ble_eq_true rfl)) ?_
          rintro _ _ ⟨rfl, rfl⟩
          refine wl_nil ?_
          refine st_tn ?_
          refine w_region ?_
          refine wl_det rfl rfl rfl (op_move rfl) ?_
          refine wl_det rfl rfl rfl (op_move rfl) ?_
          refine wl_det rfl rfl rfl (op_move rfl) ?_
          refine wl_det rfl rfl rfl (op_add' rfl rfl (by omega)) ?_
          refine wl_det rfl rfl rfl (op_add' rfl rfl (by omega)) ?_
          refine wl_det rfl rfl rfl (op_assign rfl) ?_
          refine wl_nil ?_
          refine st_bn ?_
          refine st_tn ?_
          refine w_region ?_
          refine wl_det rfl rfl rfl (op_add' rfl rfl (by omega)) ?_
          refine wl_det rfl rfl rfl (op_move rfl) ?_
          refine wl_nil ?_
          refine st_roundQ (x := (at_, wr, i, out, a_out, c_out, r)) ((_, _, i + 1, _, _, _, _)) [69, 5, 13, 2] rfl (rfl) (.cons rfl (.cons rfl (.cons rfl (.nil _)))) (.cons rfl (.cons rfl (.cons rfl (.cons rfl (.nil _))))) (by
              try dsimp only
              exact ⟨by omega, hw⟩) (by
              try dsimp only
              omega) 
  · -- c17.f
    have hfin : dcs s (cnt0 s).1.toNat = ⟨at_, wr, out, r⟩ := cnt_eq hc17 hi ▸ hd
    have hdec := decB_eq s hfin
    refine w_exit ?_
    refine st_te ?_
    refine st_te ?_
    refine st_be ?_
    refine st_tn ?_
    refine w_seq ?_
    refine w_seq ?_
    refine w_region ?_
    refine wl_det rfl rfl rfl (op_move rfl) ?_
    refine wl_det rfl rfl rfl (op_fn Try.func66 rfl rfl rfl (rend_any (celR 13 rfl))) ?_
    refine wl_det rfl rfl rfl (op_assign rfl) ?_
    refine wl_nil ?_
    refine st_tn ?_
    refine w_block ?_
    refine w_seq ?_
    refine w_region ?_
    refine wl_det rfl rfl rfl (op_move rfl) ?_
    refine wl_det rfl rfl rfl (op_neq rfl rfl) ?_
    refine wl_det rfl rfl rfl (op_assign rfl) ?_
    refine wl_nil ?_
    refine st_tn ?_
    refine w_cond_d rfl (fun hc79 => ?_) (fun hc79 => ?_)
    · -- c79.t
      refine w_seq ?_
      refine w_region ?_
      refine wl_det rfl rfl rfl (op_build tB26dd rfl rfl) ?_
      refine wl_det rfl rfl rfl (op_move rfl) ?_
      refine wl_op0 [2] rfl rfl rfl (op_store rfl rfl tZ26dd (by rfl) (by rfl) (by exact Nat.le_of_ble_eq_true rfl)) ?_
      rintro _ _ ⟨rfl, rfl⟩
      refine wl_det rfl rfl rfl (op_assign rfl) ?_
      refine wl_nil ?_
      refine st_tn ?_
      refine w_emp 77 (slO_nil 58 2) ?_
      refine w_ret ?_
      refine st_br ?_
      refine st_tr ?_
      refine st_ret (vs := [_, _]) [77] Try.results44 ⟨⟨_, rfl, Ent.mono (Ent.lab (l := 2) rfl (says_cel 0)) (fun _ h => run_load_agg tA26dd h (Nat.le_of_ble_eq_true rfl))⟩, ⟨rfl, trivial⟩⟩ rfl ?_
      refine ⟨[(lab, _)], rfl, ?_⟩
      rw [hdec, if_pos (by assumption)]; exact ⟨none, 0, rfl, rfl⟩
    · -- c79.f
      refine w_seq ?_
      refine w_region ?_
      refine wl_det rfl rfl rfl (op_move rfl) ?_
      refine wl_det rfl rfl rfl (op_assign rfl) ?_
      refine wl_nil ?_
      refine st_tn ?_
      refine w_cond rfl (fun hc84 => ?_) (fun hc84 => ?_)
      · -- c84.t
        refine w_seq ?_
        refine w_region ?_
        refine wl_det rfl rfl rfl (op_build tB26dd rfl rfl) ?_
        refine wl_op0 [2] rfl rfl rfl (op_store rfl rfl tZ26dd (by rfl) (by rfl) (by exact Nat.le_of_ble_eq_true rfl)) ?_
        rintro _ _ ⟨rfl, rfl⟩
        refine wl_det rfl rfl rfl (op_assign rfl) ?_
        refine wl_nil ?_
        refine st_tn ?_
        refine w_emp 77 (slO_nil 58 2) ?_
        refine w_ret ?_
        refine st_br ?_
        refine st_tr ?_
        refine st_ret (vs := [_, _]) [77] Try.results44 ⟨⟨_, rfl, Ent.mono (Ent.lab (l := 2) rfl (says_cel 0)) (fun _ h => run_load_agg tA26dd h (Nat.le_of_ble_eq_true rfl))⟩, ⟨rfl, trivial⟩⟩ rfl ?_
        refine ⟨[(lab, _)], rfl, ?_⟩
        rw [hdec, if_neg (by assumption), if_pos (by simpa using hc84)]; exact ⟨none, 0, rfl, rfl⟩
      · -- c84.f
        refine w_skip ?_
        refine st_bn ?_
        refine st_tn ?_
        refine w_seq ?_
        refine w_region ?_
        refine wl_det rfl rfl rfl (op_loadA rfl tA26dd (Ent.lab (l := 5) rfl (says_cel 0)) (Nat.le_of_ble_eq_true rfl)) ?_
        refine wl_op0 [2] rfl rfl rfl (op_store rfl rfl tZ26dd (by rfl) (by rfl) (by exact Nat.le_of_ble_eq_true rfl)) ?_
        rintro _ _ ⟨rfl, rfl⟩
        refine wl_det rfl rfl rfl (op_assign rfl) ?_
        refine wl_nil ?_
        refine st_tn ?_
        refine w_ret ?_
        refine st_ret (vs := [_, _]) [95] Try.results44 ⟨⟨_, rfl, Ent.mono (Ent.lab (l := 2) rfl (says_cel 0)) (fun _ h => run_load_agg tA26dd h (Nat.le_of_ble_eq_true rfl))⟩, ⟨rfl, trivial⟩⟩ rfl ?_
        refine ⟨[(lab, _)], rfl, ?_⟩
        rw [hdec, if_neg (by assumption), if_neg (by simpa using hc84)]; exact ⟨_, _, rfl, rfl⟩

end Go.Proofs.Ytkknlfhncheflaa
namespace Go.Proofs.Ytkknlfhncheflaa
open Go Go.SL Go.RowKit Go.BitM
set_option linter.unusedVariables false
set_option linter.unusedSimpArgs false
theorem tB90de : placesB Try.prog 90 = some ([(0, 1), (1, 1), (2, 1)], [Value.string .empty, Value.int .i64 0, Value.int .i64 0]) := by kernel_rfl
theorem tC37de : arrZB Try.prog 37 2 1 = some [Value.int .i64 0, Value.int .i64 0] := by kernel_rfl
theorem tF90_2de : fieldB Try.prog 90 2 2 = true := by kernel_rfl
theorem tL38_1de : zerosB Try.prog 38 37 2 1 = some [Value.int .i64 0, Value.int .i64 0] := by kernel_rfl
theorem tN90de : (Try.prog.info? 90).bind (·.zero) = some (Value.agg #[Value.string .empty, Value.int .i64 0, Value.int .i64 0]) := by kernel_rfl
theorem tO27de : oneB Try.prog 27 = true := by kernel_rfl
theorem tP38de : appB Try.prog 38 37 2 16 = true := by kernel_rfl
theorem tZ90de : (Try.prog.info? 90).map (·.size) = some 3 := by kernel_rfl

theorem xrd_l {σ : World} {F : List Res} {b : Nat} {s : RdM.Bs} (lab : Nat) (r : RdM.Rd) (hs : s.length ≤ 1099511627776) :
      FnT Try.prog σ F 68 [.pointer (some ⟨b, 0, none⟩)] [(lab, cel b (cellR s r) 90)] (fun u ρ => u = .int .i64 (RdM.rdN s r).1 ∧ ρ = [(lab, cel b (cellR s (RdM.rdN s r).2) 90)]) :=
  fn_lab (xrd_any r hs) rfl fun u ρ ⟨h1, h2⟩ => ⟨_, ⟨h1, rfl⟩, by rw [h2]; rfl⟩
theorem xcnt_l {σ : World} {F : List Res} {b : Nat} {s : RdM.Bs} (lab : Nat) (most : Int) (r : RdM.Rd) (hs : s.length ≤ 1099511627776) :
      FnT Try.prog σ F 67 [.pointer (some ⟨b, 0, none⟩), .int .i64 most] [(lab, cel b (cellR s r) 90)] (fun u ρ => u = .int .i64 (RdM.rdC s most r).1 ∧ ρ = [(lab, cel b (cellR s (RdM.rdC s most r).2) 90)]) :=
  fn_lab (xcnt_any most r hs) rfl fun u ρ ⟨h1, h2⟩ => ⟨_, ⟨h1, rfl⟩, by rw [h2]; rfl⟩
theorem rdN_zero {s : RdM.Bs} {r : RdM.Rd} (h : (RdM.rdN s r).2.e ≠ 0) : (RdM.rdN s r).1 = 0 := by
  unfold RdM.rdN at h ⊢
  split
  · rfl
  · rename_i h1; rw [if_neg h1] at h
    split
    · rfl
    · rename_i h2; rw [if_neg h2] at h; exact absurd rfl h
/-- The reference's decoding behind some runs. -/
structure RI (s : RdM.Bs) (i : Nat) (next : Int) (bad : Bool) (out : List Run) (r : RdM.Rd) : Prop where
  eqr : r = (dcs s i).r
  lo : 0 ≤ next
  hi : next ≤ 1048576
  len : out.length = i
  ok : bad = false → (dcs s i).wrong = false ∧ out = (dcs s i).out ∧ next = (dcs s i).at_
  no : bad = true → (dcs s i).wrong = true ∨ r.e ≠ 0
def xbad (i : Nat) (next m z : Int) : Prop := m < 0 ∨ m > 1048576 ∨ z < 1 ∨ z > 1048576 ∨ (m = 0 ∧ 0 < i) ∨ next + m + z > 1048576
instance (i : Nat) (next m z : Int) : Decidable (xbad i next m z) := inferInstanceAs (Decidable (m < 0 ∨ m > 1048576 ∨ z < 1 ∨ z > 1048576 ∨ (m = 0 ∧ 0 < i) ∨ next + m + z > 1048576))
theorem ri_zero (s : RdM.Bs) : RI s 0 0 false [] (cnt0 s).2 := ⟨rfl, Int.le_refl _, by simp, rfl, fun _ => ⟨rfl, rfl, rfl⟩, fun h => by simp at h⟩
section
variable {s : RdM.Bs} {i : Nat} {next : Int} {bad : Bool} {out : List Run} {r : RdM.Rd}
theorem ri_bad (h : RI s i next bad out r) (he : r.e = 0) (hb : xbad i next (RdM.rdN s r).1 (RdM.rdN s (RdM.rdN s r).2).1) {x : Run} : RI s (i + 1) next true (out ++ [x]) (RdM.rdN s (RdM.rdN s r).2).2 := by
  obtain ⟨p, hp⟩ : ∃ p, p = RdM.rdN s r := ⟨_, rfl⟩
  obtain ⟨q, hq⟩ : ∃ q, q = RdM.rdN s p.2 := ⟨_, rfl⟩
  have hd : dcs s (i + 1) = dstep s i (dcs s i) := dcs_succ s i
  unfold dstep at hd
  rw [← h.eqr, ← hp, ← hq] at hd
  rw [← hp, ← hq] at hb ⊢
  have hr : q.2 = (dcs s (i + 1)).r := by
    rw [hd]; split
    · rfl
    · split <;> rfl
  refine ⟨hr, h.lo, h.hi, by rw [List.length_append, h.len]; rfl, fun hh => by simp at hh, fun _ => ?_⟩
  by_cases h1 : q.2.e ≠ 0
  · exact .inr h1
  · refine .inl ?_
    rw [hd, if_neg h1]
    have hw : (dcs s i).wrong = true ∨ badC i (dcs s i).at_ p.1 q.1 := by
      cases hbb : bad with
      | true =>
        rcases h.no hbb with h2 | h2
        · exact .inl h2
        · exact absurd he h2
      | false =>
        obtain ⟨_, _, h4⟩ := h.ok hbb
        refine .inr ?_
        rw [← h4]
        have h5 := h.lo
        have h6 := h.hi
        unfold xbad at hb; unfold badC
        omega
    rw [if_pos hw]
theorem ri_ok (h : RI s i next bad out r) (he : r.e = 0) (hb : ¬ xbad i next (RdM.rdN s r).1 (RdM.rdN s (RdM.rdN s r).2).1) : RI s (i + 1) (next + (RdM.rdN s r).1 + (RdM.rdN s (RdM.rdN s r).2).1) bad (out ++ [(next + (RdM.rdN s r).1, next + (RdM.rdN s r).1 + (RdM.rdN s (RdM.rdN s r).2).1 - 1)]) (RdM.rdN s (RdM.rdN s r).2).2 := by
  have hz := rdN_zero (s := s) (r := (RdM.rdN s r).2)
  obtain ⟨p, hp⟩ : ∃ p, p = RdM.rdN s r := ⟨_, rfl⟩
  obtain ⟨q, hq⟩ : ∃ q, q = RdM.rdN s p.2 := ⟨_, rfl⟩
  have hd : dcs s (i + 1) = dstep s i (dcs s i) := dcs_succ s i
  unfold dstep at hd
  rw [← h.eqr, ← hp, ← hq] at hd
  rw [← hp, ← hq] at hb hz ⊢
  unfold xbad at hb
  have h5 := h.lo
  have h6 := h.hi
  have h1 : ¬ q.2.e ≠ 0 := fun hh => by have := hz hh; omega
  rw [if_neg h1] at hd
  have hr : q.2 = (dcs s (i + 1)).r := by
    rw [hd]; split <;> rfl
  refine ⟨hr, by omega, by omega, by rw [List.length_append, h.len]; rfl, fun hbb => ?_, fun hbb => ?_⟩
  · obtain ⟨h2, h3, h4⟩ := h.ok hbb
    have hn : ¬ ((dcs s i).wrong = true ∨ badC i (dcs s i).at_ p.1 q.1) := by
      rw [← h4]; unfold badC; rw [h2]; simp; omega
    rw [hd, if_neg hn]
    exact ⟨rfl, by rw [h3, h4], by rw [h4]; show _ = (dcs s i).at_ + (p.1 + q.1); omega⟩
  · refine .inl ?_
    rcases h.no hbb with h2 | h2
    · rw [hd, if_pos (.inl h2)]
    · exact absurd he h2
theorem ri_end (h : RI s i next bad out r) (hi : i ≤ (cnt0 s).1.toNat) (hn : ¬ ((i : Int) < (RdM.rdC s 1048576 ⟨0, 0⟩).1 ∧ r.e = 0)) : decB s = if RdM.endE s r ≠ 0 then ([], RdM.endE s r) else if bad = true then ([], 3) else (out, 0) := by
  have hd : dcs s (cnt0 s).1.toNat = dcs s i := by
    by_cases he : r.e = 0
    · rw [← cnt_eq (fun hh => hn ⟨hh, he⟩) hi]
    · exact dcs_err rfl (by rw [← h.eqr]; exact he) hi
  have h1 := decB_eq s (at_ := (dcs s i).at_) (wr := (dcs s i).wrong) (out := (dcs s i).out) (r := (dcs s i).r) hd
  rw [h1, ← h.eqr]
  by_cases h2 : RdM.endE s r ≠ 0
  · rw [if_pos h2, if_pos h2]
  · rw [if_neg h2, if_neg h2]
    have h3 : r.e = 0 := by
      apply Classical.byContradiction
      intro hh
      exact h2 (by unfold RdM.endE; rw [if_pos hh]; exact hh)
    cases hb : bad with
    | true =>
      rcases h.no hb with h4 | h4
      · rw [if_pos h4]; rfl
      · exact absurd h3 h4
    | false =>
      obtain ⟨h4, h5, _⟩ := h.ok hb
      rw [h4, ← h5]
end
set_option maxHeartbeats 2000000 in
set_option maxRecDepth 100000 in
theorem xdec_any {σ : World} {F : List Res} (lab : Nat) (s : RdM.Bs) (hs : s.length ≤ 1099511627776) :
    FnT Try.prog σ F 45 [.string (str s)] [] (fun u ρ => ∃ a c, u = .tuple #[.slice a (decB s).1.length c, .int .i64 (decB s).2] ∧ ρ = [(lab, slW 37 encRun 2 (.slice a (decB s).1.length c) (decB s).1)]) := by
  refine fn_of 82 Try.func45 rfl Try.ntmps45 rfl ?_
  have hcb := cnt0_bd s
  refine w_seq ?_
  refine w_region ?_
  refine wl_det rfl rfl rfl (op_assign rfl) ?_
  refine wl_det rfl rfl rfl (op_assign rfl) ?_
  refine wl_nil ?_
  refine st_tn ?_
  refine w_seq ?_
  refine w_region ?_
  refine wl_det rfl rfl rfl (op_move rfl) ?_
  refine wl_det rfl rfl rfl (op_build tB90de rfl rfl) ?_
  refine wl_op [] rfl rfl rfl rfl (op_alloc (l := 4) tN90de) ?_
  rintro _ _ ⟨b4, rfl, rfl⟩
  refine wl_op0 [4] rfl rfl rfl (op_store rfl rfl tZ90de (by rfl) (by rfl) (by exact Nat.le_of_ble_eq_true rfl)) ?_
  rintro _ _ ⟨rfl, rfl⟩
  refine wl_nil ?_
  refine st_tn ?_
  refine w_seq ?_
  refine w_region ?_
  refine wl_det rfl rfl rfl (op_assign rfl) ?_
  refine wl_nil ?_
  refine st_tn ?_
  refine w_seq ?_
  refine w_region ?_
  refine wl_op [4] rfl rfl rfl rfl (op_fn Try.func67 rfl rfl rfl (xcnt_l (s := s) 4 1048576 ⟨0, 0⟩ hs)) ?_
  rintro _ _ ⟨rfl, rfl⟩
  refine wl_det rfl rfl rfl (op_assign rfl) ?_
  refine wl_nil ?_
  refine st_tn ?_
  refine w_seq ?_
  refine w_region ?_
  refine wl_det rfl rfl rfl (op_assign rfl) ?_
  refine wl_det rfl rfl rfl (op_assign rfl) ?_
  refine wl_nil ?_
  refine st_tn ?_
  refine w_seq ?_
  refine w_seq ?_
  refine w_region ?_
  refine wl_det rfl rfl rfl (op_assign rfl) ?_
  refine wl_nil ?_
  refine st_tn ?_
  refine w_block ?_
  refine w_emp 5 (slO_nil 37 2) ?_
  refine w_loopQ (X := Int × Bool × Nat × List Run × Option Addr × Nat × RdM.Rd) (fun z => z.2.2.1 ≤ (cnt0 s).1.toNat ∧ RI s z.2.2.1 z.1 z.2.1 z.2.2.2.1 z.2.2.2.2.2.2) (fun z => [(7, .int .i64 (z.1)), (8, .bool (z.2.1)), (9, .int .i64 (z.2.2.1)), (5, .slice (z.2.2.2.2.1) (z.2.2.2.1).length (z.2.2.2.2.2.1))]) (fun z => [(5, slW 37 encRun 2 (.slice (z.2.2.2.2.1) (z.2.2.2.1).length (z.2.2.2.2.2.1)) (z.2.2.2.1)), (4, cel b4 (cellR s (z.2.2.2.2.2.2)) 90)]) (fun z => (cnt0 s).1.toNat - z.2.2.1) ((0, false, 0, [], none, 0, (cnt0 s).2)) [(4, _), (6, _)] [] [5, 4] rfl (rfl) (.cons rfl (.cons rfl (.cons rfl (.cons rfl (.nil _))))) (.cons rfl (.cons rfl (.nil _))) (by
      try dsimp only
      exact ⟨Nat.zero_le _, ri_zero s⟩) ?_
  rintro ⟨next, bad, i, out, a_out, c_out, r⟩ ⟨hi, hR⟩
  refine w_norm2 (by dsimp only [List.cons_append, List.nil_append]) (by dsimp only [List.cons_append, List.nil_append]) ?_
  try dsimp only at hi hR ⊢
  refine w_seq ?_
  refine w_seq ?_
  refine w_cutL [(23, .bool (decide ((i : Int) < (RdM.rdC s 1048576 ⟨0, 0⟩).1 ∧ r.e = 0)))] [4, 5, 6, 7, 8, 9] [5, 4] rfl (fun K' hK => ?_) ?_
  · -- cut r6
    refine w_region ?_
    refine wl_det rfl rfl rfl (op_move rfl) ?_
    refine wl_det rfl rfl rfl (op_move rfl) ?_
    refine wl_det rfl rfl rfl (op_lss rfl rfl) ?_
    refine wl_det rfl rfl rfl (op_move rfl) ?_
    refine wl_gsplit (t := 19) rfl (fun hg19 => ?_) (fun hg19 => ?_)
    · -- 19 is True
      refine wl_wanted_det rfl rfl rfl rfl rfl rfl rfl (op_fieldAddr (off := 2) rfl tF90_2de) ?_
      refine wl_wanted_det rfl rfl rfl rfl rfl rfl rfl (op_load1 rfl tO27de (Ent.lab (l := 4) rfl (says_cel 2))) ?_
      refine wl_wanted_det rfl rfl rfl rfl rfl rfl rfl (op_eql rfl rfl) ?_
      refine wl_det rfl rfl rfl (op_pick_t rfl rfl) ?_
      refine wl_nil ?_
      refine st_tn ?_
      exact cut_done1 [5, 4] hK rfl (by first | (rw [decide_eq_decide]; omega) | (symm; rw [decide_eq_false_iff_not]; omega) | (symm; rw [decide_eq_true_iff]; omega) | (simp; done) | (simp; omega) | (simp [*]; done) | (simp [*]; omega)) (by rfl) rfl rfl
    · -- 19 is False
      refine wl_unwanted rfl rfl rfl rfl rfl rfl rfl rfl ?_
      refine wl_unwanted rfl rfl rfl rfl rfl rfl rfl rfl ?_
      refine wl_unwanted rfl rfl rfl rfl rfl rfl rfl rfl ?_
      refine wl_det rfl rfl rfl (op_pick_f rfl rfl) ?_
      refine wl_nil ?_
      refine st_tn ?_
      exact cut_done1 [5, 4] hK rfl (by first | (rw [decide_eq_decide]; omega) | (symm; rw [decide_eq_false_iff_not]; omega) | (symm; rw [decide_eq_true_iff]; omega) | (simp; done) | (simp; omega) | (simp [*]; done) | (simp [*]; omega)) (by rfl) rfl rfl
  · -- behind r6
    show W _ _ _ _ _ [(23, _), (4, _), (5, _), (6, _), (7, _), (8, _), (9, _)] [(5, _), (4, _)] _
    refine w_cond_d rfl (fun hc23 => ?_) (fun hc23 => ?_)
    · -- c23.t
      have hil : i < (cnt0 s).1.toNat := cnt_lt hc23.1
      have hlo := hR.lo
      have hhi := hR.hi
      have hln := hR.len
      have hre := hc23.2
      refine w_skip ?_
      refine st_tn ?_
      refine w_seq ?_
      refine w_block ?_
      refine w_seq ?_
      refine w_region ?_
      refine wl_op [4] rfl rfl rfl rfl (op_fn Try.func68 rfl rfl rfl (xrd_l 4 r hs)) ?_
      rintro _ _ ⟨rfl, rfl⟩
      refine wl_op [4] rfl rfl rfl rfl (op_fn Try.func68 rfl rfl rfl (xrd_l 4 (RdM.rdN s r).2 hs)) ?_
      rintro _ _ ⟨rfl, rfl⟩
      refine wl_det rfl rfl rfl (op_assign rfl) ?_
      refine wl_det rfl rfl rfl (op_assign rfl) ?_
      refine wl_nil ?_
      refine st_tn ?_
      refine w_seq ?_
      refine w_seq ?_
      refine w_cutL [(57, .bool (decide (xbad i next (RdM.rdN s r).1 (RdM.rdN s (RdM.rdN s r).2).1)))] [4, 5, 6, 7, 8, 9, 10, 11] [5, 4] rfl (fun K' hK => ?_) ?_
      · -- cut r9
        refine w_region ?_
        refine wl_det rfl rfl rfl (op_move rfl) ?_
        refine wl_det rfl rfl rfl (op_lss rfl rfl) ?_
        refine wl_det rfl rfl rfl (op_move rfl) ?_
        refine wl_gsplit (t := 30) rfl (fun hg30 => ?_) (fun hg30 => ?_)
        · -- 30 is True
          refine wl_unwanted rfl rfl rfl rfl rfl rfl rfl rfl ?_
          refine wl_unwanted rfl rfl rfl rfl rfl rfl rfl rfl ?_
          refine wl_det rfl rfl rfl (op_pick_t rfl rfl) ?_
          refine wl_det rfl rfl rfl (op_move rfl) ?_
          refine wl_unwanted rfl rfl rfl rfl rfl rfl rfl rfl ?_
          refine wl_unwanted rfl rfl rfl rfl rfl rfl rfl rfl ?_
          refine wl_det rfl rfl rfl (op_pick_t rfl rfl) ?_
          refine wl_det rfl rfl rfl (op_move rfl) ?_
          refine wl_unwanted rfl rfl rfl rfl rfl rfl rfl rfl ?_
          refine wl_unwanted rfl rfl rfl rfl rfl rfl rfl rfl ?_
          refine wl_det rfl rfl rfl (op_pick_t rfl rfl) ?_
          refine wl_det rfl rfl rfl (op_move rfl) ?_
          refine wl_unwanted rfl rfl rfl rfl rfl rfl rfl rfl ?_
          refine wl_unwanted rfl rfl rfl rfl rfl rfl rfl rfl ?_
          refine wl_unwanted rfl rfl rfl rfl rfl rfl rfl rfl ?_
          refine wl_unwantedU rfl rfl rfl rfl rfl rfl rfl ?_
          refine wl_unwantedU rfl rfl rfl rfl rfl rfl rfl ?_
          refine wl_unwanted rfl rfl rfl rfl rfl rfl rfl rfl ?_
          refine wl_det rfl rfl rfl (op_pick_t rfl rfl) ?_
          refine wl_det rfl rfl rfl (op_move rfl) ?_
          refine wl_unwanted rfl rfl rfl rfl rfl rfl rfl rfl ?_
          refine wl_unwanted rfl rfl rfl rfl rfl rfl rfl rfl ?_
          refine wl_unwanted rfl rfl rfl rfl rfl rfl rfl rfl ?_
          refine wl_unwanted rfl rfl rfl rfl rfl rfl rfl rfl ?_
          refine wl_unwanted rfl rfl rfl rfl rfl rfl rfl rfl ?_
          refine wl_unwanted rfl rfl rfl rfl rfl rfl rfl rfl ?_
          refine wl_det rfl rfl rfl (op_pick_t rfl rfl) ?_
          refine wl_nil ?_
          refine st_tn ?_
          exact cut_done1 [5, 4] hK rfl (by unfold xbad; first | (simp [*]; done) | (simp [*]; omega)) (agc rfl rfl (agc rfl rfl (agc rfl rfl (agc rfl rfl (agc rfl rfl (agc rfl rfl (agc rfl rfl (agc rfl rfl agn)))))))) rfl rfl
        · -- 30 is False
          refine wl_wanted_det rfl rfl rfl rfl rfl rfl rfl (op_move rfl) ?_
          refine wl_wanted_det rfl rfl rfl rfl rfl rfl rfl (op_gtr rfl rfl) ?_
          refine wl_det rfl rfl rfl (op_pick_f rfl rfl) ?_
          refine wl_det rfl rfl rfl (op_move rfl) ?_
          refine wl_gsplit (t := 34) rfl (fun hg34 => ?_) (fun hg34 => ?_)
          · -- 34 is True
            refine wl_unwanted rfl rfl rfl rfl rfl rfl rfl rfl ?_
            refine wl_unwanted rfl rfl rfl rfl rfl rfl rfl rfl ?_
            refine wl_det rfl rfl rfl (op_pick_t rfl rfl) ?_
            refine wl_det rfl rfl rfl (op_move rfl) ?_
            refine wl_unwanted rfl rfl rfl rfl rfl rfl rfl rfl ?_
            refine wl_unwanted rfl rfl rfl rfl rfl rfl rfl rfl ?_
            refine wl_det rfl rfl rfl (op_pick_t rfl rfl) ?_
            refine wl_det rfl rfl rfl (op_move rfl) ?_
            refine wl_unwanted rfl rfl rfl rfl rfl rfl rfl rfl ?_
            refine wl_unwanted rfl rfl rfl rfl rfl rfl rfl rfl ?_
            refine wl_unwanted rfl rfl rfl rfl rfl rfl rfl rfl ?_
            refine wl_unwantedU rfl rfl rfl rfl rfl rfl rfl ?_
            refine wl_unwantedU rfl rfl rfl rfl rfl rfl rfl ?_
            refine wl_unwanted rfl rfl rfl rfl rfl rfl rfl rfl ?_
            refine wl_det rfl rfl rfl (op_pick_t rfl rfl) ?_
            refine wl_det rfl rfl rfl (op_move rfl) ?_
            refine wl_unwanted rfl rfl rfl rfl rfl rfl rfl rfl ?_
            refine wl_unwanted rfl rfl rfl rfl rfl rfl rfl rfl ?_
            refine wl_unwanted rfl rfl rfl rfl rfl rfl rfl rfl ?_
            refine wl_unwanted rfl rfl rfl rfl rfl rfl rfl rfl ?_
            refine wl_unwanted rfl rfl rfl rfl rfl rfl rfl rfl ?_
            refine wl_unwanted rfl rfl rfl rfl rfl rfl rfl rfl ?_
            refine wl_det rfl rfl rfl (op_pick_t rfl rfl) ?_
            refine wl_nil ?_
            refine st_tn ?_
            exact cut_done1 [5, 4] hK rfl (by unfold xbad; first | (simp [*]; done) | (simp [*]; omega)) (agc rfl rfl (agc rfl rfl (agc rfl rfl (agc rfl rfl (agc rfl rfl (agc rfl rfl (agc rfl rfl (agc rfl rfl agn)))))))) rfl rfl
          · -- 34 is False
            refine wl_wanted_det rfl rfl rfl rfl rfl rfl rfl (op_move rfl) ?_
            refine wl_wanted_det rfl rfl rfl rfl rfl rfl rfl (op_lss rfl rfl) ?_
            refine wl_det rfl rfl rfl (op_pick_f rfl rfl) ?_
            refine wl_det rfl rfl rfl (op_move rfl) ?_
            refine wl_gsplit (t := 38) rfl (fun hg38 => ?_) (fun hg38 => ?_)
            · -- 38 is True
              refine wl_unwanted rfl rfl rfl rfl rfl rfl rfl rfl ?_
              refine wl_unwanted rfl rfl rfl rfl rfl rfl rfl rfl ?_
              refine wl_det rfl rfl rfl (op_pick_t rfl rfl) ?_
              refine wl_det rfl rfl rfl (op_move rfl) ?_
              refine wl_unwanted rfl rfl rfl rfl rfl rfl rfl rfl ?_
              refine wl_unwanted rfl rfl rfl rfl rfl rfl rfl rfl ?_
              refine wl_unwanted rfl rfl rfl rfl rfl rfl rfl rfl ?_
              refine wl_unwantedU rfl rfl rfl rfl rfl rfl rfl ?_
              refine wl_unwantedU rfl rfl rfl rfl rfl rfl rfl ?_
              refine wl_unwanted rfl rfl rfl rfl rfl rfl rfl rfl ?_
              refine wl_det rfl rfl rfl (op_pick_t rfl rfl) ?_
              refine wl_det rfl rfl rfl (op_move rfl) ?_
              refine wl_unwanted rfl rfl rfl rfl rfl rfl rfl rfl ?_
              refine wl_unwanted rfl rfl rfl rfl rfl rfl rfl rfl ?_
              refine wl_unwanted rfl rfl rfl rfl rfl rfl rfl rfl ?_
              refine wl_unwanted rfl rfl rfl rfl rfl rfl rfl rfl ?_
              refine wl_unwanted rfl rfl rfl rfl rfl rfl rfl rfl ?_
              refine wl_unwanted rfl rfl rfl rfl rfl rfl rfl rfl ?_
              refine wl_det rfl rfl rfl (op_pick_t rfl rfl) ?_
              refine wl_nil ?_
              refine st_tn ?_
              exact cut_done1 [5, 4] hK rfl (by unfold xbad; first | (simp [*]; done) | (simp [*]; omega)) (agc rfl rfl (agc rfl rfl (agc rfl rfl (agc rfl rfl (agc rfl rfl (agc rfl rfl (agc rfl rfl (agc rfl rfl agn)))))))) rfl rfl
            · -- 38 is False
              refine wl_wanted_det rfl rfl rfl rfl rfl rfl rfl (op_move rfl) ?_
              refine wl_wanted_det rfl rfl rfl rfl rfl rfl rfl (op_gtr rfl rfl) ?_
              refine wl_det rfl rfl rfl (op_pick_f rfl rfl) ?_
              refine wl_det rfl rfl rfl (op_move rfl) ?_
              refine wl_gsplit (t := 42) rfl (fun hg42 => ?_) (fun hg42 => ?_)
              · -- 42 is True
                refine wl_unwanted rfl rfl rfl rfl rfl rfl rfl rfl ?_
                refine wl_unwanted rfl rfl rfl rfl rfl rfl rfl rfl ?_
                refine wl_unwanted rfl rfl rfl rfl rfl rfl rfl rfl ?_
                refine wl_unwantedU rfl rfl rfl rfl rfl rfl rfl ?_
                refine wl_unwantedU rfl rfl rfl rfl rfl rfl rfl ?_
                refine wl_unwanted rfl rfl rfl rfl rfl rfl rfl rfl ?_
                refine wl_det rfl rfl rfl (op_pick_t rfl rfl) ?_
                refine wl_det rfl rfl rfl (op_move rfl) ?_
                refine wl_unwanted rfl rfl rfl rfl rfl rfl rfl rfl ?_
                refine wl_unwanted rfl rfl rfl rfl rfl rfl rfl rfl ?_
                refine wl_unwanted rfl rfl rfl rfl rfl rfl rfl rfl ?_
                refine wl_unwanted rfl rfl rfl rfl rfl rfl rfl rfl ?_
                refine wl_unwanted rfl rfl rfl rfl rfl rfl rfl rfl ?_
                refine wl_unwanted rfl rfl rfl rfl rfl rfl rfl rfl ?_
                refine wl_det rfl rfl rfl (op_pick_t rfl rfl) ?_
                refine wl_nil ?_
                refine st_tn ?_
                exact cut_done1 [5, 4] hK rfl (by unfold xbad; first | (simp [*]; done) | (simp [*]; omega)) (agc rfl rfl (agc rfl rfl (agc rfl rfl (agc rfl rfl (agc rfl rfl (agc rfl rfl (agc rfl rfl (agc rfl rfl agn)))))))) rfl rfl
              · -- 42 is False
                refine wl_wanted_det rfl rfl rfl rfl rfl rfl rfl (op_move rfl) ?_
                refine wl_wanted_det rfl rfl rfl rfl rfl rfl rfl (op_eql rfl rfl) ?_
                refine wl_wanted_det rfl rfl rfl rfl rfl rfl rfl (op_move rfl) ?_
                refine wl_gsplit (t := 45) rfl (fun hg45 => ?_) (fun hg45 => ?_)
                · -- 45 is True
                  refine wl_wanted_det rfl rfl rfl rfl rfl rfl rfl (op_move rfl) ?_
                  refine wl_wanted_det rfl rfl rfl rfl rfl rfl rfl (op_gtr rfl rfl) ?_
                  refine wl_wanted_det rfl rfl rfl rfl rfl rfl rfl (op_pick_t rfl rfl) ?_
                  refine wl_det rfl rfl rfl (op_pick_f rfl rfl) ?_
                  refine wl_det rfl rfl rfl (op_move rfl) ?_
                  refine wl_gsplit (t := 50) rfl (fun hg50 => ?_) (fun hg50 => ?_)
                  · -- 50 is True
                    refine wl_unwanted rfl rfl rfl rfl rfl rfl rfl rfl ?_
                    refine wl_unwanted rfl rfl rfl rfl rfl rfl rfl rfl ?_
                    refine wl_unwanted rfl rfl rfl rfl rfl rfl rfl rfl ?_
                    refine wl_unwanted rfl rfl rfl rfl rfl rfl rfl rfl ?_
                    refine wl_unwanted rfl rfl rfl rfl rfl rfl rfl rfl ?_
                    refine wl_unwanted rfl rfl rfl rfl rfl rfl rfl rfl ?_
                    refine wl_det rfl rfl rfl (op_pick_t rfl rfl) ?_
                    refine wl_nil ?_
                    refine st_tn ?_
                    exact cut_done1 [5, 4] hK rfl (by unfold xbad; first | (simp [*]; done) | (simp [*]; omega)) (agc rfl rfl (agc rfl rfl (agc rfl rfl (agc rfl rfl (agc rfl rfl (agc rfl rfl (agc rfl rfl (agc rfl rfl agn)))))))) rfl rfl
                  · -- 50 is False
                    refine wl_wanted_det rfl rfl rfl rfl rfl rfl rfl (op_move rfl) ?_
                    refine wl_wanted_det rfl rfl rfl rfl rfl rfl rfl (op_move rfl) ?_
                    refine wl_wanted_det rfl rfl rfl rfl rfl rfl rfl (op_add' rfl rfl (by omega)) ?_
                    refine wl_wanted_det rfl rfl rfl rfl rfl rfl rfl (op_move rfl) ?_
                    refine wl_wanted_det rfl rfl rfl rfl rfl rfl rfl (op_add' rfl rfl (by omega)) ?_
                    refine wl_wanted_det rfl rfl rfl rfl rfl rfl rfl (op_gtr rfl rfl) ?_
                    refine wl_det rfl rfl rfl (op_pick_f rfl rfl) ?_
                    refine wl_nil ?_
                    refine st_tn ?_
                    exact cut_done1 [5, 4] hK rfl (by unfold xbad; first | (simp [*]; done) | (simp [*]; omega)) (agc rfl rfl (agc rfl rfl (agc rfl rfl (agc rfl rfl (agc rfl rfl (agc rfl rfl (agc rfl rfl (agc rfl rfl agn)))))))) rfl rfl
                · -- 45 is False
                  refine wl_unwanted rfl rfl rfl rfl rfl rfl rfl rfl ?_
                  refine wl_unwanted rfl rfl rfl rfl rfl rfl rfl rfl ?_
                  refine wl_wanted_det rfl rfl rfl rfl rfl rfl rfl (op_pick_f rfl rfl) ?_
                  refine wl_det rfl rfl rfl (op_pick_f rfl rfl) ?_
                  refine wl_det rfl rfl rfl (op_move rfl) ?_
                  refine wl_wanted_det rfl rfl rfl rfl rfl rfl rfl (op_move rfl) ?_
                  refine wl_wanted_det rfl rfl rfl rfl rfl rfl rfl (op_move rfl) ?_
                  refine wl_wanted_det rfl rfl rfl rfl rfl rfl rfl (op_add' rfl rfl (by omega)) ?_
                  refine wl_wanted_det rfl rfl rfl rfl rfl rfl rfl (op_move rfl) ?_
                  refine wl_wanted_det rfl rfl rfl rfl rfl rfl rfl (op_add' rfl rfl (by omega)) ?_
                  refine wl_wanted_det rfl rfl rfl rfl rfl rfl rfl (op_gtr rfl rfl) ?_
                  refine wl_det rfl rfl rfl (op_pick_f rfl rfl) ?_
                  refine wl_nil ?_
                  refine st_tn ?_
                  exact cut_done1 [5, 4] hK rfl (by unfold xbad; first | (simp [*]; done) | (simp [*]; omega)) (agc rfl rfl (agc rfl rfl (agc rfl rfl (agc rfl rfl (agc rfl rfl (agc rfl rfl (agc rfl rfl (agc rfl rfl agn)))))))) rfl rfl
      · -- behind r9
        show W _ _ _ _ _ [(57, _), (4, _), (5, _), (6, _), (7, _), (8, _), (9, _), (10, _), (11, _)] [(5, _), (4, _)] _
        refine w_cond_d rfl (fun hc57 => ?_) (fun hc57 => ?_)
        · -- c57.t
          have hRb := ri_bad hR hre hc57 (x := (next + 0, next + 0 + 0 - 1))
          refine w_seq ?_
          refine w_region ?_
          refine wl_det rfl rfl rfl (op_assign rfl) ?_
          refine wl_nil ?_
          refine st_tn ?_
          refine w_region ?_
          refine wl_det rfl rfl rfl (op_assign rfl) ?_
          refine wl_det rfl rfl rfl (op_assign rfl) ?_
          refine wl_nil ?_
          refine st_tn ?_
          refine w_seq ?_
          refine w_region ?_
          refine wl_det rfl rfl rfl (op_move rfl) ?_
          refine wl_det rfl rfl rfl (op_move rfl) ?_
          refine wl_det rfl rfl rfl (op_move rfl) ?_
          refine wl_det rfl rfl rfl (op_add' rfl rfl (by omega)) ?_
          refine wl_det rfl rfl rfl (op_move rfl) ?_
          refine wl_det rfl rfl rfl (op_move rfl) ?_
          refine wl_det rfl rfl rfl (op_add' rfl rfl (by omega)) ?_
          refine wl_det rfl rfl rfl (op_move rfl) ?_
          refine wl_det rfl rfl rfl (op_add' rfl rfl (by omega)) ?_
          refine wl_det rfl rfl rfl (op_sub' rfl rfl (by omega)) ?_
          refine wl_det rfl rfl rfl (op_buildArr tC37de rfl rfl) ?_
          refine wl_op [] rfl rfl rfl rfl (op_buildSlice (enc := encRun) (l := [(next + 0, next + 0 + 0 - 1)]) (lab := 69) tL38_1de rfl rfl (fun _ => rfl) rfl) ?_
          rintro _ _ ⟨a69, c69, rfl, rfl⟩
          refine wl_op [5] rfl rfl rfl rfl (op_append (lab := 5) (lab' := 70) rfl rfl tP38de enc1Run (Sl.lab 69 rfl (by simp [maxLen])) (by first | omega | (simp; done) | (simp; omega) | (simp [*]; omega)) (by first | omega | (simp; done) | (simp; omega) | (simp [*]; omega))) ?_
          rintro _ _ ⟨a70, c70, rfl, rfl⟩
          refine wl_det rfl rfl rfl (op_assign rfl) ?_
          refine wl_nil ?_
          refine st_tn ?_
          refine w_region ?_
          refine wl_det rfl rfl rfl (op_move rfl) ?_
          refine wl_det rfl rfl rfl (op_move rfl) ?_
          refine wl_det rfl rfl rfl (op_add' rfl rfl (by omega)) ?_
          refine wl_det rfl rfl rfl (op_move rfl) ?_
          refine wl_det rfl rfl rfl (op_add' rfl rfl (by omega)) ?_
          refine wl_det rfl rfl rfl (op_assign rfl) ?_
          refine wl_nil ?_
          refine st_bn ?_
          refine st_tn ?_
          refine w_region ?_
          refine wl_det rfl rfl rfl (op_move rfl) ?_
          refine wl_det rfl rfl rfl (op_add' rfl rfl (by omega)) ?_
          refine wl_det rfl rfl rfl (op_assign rfl) ?_
          refine wl_nil ?_
          refine st_roundQ (x := (next, bad, i, out, a_out, c_out, r)) ((_, _, i + 1, _, _, _, _)) [70, 4] rfl (rfl) (.cons rfl (.cons rfl (.cons rfl (.cons rfl (.nil _))))) (.cons rfl (.cons rfl (.nil _))) (by
              try dsimp only
              exact ⟨by omega, by simpa using hRb⟩) (by
              try dsimp only
              omega) 
        · -- c57.f
          have hRo := ri_ok hR hre hc57
          unfold xbad at hc57
          refine w_skip ?_
          refine st_tn ?_
          refine w_seq ?_
          refine w_region ?_
          refine wl_det rfl rfl rfl (op_move rfl) ?_
          refine wl_det rfl rfl rfl (op_move rfl) ?_
          refine wl_det rfl rfl rfl (op_move rfl) ?_
          refine wl_det rfl rfl rfl (op_add' rfl rfl (by omega)) ?_
          refine wl_det rfl rfl rfl (op_move rfl) ?_
          refine wl_det rfl rfl rfl (op_move rfl) ?_
          refine wl_det rfl rfl rfl (op_add' rfl rfl (by omega)) ?_
          refine wl_det rfl rfl rfl (op_move rfl) ?_
          refine wl_det rfl rfl rfl (op_add' rfl rfl (by omega)) ?_
          refine wl_det rfl rfl rfl (op_sub' rfl rfl (by omega)) ?_
          refine wl_det rfl rfl rfl (op_buildArr tC37de rfl rfl) ?_
          refine wl_op [] rfl rfl rfl rfl (op_buildSlice (enc := encRun) (l := [(next + (RdM.rdN s r).1, next + (RdM.rdN s r).1 + (RdM.rdN s (RdM.rdN s r).2).1 - 1)]) (lab := 69) tL38_1de rfl rfl (fun _ => rfl) rfl) ?_
          rintro _ _ ⟨a69, c69, rfl, rfl⟩
          refine wl_op [5] rfl rfl rfl rfl (op_append (lab := 5) (lab' := 70) rfl rfl tP38de enc1Run (Sl.lab 69 rfl (by simp [maxLen])) (by first | omega | (simp; done) | (simp; omega) | (simp [*]; omega)) (by first | omega | (simp; done) | (simp; omega) | (simp [*]; omega))) ?_
          rintro _ _ ⟨a70, c70, rfl, rfl⟩
          refine wl_det rfl rfl rfl (op_assign rfl) ?_
          refine wl_nil ?_
          refine st_tn ?_
          refine w_region ?_
          refine wl_det rfl rfl rfl (op_move rfl) ?_
          refine wl_det rfl rfl rfl (op_move rfl) ?_
          refine wl_det rfl rfl rfl (op_add' rfl rfl (by omega)) ?_
          refine wl_det rfl rfl rfl (op_move rfl) ?_
          refine wl_det rfl rfl rfl (op_add' rfl rfl (by omega)) ?_
          refine wl_det rfl rfl rfl (op_assign rfl) ?_
          refine wl_nil ?_
          refine st_bn ?_
          refine st_tn ?_
          refine w_region ?_
          refine wl_det rfl rfl rfl (op_move rfl) ?_
          refine wl_det rfl rfl rfl (op_add' rfl rfl (by omega)) ?_
          refine wl_det rfl rfl rfl (op_assign rfl) ?_
          refine wl_nil ?_
          refine st_roundQ (x := (next, bad, i, out, a_out, c_out, r)) ((_, _, i + 1, _, _, _, _)) [70, 4] rfl (rfl) (.cons rfl (.cons rfl (.cons rfl (.cons rfl (.nil _))))) (.cons rfl (.cons rfl (.nil _))) (by
              try dsimp only
              exact ⟨by omega, hRo⟩) (by
              try dsimp only
              omega) 
    · -- c23.f
      have hdec := ri_end hR hi hc23
      refine w_exit ?_
      refine st_te ?_
      refine st_te ?_
      refine st_be ?_
      refine st_tn ?_
      refine w_seq ?_
      refine w_seq ?_
      refine w_region ?_
      refine wl_det rfl rfl rfl (op_fn Try.func69 rfl rfl rfl (xend_any (celR 4 rfl))) ?_
      refine wl_det rfl rfl rfl (op_assign rfl) ?_
      refine wl_nil ?_
      refine st_tn ?_
      refine w_seq ?_
      refine w_region ?_
      refine wl_det rfl rfl rfl (op_move rfl) ?_
      refine wl_det rfl rfl rfl (op_neq rfl rfl) ?_
      refine wl_nil ?_
      refine st_tn ?_
      refine w_cond_d rfl (fun hc78 => ?_) (fun hc78 => ?_)
      · -- c78.t
        refine w_seq ?_
        refine w_region ?_
        refine wl_det rfl rfl rfl (op_move rfl) ?_
        refine wl_det rfl rfl rfl (op_assign rfl) ?_
        refine wl_det rfl rfl rfl (op_assign rfl) ?_
        refine wl_nil ?_
        refine st_tn ?_
        refine w_emp 77 (slO_nil 37 2) ?_
        refine w_ret ?_
        refine st_tr ?_
        refine st_ret (vs := [_, _]) [77] Try.results45 ⟨rfl, ⟨rfl, trivial⟩⟩ rfl ?_
        refine ⟨[(lab, _)], rfl, ?_⟩
        rw [hdec, if_pos (by assumption)]; exact ⟨none, 0, rfl, rfl⟩
      · -- c78.f
        refine w_skip ?_
        refine st_tn ?_
        refine w_seq ?_
        refine w_seq ?_
        refine w_region ?_
        refine wl_det rfl rfl rfl (op_move rfl) ?_
        refine wl_nil ?_
        refine st_tn ?_
        refine w_cond rfl (fun hc80 => ?_) (fun hc80 => ?_)
        · -- c80.t
          refine w_seq ?_
          refine w_region ?_
          refine wl_det rfl rfl rfl (op_assign rfl) ?_
          refine wl_det rfl rfl rfl (op_assign rfl) ?_
          refine wl_nil ?_
          refine st_tn ?_
          refine w_emp 77 (slO_nil 37 2) ?_
          refine w_ret ?_
          refine st_tr ?_
          refine st_ret (vs := [_, _]) [77] Try.results45 ⟨rfl, ⟨rfl, trivial⟩⟩ rfl ?_
          refine ⟨[(lab, _)], rfl, ?_⟩
          rw [hdec, if_neg (by assumption), if_pos (by simpa using hc80)]; exact ⟨none, 0, rfl, rfl⟩
        · -- c80.f
          refine w_skip ?_
          refine st_tn ?_
          refine w_seq ?_
          refine w_region ?_
          refine wl_det rfl rfl rfl (op_move rfl) ?_
          refine wl_det rfl rfl rfl (op_assign rfl) ?_
          refine wl_det rfl rfl rfl (op_assign rfl) ?_
          refine wl_nil ?_
          refine st_tn ?_
          refine w_ret ?_
          refine st_ret (vs := [_, _]) [5] Try.results45 ⟨rfl, ⟨rfl, trivial⟩⟩ rfl ?_
          refine ⟨[(lab, _)], rfl, ?_⟩
          rw [hdec, if_neg (by assumption), if_neg (by simpa using hc80)]; exact ⟨_, _, rfl, rfl⟩

end Go.Proofs.Ytkknlfhncheflaa
namespace Go.Proofs.Ytkknlfhncheflaa
open Go Go.SL Go.RowKit Go.BitM
set_option linter.unusedVariables false
set_option linter.unusedSimpArgs false
theorem tA26df : aggB Try.prog 26 1 = true := by kernel_rfl
theorem tN26df : (Try.prog.info? 26).bind (·.zero) = some (Value.agg #[Value.slice none 0 0]) := by kernel_rfl
theorem tZ26df : (Try.prog.info? 26).map (·.size) = some 1 := by kernel_rfl

-- ENCT encU UInt8
set_option maxHeartbeats 2000000 in
set_option maxRecDepth 100000 in
theorem lawDecodes_any {σ : World} {F : List Res} (s : RdM.Bs) :
    FnT Try.prog σ F 11 [.string (str s)] [] (fun u ρ => u = .bool true ∧ ρ = []) := by
  refine fn_of 43 Try.func11 rfl Try.ntmps11 rfl ?_
  obtain ⟨hwf, hin⟩ := decB_ok s
  have hln := (wf_len hwf hin).2
  have hen := decB_enc (s := s)
  refine w_seq ?_
  refine w_region ?_
  refine wl_det rfl rfl rfl (op_assign rfl) ?_
  refine wl_nil ?_
  refine st_tn ?_
  refine w_seq ?_
  refine w_seq ?_
  refine w_region ?_
  refine wl_det rfl rfl rfl (op_fn Try.func13 rfl rfl rfl (known_any)) ?_
  refine wl_det rfl rfl rfl (op_not_t rfl) ?_
  refine wl_det rfl rfl rfl (op_move rfl) ?_
  refine wl_wanted_det rfl rfl rfl rfl rfl rfl rfl (op_move rfl) ?_
  refine wl_wanted_det rfl rfl rfl rfl rfl rfl rfl (op_lenBs rfl Try.underlying9) ?_
  refine wl_wanted_det rfl rfl rfl rfl rfl rfl rfl (op_gtr rfl rfl) ?_
  refine wl_det rfl rfl rfl (op_pick_f rfl rfl) ?_
  refine wl_nil ?_
  refine st_tn ?_
  refine w_cond_d rfl (fun hc13 => ?_) (fun hc13 => ?_)
  · -- c13.t
    refine w_seq ?_
    refine w_region ?_
    refine wl_det rfl rfl rfl (op_fn Try.func13 rfl rfl rfl (known_any)) ?_
    refine wl_det rfl rfl rfl (op_assign rfl) ?_
    refine wl_nil ?_
    refine st_tn ?_
    refine w_ret ?_
    refine st_tr ?_
    refine st_ret (vs := [_]) [] Try.results11 ⟨rfl, trivial⟩ rfl ?_
    refine ⟨_, rfl, ?_⟩
    exact ⟨rfl, rfl⟩
  · -- c13.f
    have hs : s.length ≤ 1099511627776 := by omega
    refine w_skip ?_
    refine st_tn ?_
    refine w_seq ?_
    refine w_region ?_
    refine wl_det rfl rfl rfl (op_move rfl) ?_
    refine wl_op [] rfl rfl rfl rfl (op_fn Try.func44 rfl rfl rfl (dec_any 17 s hs)) ?_
    rintro _ _ ⟨a17, c17, rfl, rfl⟩
    refine wl_det rfl rfl rfl (op_move rfl) ?_
    refine wl_det rfl rfl rfl (op_extract rfl rfl) ?_
    refine wl_det rfl rfl rfl (op_extract rfl rfl) ?_
    refine wl_op [] rfl rfl rfl rfl (op_alloc (l := 3) tN26df) ?_
    rintro _ _ ⟨b3, rfl, rfl⟩
    refine wl_op0 [3] rfl rfl rfl (op_store rfl rfl tZ26df (by rfl) (by rfl) (by exact Nat.le_of_ble_eq_true rfl)) ?_
    rintro _ _ ⟨rfl, rfl⟩
    refine wl_det rfl rfl rfl (op_assign rfl) ?_
    refine wl_nil ?_
    refine st_tn ?_
    refine w_seq ?_
    refine w_region ?_
    refine wl_det rfl rfl rfl (op_move rfl) ?_
    refine wl_op [] rfl rfl rfl rfl (op_fn Try.func45 rfl rfl rfl (xdec_any 22 s hs)) ?_
    rintro _ _ ⟨a22, c22, rfl, rfl⟩
    refine wl_det rfl rfl rfl (op_move rfl) ?_
    refine wl_det rfl rfl rfl (op_extract rfl rfl) ?_
    refine wl_det rfl rfl rfl (op_extract rfl rfl) ?_
    refine wl_det rfl rfl rfl (op_assign rfl) ?_
    refine wl_det rfl rfl rfl (op_assign rfl) ?_
    refine wl_nil ?_
    refine st_tn ?_
    refine w_seq ?_
    refine w_region ?_
    refine wl_det rfl rfl rfl (op_move rfl) ?_
    refine wl_det rfl rfl rfl (op_move rfl) ?_
    refine wl_det rfl rfl rfl (op_val (v' := .bool true) (by simp) (op_eql rfl rfl)) ?_
    refine wl_det rfl rfl rfl (op_move rfl) ?_
    refine wl_wanted_det rfl rfl rfl rfl rfl rfl rfl (op_loadA rfl tA26df (Ent.lab (l := 3) rfl (says_cel 0)) (Nat.le_of_ble_eq_true rfl)) ?_
    refine wl_wanted_det rfl rfl rfl rfl rfl rfl rfl (op_move rfl) ?_
    refine wl_wanted_det rfl rfl rfl rfl rfl rfl rfl (op_val (v' := .bool true) (by simp) (op_fn Try.func21 rfl rfl rfl (runs_eq (Sl.lab 17 rfl (by unfold maxLen; omega)) (Sl.lab 22 rfl (by unfold maxLen; omega)) (by omega)))) ?_
    refine wl_det rfl rfl rfl (op_pick_t rfl rfl) ?_
    refine wl_det rfl rfl rfl (op_move rfl) ?_
    refine wl_wanted_det rfl rfl rfl rfl rfl rfl rfl (op_move rfl) ?_
    refine wl_wanted_det rfl rfl rfl rfl rfl rfl rfl (op_neq rfl rfl) ?_
    refine wl_wanted_det rfl rfl rfl rfl rfl rfl rfl (op_move rfl) ?_
    refine wl_gsplit (t := 36) rfl (fun hg36 => ?_) (fun hg36 => ?_)
    · -- 36 is True
      refine wl_unwanted rfl rfl rfl rfl rfl rfl rfl rfl ?_
      refine wl_unwanted rfl rfl rfl rfl rfl rfl rfl rfl ?_
      refine wl_unwanted rfl rfl rfl rfl rfl rfl rfl rfl ?_
      refine wl_unwanted rfl rfl rfl rfl rfl rfl rfl rfl ?_
      refine wl_wanted_det rfl rfl rfl rfl rfl rfl rfl (op_pick_t rfl rfl) ?_
      refine wl_det rfl rfl rfl (op_pick_t rfl rfl) ?_
      refine wl_det rfl rfl rfl (op_assign rfl) ?_
      refine wl_nil ?_
      refine st_tn ?_
      refine w_ret ?_
      refine st_ret (vs := [_]) [] Try.results11 ⟨rfl, trivial⟩ rfl ?_
      refine ⟨_, rfl, ?_⟩
      exact ⟨rfl, rfl⟩
    · -- 36 is False
      refine wl_wanted_det rfl rfl rfl rfl rfl rfl rfl (op_loadA rfl tA26df (Ent.lab (l := 3) rfl (says_cel 0)) (Nat.le_of_ble_eq_true rfl)) ?_
      refine wl_wanted_det rfl rfl rfl rfl rfl rfl rfl (op_val (v' := .string (str s)) (by rw [hen (by simpa using hg36)]) (op_fn Try.func46 rfl rfl rfl (encode_any (Sl.lab 17 rfl (by unfold maxLen; omega)) hwf hin))) ?_
      refine wl_wanted_det rfl rfl rfl rfl rfl rfl rfl (op_move rfl) ?_
      refine wl_wanted_det rfl rfl rfl rfl rfl rfl rfl (op_val (v' := .bool true) (by simp) (op_eqBs rfl rfl)) ?_
      refine wl_wanted_det rfl rfl rfl rfl rfl rfl rfl (op_pick_f rfl rfl) ?_
      refine wl_det rfl rfl rfl (op_pick_t rfl rfl) ?_
      refine wl_det rfl rfl rfl (op_assign rfl) ?_
      refine wl_nil ?_
      refine st_tn ?_
      refine w_ret ?_
      refine st_ret (vs := [_]) [] Try.results11 ⟨rfl, trivial⟩ rfl ?_
      refine ⟨_, rfl, ?_⟩
      exact ⟨rfl, rfl⟩

theorem lawDecodes_ba {σ : World} {F : List Res} (t : ByteArray) : FnT Try.prog σ F 11 [.string t] [] (fun u ρ => u = .bool true ∧ ρ = []) := by
  have h := lawDecodes_any (σ := σ) (F := F) t.data.toList
  rwa [str_self] at h
end Go.Proofs.Ytkknlfhncheflaa
namespace Go.Proofs.Ytkknlfhncheflaa
open Go Go.SL Go.RowKit Go.BitM
set_option linter.unusedVariables false
set_option linter.unusedSimpArgs false
theorem tL95_1dg : zerosB Try.prog 95 5 1 1 = some [Value.int .u8 0] := by kernel_rfl
theorem tO5dg : oneB Try.prog 5 = true := by kernel_rfl
theorem tP95dg : appB Try.prog 95 5 1 1 = true := by kernel_rfl
theorem tS95dg : sliceB Try.prog 95 5 1 = true := by kernel_rfl

-- ENCT encU UInt8
set_option maxHeartbeats 400000 in
set_option maxRecDepth 100000 in
theorem xmag_any {σ : World} {F : List Res} (x : Int) (h : 0 ≤ x ∧ x ≤ 9223372036854775807) : FnT Try.prog σ F 84 [.int .i64 x] [] (fun u ρ => u = .int .u64 x ∧ ρ = []) := by
  refine fn_of 12 Try.func84 rfl Try.ntmps84 rfl ?_
  refine w_seq ?_
  refine w_region ?_
  refine wl_det rfl rfl rfl (op_assign rfl) ?_
  refine wl_nil ?_
  refine st_tn ?_
  refine w_seq ?_
  refine w_seq ?_
  refine w_region ?_
  refine wl_det rfl rfl rfl (op_move rfl) ?_
  refine wl_det rfl rfl rfl (op_lss rfl rfl) ?_
  refine wl_nil ?_
  refine st_tn ?_
  refine w_cond_d rfl (fun hc4 => ?_) (fun hc4 => ?_)
  · -- c4.t
    exfalso; omega
  · -- c4.f
    refine w_skip ?_
    refine st_tn ?_
    refine w_seq ?_
    refine w_region ?_
    refine wl_det rfl rfl rfl (op_move rfl) ?_
    refine wl_det rfl rfl rfl (op_convU64 rfl (by rw [Try.underlying3]; rfl) Try.underlying116 (by omega)) ?_
    refine wl_det rfl rfl rfl (op_assign rfl) ?_
    refine wl_nil ?_
    refine st_tn ?_
    refine w_ret ?_
    refine st_ret (vs := [_]) [] Try.results84 ⟨rfl, trivial⟩ rfl ?_
    refine ⟨_, rfl, ?_⟩
    exact ⟨rfl, rfl⟩

set_option maxHeartbeats 2000000 in
set_option maxRecDepth 100000 in
theorem xnumber_any {σ : World} {F : List Res} (x : Int) (h : 0 ≤ x ∧ x ≤ 9223372036854775807) : FnT Try.prog σ F 72 [.int .i64 x] [] (fun u ρ => u = .string (str (RdM.encN x)) ∧ ρ = []) := by
  refine fn_of 53 Try.func72 rfl Try.ntmps72 rfl ?_
  obtain ⟨n, rfl⟩ := Int.eq_ofNat_of_zero_le h.1
  have hn : n ≤ 9223372036854775807 := by omega
  have hbl := RdM.len_be 8 n (by omega)
  refine w_seq ?_
  refine w_region ?_
  refine wl_det rfl rfl rfl (op_assign rfl) ?_
  refine wl_nil ?_
  refine st_tn ?_
  refine w_seq ?_
  refine w_region ?_
  refine wl_det rfl rfl rfl (op_assign rfl) ?_
  refine wl_nil ?_
  refine st_tn ?_
  refine w_seq ?_
  refine w_seq ?_
  refine w_region ?_
  refine wl_det rfl rfl rfl (op_move rfl) ?_
  refine wl_det rfl rfl rfl (op_fn Try.func84 rfl rfl rfl (xmag_any _ h)) ?_
  refine wl_det rfl rfl rfl (op_assign rfl) ?_
  refine wl_nil ?_
  refine st_tn ?_
  refine w_block ?_
  refine w_emp 3 (slO_nil 5 1) ?_
  refine w_loopQ (X := List UInt8 × Option Addr × Nat × Nat) (fun z => z.2.2.2 ≤ n ∧ RdM.be z.2.2.2 ++ z.1.reverse = RdM.be n) (fun z => [(3, .slice (z.2.1) (z.1).length (z.2.2.1)), (4, .int .u64 (z.2.2.2))]) (fun z => [(3, slW 5 encU 1 (.slice (z.2.1) (z.1).length (z.2.2.1)) (z.1))]) (fun z => z.2.2.2) (([], none, 0, n)) [(0, _)] [] [3] rfl (rfl) (.cons rfl (.cons rfl (.nil _))) (.cons rfl (.nil _)) (by
      try dsimp only
      exact ⟨Nat.le_refl _, by simp⟩) ?_
  rintro ⟨low, a_low, c_low, m⟩ ⟨hm, hlow⟩
  refine w_norm2 (by dsimp only [List.cons_append, List.nil_append]) (by dsimp only [List.cons_append, List.nil_append]) ?_
  try dsimp only at hm hlow ⊢
  refine w_seq ?_
  refine w_seq ?_
  refine w_region ?_
  refine wl_det rfl rfl rfl (op_move rfl) ?_
  refine wl_det rfl rfl rfl (op_gtr rfl rfl) ?_
  refine wl_nil ?_
  refine st_tn ?_
  refine w_cond_d rfl (fun hc12 => ?_) (fun hc12 => ?_)
  · -- c12.t
    have hll : low.length ≤ 8 := by
      have h1 := congrArg List.length hlow
      rw [List.length_append, List.length_reverse] at h1; omega
    refine w_skip ?_
    refine st_tn ?_
    refine w_seq ?_
    refine w_block ?_
    refine w_region ?_
    refine wl_det rfl rfl rfl (op_move rfl) ?_
    refine wl_det rfl rfl rfl (op_move rfl) ?_
    refine wl_det rfl rfl rfl (op_remN rfl rfl (by omega) (by omega)) ?_
    refine wl_det rfl rfl rfl (op_val (v' := .int .u8 ((UInt8.ofNat m).toNat : Int)) (by rw [show ((m : Int) % 256).toNat = m % 256 by omega]; simp) (op_convU rfl (by rw [Try.underlying116]; rfl) Try.underlying5 (by omega))) ?_
    refine wl_op [] rfl rfl rfl rfl (op_buildSlice (enc := encU) (l := [_]) (lab := 19) tL95_1dg rfl rfl (fun _ => rfl) rfl) ?_
    rintro _ _ ⟨a19, c19, rfl, rfl⟩
    refine wl_op [3] rfl rfl rfl rfl (op_append (lab := 3) (lab' := 20) rfl rfl tP95dg enc1U (Sl.lab 19 rfl (by simp [maxLen])) (by first | omega | (simp; done) | (simp; omega) | (simp [*]; omega)) (by first | omega | (simp; done) | (simp; omega) | (simp [*]; omega))) ?_
    rintro _ _ ⟨a20, c20, rfl, rfl⟩
    refine wl_det rfl rfl rfl (op_assign rfl) ?_
    refine wl_nil ?_
    refine st_bn ?_
    refine st_tn ?_
    refine w_region ?_
    refine wl_det rfl rfl rfl (op_move rfl) ?_
    refine wl_det rfl rfl rfl (op_quoU rfl rfl (by omega) (by omega) (by omega)) ?_
    refine wl_det rfl rfl rfl (op_assign rfl) ?_
    refine wl_nil ?_
    refine st_roundQ (x := (low, a_low, c_low, m)) ((low ++ [UInt8.ofNat m], _, _, m / 256)) [20] rfl (rfl) (.cons rfl (.cons rfl (.nil _))) (.cons rfl (.nil _)) (by
        try dsimp only
        refine ⟨by omega, ?_⟩
        rw [← hlow, RdM.be_pos (x := m) (by omega)]; simp) (by
        try dsimp only
        omega) 
  · -- c12.f
    have hm0 : m = 0 := by omega
    subst hm0
    rw [RdM.be_zero, List.nil_append] at hlow
    have hll : low.length = (RdM.be n).length := by rw [← hlow, List.length_reverse]
    refine w_exit ?_
    refine st_te ?_
    refine st_te ?_
    refine st_be ?_
    refine st_tn ?_
    refine w_seq ?_
    refine w_region ?_
    refine wl_det rfl rfl rfl (op_move rfl) ?_
    refine wl_det rfl rfl rfl (op_lenT rfl tS95dg (Sl.ent (Sl.lab 3 rfl (by unfold maxLen; omega)))) ?_
    refine wl_det rfl rfl rfl (op_add' rfl rfl (by omega)) ?_
    refine wl_det rfl rfl rfl (op_assign rfl) ?_
    refine wl_nil ?_
    refine st_tn ?_
    refine w_seq ?_
    refine w_seq ?_
    refine w_region ?_
    refine wl_det rfl rfl rfl (op_move rfl) ?_
    refine wl_det rfl rfl rfl (op_val (v' := .bool false) (by simp) (op_lss rfl rfl)) ?_
    refine wl_nil ?_
    refine st_tn ?_
    refine w_cond_f (rfl) ?_
    refine w_skip ?_
    refine st_tn ?_
    refine w_seq ?_
    refine w_region ?_
    refine wl_det rfl rfl rfl (op_move rfl) ?_
    refine wl_det rfl rfl rfl (op_val (v' := .int .u8 ((UInt8.ofNat (128 + low.length)).toNat : Int)) (by rw [show (128 + (low.length : Int)).toNat = 128 + low.length by omega]) (op_convU rfl (by rw [Try.underlying3]; rfl) Try.underlying5 (by omega))) ?_
    refine wl_op [] rfl rfl rfl rfl (op_buildSlice (enc := encU) (l := [_]) (lab := 31) tL95_1dg rfl rfl (fun _ => rfl) rfl) ?_
    rintro _ _ ⟨a31, c31, rfl, rfl⟩
    refine wl_det rfl rfl rfl (op_assign rfl) ?_
    refine wl_nil ?_
    refine st_tn ?_
    refine w_seq ?_
    refine w_seq ?_
    refine w_region ?_
    refine wl_det rfl rfl rfl (op_move rfl) ?_
    refine wl_det rfl rfl rfl (op_lenT rfl tS95dg (Sl.ent (Sl.lab 3 rfl (by unfold maxLen; omega)))) ?_
    refine wl_det rfl rfl rfl (op_sub' rfl rfl (by omega)) ?_
    refine wl_det rfl rfl rfl (op_assign rfl) ?_
    refine wl_nil ?_
    refine st_tn ?_
    refine w_block ?_
    refine w_loopQ (X := Int × List UInt8 × Option Addr × Nat) (fun z => -1 ≤ z.1 ∧ z.1 < low.length ∧ z.2.1 = UInt8.ofNat (128 + low.length) :: (RdM.be n).take (low.length - 1 - z.1).toNat) (fun z => [(7, .int .i64 (z.1)), (6, .slice (z.2.2.1) (z.2.1).length (z.2.2.2))]) (fun z => [(31, slW 5 encU 1 (.slice (z.2.2.1) (z.2.1).length (z.2.2.2)) (z.2.1))]) (fun z => (z.1 + 1).toNat) (((low.length : Int) - 1, [UInt8.ofNat (128 + low.length)], _, _)) [(0, _), (3, _)] [(3, _)] [31, 3] rfl (rfl) (.cons rfl (.cons rfl (.nil _))) (.cons rfl (.cons rfl (.nil _))) (by
        try dsimp only
        exact ⟨by omega, by omega, by simp⟩) ?_
    rintro ⟨q, out, a_out, c_out⟩ ⟨hq, hq2, hout⟩
    refine w_norm2 (by dsimp only [List.cons_append, List.nil_append]) (by dsimp only [List.cons_append, List.nil_append]) ?_
    try dsimp only at hq hq2 hout ⊢
    refine w_seq ?_
    refine w_seq ?_
    refine w_region ?_
    refine wl_det rfl rfl rfl (op_move rfl) ?_
    refine wl_det rfl rfl rfl (op_geq rfl rfl) ?_
    refine wl_nil ?_
    refine st_tn ?_
    refine w_cond_d rfl (fun hc36 => ?_) (fun hc36 => ?_)
    · -- c36.t
      obtain ⟨b0, hb0⟩ := getE (l := low) (i := q.toNat) (by omega)
      have hb2 : (RdM.be n)[((low.length : Int) - 1 - q).toNat]? = some b0 := by
        rw [← hlow, List.getElem?_reverse (by omega), show low.length - 1 - ((low.length : Int) - 1 - q).toNat = q.toNat by omega, hb0]
      have hol : out.length ≤ 9 := by rw [hout]; simp; omega
      refine w_skip ?_
      refine st_tn ?_
      refine w_seq ?_
      refine w_block ?_
      refine w_seq ?_
      refine w_region ?_
      refine wl_det rfl rfl rfl (op_move rfl) ?_
      refine wl_det rfl rfl rfl (op_move rfl) ?_
      refine wl_det rfl rfl rfl (op_idxZ rfl rfl tS95dg (Sl.ent (Sl.lab 3 rfl (by unfold maxLen; omega))) (by omega) (by omega)) ?_
      refine wl_det rfl rfl rfl (op_ldx rfl tO5dg (Sl.lab 3 rfl (by unfold maxLen; omega)) (by assumption) (by rfl)) ?_
      refine wl_det rfl rfl rfl (op_assign rfl) ?_
      refine wl_nil ?_
      refine st_tn ?_
      refine w_seq ?_
      refine w_seq ?_
      refine w_region ?_
      refine wl_det rfl rfl rfl (op_move rfl) ?_
      refine wl_det rfl rfl rfl (op_val (v' := .bool false) (by simp) (op_lss rfl rfl)) ?_
      refine wl_nil ?_
      refine st_tn ?_
      refine w_cond_f (rfl) ?_
      refine w_skip ?_
      refine st_tn ?_
      refine w_region ?_
      refine wl_det rfl rfl rfl (op_move rfl) ?_
      refine wl_det rfl rfl rfl (op_move rfl) ?_
      refine wl_op [] rfl rfl rfl rfl (op_buildSlice (enc := encU) (l := [_]) (lab := 49) tL95_1dg rfl rfl (fun _ => rfl) rfl) ?_
      rintro _ _ ⟨a49, c49, rfl, rfl⟩
      refine wl_op [31] rfl rfl rfl rfl (op_append (lab := 31) (lab' := 50) rfl rfl tP95dg enc1U (Sl.lab 49 rfl (by simp [maxLen])) (by first | omega | (simp; done) | (simp; omega) | (simp [*]; omega)) (by first | omega | (simp; done) | (simp; omega) | (simp [*]; omega))) ?_
      rintro _ _ ⟨a50, c50, rfl, rfl⟩
      refine wl_det rfl rfl rfl (op_assign rfl) ?_
      refine wl_nil ?_
      refine st_bn ?_
      refine st_tn ?_
      refine w_region ?_
      refine wl_det rfl rfl rfl (op_move rfl) ?_
      refine wl_det rfl rfl rfl (op_sub' rfl rfl (by omega)) ?_
      refine wl_det rfl rfl rfl (op_assign rfl) ?_
      refine wl_nil ?_
      refine st_roundQ (x := (q, out, a_out, c_out)) ((q - 1, out ++ [b0], _, _)) [50, 3] rfl (rfl) (.cons rfl (.cons rfl (.nil _))) (.cons rfl (.cons rfl (.nil _))) (by
          try dsimp only
          refine ⟨by omega, by omega, ?_⟩
          rw [hout, show ((low.length : Int) - 1 - (q - 1)).toNat = ((low.length : Int) - 1 - q).toNat + 1 by omega, take_snoc hb2]; rfl) (by
          try dsimp only
          omega) 
    · -- c36.f
      have hol : out.length ≤ 9 := by rw [hout]; simp; omega
      refine w_exit ?_
      refine st_te ?_
      refine st_te ?_
      refine st_be ?_
      refine st_tn ?_
      refine w_seq ?_
      refine w_region ?_
      refine wl_det rfl rfl rfl (op_move rfl) ?_
      refine wl_det rfl rfl rfl (op_bytesStr rfl Try.underlying95 Try.underlying5 Try.underlying9 (Sl.lab 31 rfl (by unfold maxLen; omega))) ?_
      refine wl_det rfl rfl rfl (op_assign rfl) ?_
      refine wl_nil ?_
      refine st_tn ?_
      refine w_ret ?_
      refine st_ret (vs := [_]) [] Try.results72 ⟨rfl, trivial⟩ rfl ?_
      refine ⟨_, rfl, ?_⟩
      have hfin : out = RdM.encN n := by
        rw [hout, List.take_of_length_le (by rw [hll] at hq2 ⊢; omega)]
        unfold RdM.encN
        rw [Int.toNat_natCast, hll]
      rw [hfin]; exact ⟨rfl, rfl⟩

end Go.Proofs.Ytkknlfhncheflaa
namespace Go.Proofs.Ytkknlfhncheflaa
open Go Go.SL Go.RowKit Go.BitM
set_option linter.unusedVariables false
set_option linter.unusedSimpArgs false
theorem tMixdh : Try.prog.follows .mixedOrders = true := by kernel_rfl
theorem tO3dh : oneB Try.prog 3 = true := by kernel_rfl
theorem tR37dh : arrB Try.prog 37 2 1 = true := by kernel_rfl
theorem tS38dh : sliceB Try.prog 38 37 2 = true := by kernel_rfl

theorem encR_app : ∀ (l m : List Run) (p : Int), encR p (l ++ m) = encR p l ++ encR (endOf p l) m
  | [], m, p => by simp [encR, endOf]
  | r :: l, m, p => by
    rw [List.cons_append, encR, encR_app l m, encR]
    simp [endOf]
theorem encR_ge : ∀ (l : List Run) (p : Int), l.length ≤ (encR p l).length
  | [], p => by simp
  | r :: l, p => by
    have := encR_ge l (r.2 + 1)
    rw [encR, encN_eq, List.length_append, List.length_append, RdM.len_encN, List.length_cons]
    omega
theorem endOf_str {l : List Run} {r : Run} (h : WF (l ++ [r])) (hl : l ≠ []) : endOf 0 l < r.1 := by
  rcases List.eq_nil_or_concat l with hn | ⟨l', y, hl'⟩
  · exact absurd hn hl
  · rw [List.concat_eq_append] at hl'
    have h3 := (WF.snoc_iff.1 h).2.2 y (by rw [hl']; simp)
    rw [hl', endOf_snoc]
    exact h3
theorem dto_run {l : List Run} (hw : WF l) (hb : inB 0 1048575 l) : ∀ i, i ≤ l.length → dto (encBm l) ⟨(encN l.length).length, 0⟩ i = ⟨endOf 0 (l.take i), false, l.take i, ⟨(encN l.length ++ encR 0 (l.take i)).length, 0⟩⟩
  | 0, _ => by simp [dto, endOf_nil, encR]
  | i + 1, h => by
    have ih := dto_run hw hb i (by omega)
    show dstep _ i (dto _ _ i) = _
    rw [ih]
    obtain ⟨r, hr⟩ := getE (l := l) (i := i) (by omega)
    have hlt := (List.getElem?_eq_some_iff.1 hr).1
    have hre := (List.getElem?_eq_some_iff.1 hr).2
    have hsn : l.take (i + 1) = l.take i ++ [r] := take_snoc hr
    have hspl : l = l.take i ++ r :: l.drop (i + 1) := by
      rw [← hre, ← List.drop_eq_getElem_cons hlt, List.take_append_drop]
    have hwt : WF (l.take i ++ [r]) := by rw [← hsn]; exact WF.take hw _
    have hbt : inB 0 1048575 (l.take i ++ [r]) := by rw [← hsn]; exact inB.take hb _
    have hbd := hbt r (by simp)
    have hlo := endOf_bd (inB.take hb i)
    have hlo2 := endOf_lt hwt hbt
    have hst : 0 < i → endOf 0 (l.take i) < r.1 := fun hi => endOf_str hwt (by
      intro hh
      have := congrArg List.length hh
      rw [List.length_take, List.length_nil] at this; omega)
    obtain ⟨e, he⟩ : ∃ e, e = endOf 0 (l.take i) := ⟨_, rfl⟩
    obtain ⟨p, hp⟩ : ∃ p, p = encN l.length ++ encR 0 (l.take i) := ⟨_, rfl⟩
    have s0 : encBm l = p ++ RdM.encN (r.1 - e) ++ (RdM.encN (r.2 - r.1 + 1) ++ encR (r.2 + 1) (l.drop (i + 1))) := by
      unfold encBm
      conv => lhs; rw [show encR 0 l = encR 0 (l.take i ++ r :: l.drop (i + 1)) by rw [← hspl]]
      rw [encR_app, encR, encN_eq (r.1 - _), encN_eq (r.2 - r.1 + 1), ← he, hp]
      simp only [List.append_assoc]
    have rd1 := RdM.rdN_enc (x := r.1 - e) (by rw [he]; omega) s0
    have s1 : encBm l = (p ++ RdM.encN (r.1 - e)) ++ RdM.encN (r.2 - r.1 + 1) ++ encR (r.2 + 1) (l.drop (i + 1)) := by
      rw [s0]; simp only [List.append_assoc]
    have rd2 := RdM.rdN_enc (x := r.2 - r.1 + 1) (by omega) s1
    rw [List.length_append] at rd2
    unfold dstep
    rw [← hp, ← he]
    dsimp only
    rw [rd1]
    dsimp only
    rw [rd2]
    dsimp only
    rw [if_neg (by simp), if_neg (by
      rintro (hh | hh)
      · simp at hh
      · unfold badC at hh
        rw [he] at hh
        rcases Nat.eq_zero_or_pos i with hz | hz
        · omega
        · have := hst hz
          omega)]
    rw [hsn, endOf_snoc, encR_snoc, ← he, ← List.append_assoc, ← List.append_assoc, ← hp]
    have a1 : e + (r.1 - e + (r.2 - r.1 + 1)) = r.2 + 1 := by omega
    have a2 : e + (r.1 - e) = r.1 := by omega
    have a3 : e + (r.1 - e) + (r.2 - r.1 + 1) - 1 = r.2 := by omega
    rw [a1, a3, a2, encN_eq, encN_eq]
    simp only [List.length_append]
/-- The form of a set is read again. -/
theorem decB_run {l : List Run} (hw : WF l) (hb : inB 0 1048575 l) : decB (encBm l) = (l, 0) := by
  have hln := (wf_len hw hb).2
  have hc : RdM.rdC (encBm l) 1048576 ⟨0, 0⟩ = ((l.length : Int), ⟨(encN l.length).length, 0⟩) := by
    have := RdM.rdC_enc (p := []) (q := encR 0 l) (x := (l.length : Int)) (most := 1048576) (s := encBm l) (by omega) (by omega) (by have := encR_ge l 0; omega) (by unfold encBm; rw [encN_eq]; simp)
    rw [List.length_nil, Nat.zero_add] at this
    rw [this, encN_eq]
  have hd := dto_run hw hb l.length (Nat.le_refl _)
  rw [List.take_length] at hd
  unfold decB
  rw [hc]
  dsimp only
  rw [Int.toNat_natCast, hd]
  dsimp only
  have hE : RdM.endE (encBm l) ⟨(encN l.length ++ encR 0 l).length, 0⟩ = 0 := by
    unfold RdM.endE
    rw [if_neg (by simp), if_neg (by show ¬ (encN l.length ++ encR 0 l).length < (encBm l).length; exact Nat.lt_irrefl _)]
  rw [hE, if_neg (by simp), if_neg (by simp)]
set_option maxHeartbeats 2000000 in
set_option maxRecDepth 100000 in
theorem xenc_any {σ : World} {F : List Res} {a : Option Addr} {c : Nat} {rl : List Run} (h : Sl σ F encRun 2 (.slice a rl.length c) rl) (hw : WF rl) (hi : inB 0 1048575 rl) :
    FnT Try.prog σ F 47 [.slice a rl.length c] [] (fun u ρ => u = .string (str (encBm rl)) ∧ ρ = []) := by
  refine fn_of 46 Try.func47 rfl Try.ntmps47 rfl ?_
  have hlen := wf_len hw hi
  refine w_seq ?_
  refine w_region ?_
  refine wl_det rfl rfl rfl (op_assign rfl) ?_
  refine wl_nil ?_
  refine st_tn ?_
  refine w_seq ?_
  refine w_region ?_
  refine wl_det rfl rfl rfl (op_move rfl) ?_
  refine wl_det rfl rfl rfl (op_lenT rfl tS38dh (Sl.ent (by first | exact Sl.app (by assumption) _ | exact Sl.app (Sl.app (by assumption) _) _))) ?_
  refine wl_det rfl rfl rfl (op_fn Try.func72 rfl rfl rfl (xnumber_any _ (by omega))) ?_
  refine wl_det rfl rfl rfl (op_assign rfl) ?_
  refine wl_nil ?_
  refine st_tn ?_
  refine w_seq ?_
  refine w_region ?_
  refine wl_det rfl rfl rfl (op_assign rfl) ?_
  refine wl_nil ?_
  refine st_tn ?_
  refine w_seq ?_
  refine w_seq ?_
  refine w_region ?_
  refine wl_det rfl rfl rfl (op_assign rfl) ?_
  refine wl_nil ?_
  refine st_tn ?_
  refine w_block ?_
  refine w_loopQ (X := List UInt8 × Int × Nat) (fun z => z.2.2 ≤ rl.length ∧ z.1 = encN rl.length ++ encR 0 (rl.take z.2.2) ∧ z.2.1 = endOf 0 (rl.take z.2.2)) (fun z => [(3, .string (str (z.1))), (4, .int .i64 (z.2.1)), (5, .int .i64 (z.2.2))]) (fun _ => []) (fun z => rl.length - z.2.2) ((RdM.encN rl.length, 0, 0)) [(0, _)] [] [] rfl (rfl) (.cons rfl (.cons rfl (.cons rfl (.nil _)))) (.cons rfl (.nil _)) (by
      try dsimp only
      exact ⟨Nat.zero_le _, by rw [encN_eq]; simp [encR], rfl⟩) ?_
  rintro ⟨out, next, i⟩ ⟨hile, hout, hnext⟩
  refine w_norm2 (by dsimp only [List.cons_append, List.nil_append]) (by dsimp only [List.cons_append, List.nil_append]) ?_
  try dsimp only at hile hout hnext ⊢
  refine w_seq ?_
  refine w_seq ?_
  refine w_region ?_
  refine wl_det rfl rfl rfl (op_move rfl) ?_
  refine wl_det rfl rfl rfl (op_move rfl) ?_
  refine wl_det rfl rfl rfl (op_lenT rfl tS38dh (Sl.ent (by first | exact Sl.app (by assumption) _ | exact Sl.app (Sl.app (by assumption) _) _))) ?_
  refine wl_det rfl rfl rfl (op_lss rfl rfl) ?_
  refine wl_nil ?_
  refine st_tn ?_
  refine w_cond_d rfl (fun hc12 => ?_) (fun hc12 => ?_)
  · -- c12.t
    obtain ⟨r, hr⟩ := getE (l := rl) (i := i) (by omega)
    have hsn : rl.take (i + 1) = rl.take i ++ [r] := take_snoc hr
    have hwt : WF (rl.take i ++ [r]) := by rw [← hsn]; exact WF.take hw _
    have hbt : inB 0 1048575 (rl.take i ++ [r]) := by rw [← hsn]; exact inB.take hi _
    have hbd := hbt r (by simp)
    have hlo := endOf_bd (inB.take hi i)
    have hlo2 := endOf_lt hwt hbt
    have hsz := encR_le' (WF.take hw i) (inB.take hi i)
    have hN1 := RdM.encN_le (x := r.1 - next) (by omega)
    have hN2 := RdM.encN_le (x := r.2 - r.1 + 1) (by omega)
    have hN0 := RdM.encN_le (x := (rl.length : Int)) (by omega)
    have hol : out.length ≤ 9 + 18 * rl.length := by rw [hout, encN_eq, List.length_append]; have := List.length_take_le i rl; omega
    refine w_skip ?_
    refine st_tn ?_
    refine w_seq ?_
    refine w_block ?_
    refine w_seq ?_
    refine w_drawW (fun β => [⟨15, [], [], [], noW (_), false, [], []⟩, ⟨16, [], [], [], noW (_), false, [], []⟩, ⟨17, [], [], [], noW (_), false, [], []⟩, ⟨18, [1, 2], [], [], noW (_), false, [], []⟩, ⟨19, [3], [], [], noW (_), false, [], []⟩, ⟨20, [4], [], [], noW (_), false, [], []⟩, ⟨21, [], [], [], noW (_), false, [], []⟩, ⟨22, [5, 6], [], [], noW (_), false, [], []⟩, ⟨23, [7], [], [], noW (_), false, [], []⟩, ⟨24, [0, 8], [], [], noW (_), false, [], []⟩, ⟨25, [], [], [], noW (_), false, [], []⟩, ⟨26, [], [], [], noW (_), false, [], []⟩, ⟨27, [10, 11], [], [], noW (_), false, [], []⟩, ⟨28, [12], [], [], noW (_), false, [], []⟩, ⟨29, [13], [], [], noW (_), false, [], []⟩, ⟨30, [], [], [], noW (_), false, [], []⟩, ⟨31, [], [], [], noW (_), false, [], []⟩, ⟨32, [15, 16], [], [], noW (_), false, [], []⟩, ⟨33, [17], [], [], noW (_), false, [], []⟩, ⟨34, [18], [], [], noW (_), false, [], []⟩, ⟨35, [14, 19], [], [], noW (_), false, [], []⟩, ⟨36, [20], [], [], noW (_), false, [], []⟩, ⟨37, [21], [], [], noW (_), false, [], []⟩]) [] [3, 0, 5, 4] [⟨15, [], [], false, [], []⟩, ⟨16, [], [], false, [], []⟩, ⟨17, [], [], false, [], []⟩, ⟨18, [1, 2], [], false, [], []⟩, ⟨19, [3], [], false, [], []⟩, ⟨20, [4], [], false, [], []⟩, ⟨21, [], [], false, [], []⟩, ⟨22, [5, 6], [], false, [], []⟩, ⟨23, [7], [], false, [], []⟩, ⟨24, [0, 8], [], false, [], []⟩, ⟨25, [], [], false, [], []⟩, ⟨26, [], [], false, [], []⟩, ⟨27, [10, 11], [], false, [], []⟩, ⟨28, [12], [], false, [], []⟩, ⟨29, [13], [], false, [], []⟩, ⟨30, [], [], false, [], []⟩, ⟨31, [], [], false, [], []⟩, ⟨32, [15, 16], [], false, [], []⟩, ⟨33, [17], [], false, [], []⟩, ⟨34, [18], [], false, [], []⟩, ⟨35, [14, 19], [], false, [], []⟩, ⟨36, [20], [], false, [], []⟩, ⟨37, [21], [], false, [], []⟩] [[], [], [], [], [], [], [], [], [], [], [], [], [], [], [], [], [], [], [], [], [], [], []] [[], [], [], [], [], [], [], [], [], [], [], [], [], [], [], [], [], [], [], [], [], [], []] tMixdh (fun _ => by rfl) (fun _ => by rfl) (by kernel_rfl) (by kernel_rfl) (by rfl) (by rfl)
        (fun β => ⟨.p rfl (by intro X; exact op_move rfl),
        ⟨.p rfl (by intro X; exact op_move rfl),
        ⟨.p rfl (by intro X; exact op_move rfl),
        ⟨.p rfl (by intro X; rintro _ _ ⟨rfl, rfl⟩ _ _ ⟨rfl, rfl⟩; exact op_idx rfl rfl tS38dh (Sl.ent (by first | exact Sl.app (by assumption) _ | exact Sl.app (Sl.app (by assumption) _) _)) (by omega)),
        ⟨.p rfl (by intro X; rintro _ _ ⟨rfl, rfl⟩; exact op_idxArr (i := 0) rfl rfl tR37dh (Nat.le_of_ble_eq_true rfl)),
        ⟨.p rfl (by intro X; rintro _ _ ⟨rfl, rfl⟩; exact op_ldxf rfl tO3dh (by first | exact Sl.app (by assumption) _ | exact Sl.app (Sl.app (by assumption) _) _) (by assumption) (by rfl)),
        ⟨.p rfl (by intro X; exact op_move rfl),
        ⟨.p rfl (by intro X; rintro _ _ ⟨rfl, rfl⟩ _ _ ⟨rfl, rfl⟩; exact op_sub' rfl rfl (by omega)),
        ⟨.p rfl (by intro X; rintro _ _ ⟨rfl, rfl⟩; exact op_fn Try.func72 rfl rfl rfl (xnumber_any (r.1 - next) (by omega))),
        ⟨.p rfl (by intro X; rintro _ _ ⟨rfl, rfl⟩ _ _ ⟨rfl, rfl⟩; exact op_catBs rfl rfl (by omega)),
        ⟨.p rfl (by intro X; exact op_move rfl),
        ⟨.p rfl (by intro X; exact op_move rfl),
        ⟨.p rfl (by intro X; rintro _ _ ⟨rfl, rfl⟩ _ _ ⟨rfl, rfl⟩; exact op_idx rfl rfl tS38dh (Sl.ent (by first | exact Sl.app (by assumption) _ | exact Sl.app (Sl.app (by assumption) _) _)) (by omega)),
        ⟨.p rfl (by intro X; rintro _ _ ⟨rfl, rfl⟩; exact op_idxArr (i := 1) rfl rfl tR37dh (Nat.le_of_ble_eq_true rfl)),
        ⟨.p rfl (by intro X; rintro _ _ ⟨rfl, rfl⟩; exact op_ldxf rfl tO3dh (by first | exact Sl.app (by assumption) _ | exact Sl.app (Sl.app (by assumption) _) _) (by assumption) (by rfl)),
        ⟨.p rfl (by intro X; exact op_move rfl),
        ⟨.p rfl (by intro X; exact op_move rfl),
        ⟨.p rfl (by intro X; rintro _ _ ⟨rfl, rfl⟩ _ _ ⟨rfl, rfl⟩; exact op_idx rfl rfl tS38dh (Sl.ent (by first | exact Sl.app (by assumption) _ | exact Sl.app (Sl.app (by assumption) _) _)) (by omega)),
        ⟨.p rfl (by intro X; rintro _ _ ⟨rfl, rfl⟩; exact op_idxArr (i := 0) rfl rfl tR37dh (Nat.le_of_ble_eq_true rfl)),
        ⟨.p rfl (by intro X; rintro _ _ ⟨rfl, rfl⟩; exact op_ldxf rfl tO3dh (by first | exact Sl.app (by assumption) _ | exact Sl.app (Sl.app (by assumption) _) _) (by assumption) (by rfl)),
        ⟨.p rfl (by intro X; rintro _ _ ⟨rfl, rfl⟩ _ _ ⟨rfl, rfl⟩; exact op_sub' rfl rfl (by omega)),
        ⟨.p rfl (by intro X; rintro _ _ ⟨rfl, rfl⟩; exact op_add' rfl rfl (by omega)),
        ⟨.p rfl (by intro X; rintro _ _ ⟨rfl, rfl⟩; exact op_fn Try.func72 rfl rfl rfl (xnumber_any (r.2 - r.1 + 1) (by omega))),
        trivial⟩⟩⟩⟩⟩⟩⟩⟩⟩⟩⟩⟩⟩⟩⟩⟩⟩⟩⟩⟩⟩⟩⟩)
        (fun β β' => ⟨fun _ => by rfl, ⟨fun _ => by rfl, ⟨fun _ => by rfl, ⟨fun _ => by rfl, ⟨fun _ => by rfl, ⟨fun _ => by rfl, ⟨fun _ => by rfl, ⟨fun _ => by rfl, ⟨fun _ => by rfl, ⟨fun _ => by rfl, ⟨fun _ => by rfl, ⟨fun _ => by rfl, ⟨fun _ => by rfl, ⟨fun _ => by rfl, ⟨fun _ => by rfl, ⟨fun _ => by rfl, ⟨fun _ => by rfl, ⟨fun _ => by rfl, ⟨fun _ => by rfl, ⟨fun _ => by rfl, ⟨fun _ => by rfl, ⟨fun _ => by rfl, ⟨fun _ => by rfl, trivial⟩⟩⟩⟩⟩⟩⟩⟩⟩⟩⟩⟩⟩⟩⟩⟩⟩⟩⟩⟩⟩⟩⟩) ?_
    intro β
    rintro _ _ ⟨rfl, rfl⟩ _ _ ⟨rfl, rfl⟩ _ _ ⟨rfl, rfl⟩ _ _ ⟨rfl, rfl⟩ _ _ ⟨rfl, rfl⟩ _ _ ⟨rfl, rfl⟩ _ _ ⟨rfl, rfl⟩ _ _ ⟨rfl, rfl⟩ _ _ ⟨rfl, rfl⟩ _ _ ⟨rfl, rfl⟩ _ _ ⟨rfl, rfl⟩ _ _ ⟨rfl, rfl⟩ _ _ ⟨rfl, rfl⟩ _ _ ⟨rfl, rfl⟩ _ _ ⟨rfl, rfl⟩ _ _ ⟨rfl, rfl⟩ _ _ ⟨rfl, rfl⟩ _ _ ⟨rfl, rfl⟩ _ _ ⟨rfl, rfl⟩ _ _ ⟨rfl, rfl⟩ _ _ ⟨rfl, rfl⟩ _ _ ⟨rfl, rfl⟩ _ _ ⟨rfl, rfl⟩
    refine wl_norm (e' := [(0, _), (5, _), (24, _), (37, _)]) (.cons rfl (.cons rfl (.cons rfl (.cons rfl (.nil _))))) (by dsimp only [cond_false, cond_true, List.nil_append, List.cons_append]) ?_
    refine wl_det rfl rfl rfl (op_catBs rfl rfl (by simp only [List.length_append]; omega)) ?_
    refine wl_det rfl rfl rfl (op_assign rfl) ?_
    refine wl_nil ?_
    refine st_tn ?_
    refine w_region ?_
    refine wl_det rfl rfl rfl (op_move rfl) ?_
    refine wl_det rfl rfl rfl (op_move rfl) ?_
    refine wl_det rfl rfl rfl (op_idx rfl rfl tS38dh (Sl.ent (by first | exact Sl.app (by assumption) _ | exact Sl.app (Sl.app (by assumption) _) _)) (by omega)) ?_
    refine wl_det rfl rfl rfl (op_idxArr (i := 1) rfl rfl tR37dh (Nat.le_of_ble_eq_true rfl)) ?_
    refine wl_det rfl rfl rfl (op_ldxf rfl tO3dh (by first | exact Sl.app (by assumption) _ | exact Sl.app (Sl.app (by assumption) _) _) (by assumption) (by rfl)) ?_
    refine wl_det rfl rfl rfl (op_add' rfl rfl (by omega)) ?_
    refine wl_det rfl rfl rfl (op_assign rfl) ?_
    refine wl_nil ?_
    refine st_bn ?_
    refine st_tn ?_
    refine w_region ?_
    refine wl_det rfl rfl rfl (op_move rfl) ?_
    refine wl_det rfl rfl rfl (op_add' rfl rfl (by omega)) ?_
    refine wl_det rfl rfl rfl (op_assign rfl) ?_
    refine wl_nil ?_
    refine st_roundQ (x := (out, next, i)) ((out ++ RdM.encN (r.1 - next) ++ RdM.encN (r.2 - r.1 + 1), r.2 + 1, i + 1)) [] rfl (rfl) (.cons rfl (.cons rfl (.cons rfl (.nil _)))) (.cons rfl (.nil _)) (by
        try dsimp only
        refine ⟨by omega, ?_, ?_⟩
        · rw [hsn, encR_snoc, hout, encN_eq (r.1 - _), encN_eq (r.2 - r.1 + 1), hnext]; simp only [List.append_assoc]
        · rw [hsn, endOf_snoc]) (by
        try dsimp only
        omega) 
  · -- c12.f
    refine w_exit ?_
    refine st_te ?_
    refine st_te ?_
    refine st_be ?_
    refine st_tn ?_
    refine w_seq ?_
    refine w_region ?_
    refine wl_det rfl rfl rfl (op_move rfl) ?_
    refine wl_det rfl rfl rfl (op_assign rfl) ?_
    refine wl_nil ?_
    refine st_tn ?_
    refine w_ret ?_
    refine st_ret (vs := [_]) [] Try.results47 ⟨rfl, trivial⟩ rfl ?_
    refine ⟨_, rfl, ?_⟩
    have hfin : out = encBm rl := by rw [hout, take_all (by omega)]; rfl
    rw [hfin]; exact ⟨rfl, rfl⟩

end Go.Proofs.Ytkknlfhncheflaa
namespace Go.Proofs.Ytkknlfhncheflaa
open Go Go.SL Go.RowKit Go.BitM
set_option linter.unusedVariables false
set_option linter.unusedSimpArgs false
theorem tA26di : aggB Try.prog 26 1 = true := by kernel_rfl
theorem tA43di : aggB Try.prog 43 2 = true := by kernel_rfl
theorem tMixdi : Try.prog.follows .mixedOrders = true := by kernel_rfl
theorem tN26di : (Try.prog.info? 26).bind (·.zero) = some (Value.agg #[Value.slice none 0 0]) := by kernel_rfl
theorem tZ26di : (Try.prog.info? 26).map (·.size) = some 1 := by kernel_rfl

-- ENCT encU UInt8
set_option maxHeartbeats 2000000 in
set_option maxRecDepth 100000 in
theorem lawEncodes_any {σ : World} {F : List Res} {a : Option Addr} {c : Nat} {rl : List (Int × Int)} {base : Int} (hb : 0 ≤ base ∧ base ≤ 65535) (h : Sl σ F encP8 2 (.slice a rl.length c) rl) (hr : ∀ r ∈ rl, (0 ≤ r.1 ∧ r.1 ≤ 255) ∧ 0 ≤ r.2 ∧ r.2 ≤ 255) :
    FnT Try.prog σ F 12 [.agg #[.int .u16 base, .slice a rl.length c]] [] (fun u ρ => u = .bool true ∧ ρ = []) := by
  refine fn_of 35 Try.func12 rfl Try.ntmps12 rfl ?_
  obtain ⟨hro1, hro2, hro3⟩ := rowsOf_ok hb.1 rl
  refine w_seq ?_
  refine w_region ?_
  refine wl_op [] rfl rfl rfl rfl (op_box (T := 43) (l := 1) rfl) ?_
  rintro _ _ ⟨b1, rfl, rfl⟩
  refine wl_det rfl rfl rfl (op_assign rfl) ?_
  refine wl_nil ?_
  refine st_tn ?_
  refine w_seq ?_
  refine w_seq ?_
  refine w_region ?_
  refine wl_det rfl rfl rfl (op_fn Try.func13 rfl rfl rfl (known_any)) ?_
  refine wl_det rfl rfl rfl (op_not_t rfl) ?_
  refine wl_nil ?_
  refine st_tn ?_
  refine w_cond_f (rfl) ?_
  refine w_skip ?_
  refine st_tn ?_
  refine w_seq ?_
  refine w_draw (D := [⟨10, [], [], [], _, false, [], []⟩, ⟨11, [0], [], [], _, false, [], []⟩, ⟨12, [], [], [], _, false, [], []⟩, ⟨13, [2], [], [], _, false, [], []⟩, ⟨3, [], [], [], _, false, [], []⟩]) [] [1] [⟨10, [], [], false, [], []⟩, ⟨11, [0], [], false, [], []⟩, ⟨12, [], [], false, [], []⟩, ⟨13, [2], [], false, [], []⟩, ⟨3, [], [], false, [], []⟩] tMixdi (by rfl) (by kernel_rfl) (by rfl) (by rfl)
      ⟨.plain rfl (by intro X; exact op_loadA rfl tA43di (Ent.lab (l := 1) rfl (says_cel 0)) (Nat.le_of_ble_eq_true rfl)),
      ⟨.plain rfl (by intro X; rintro _ _ ⟨rfl, rfl⟩; exact op_fn Try.func22 rfl rfl rfl (made_any 11 (by assumption) (by first | exact Sl.app (by assumption) _ | exact Sl.app (Sl.app (by assumption) _) _) (by assumption))),
      ⟨.plain rfl (by intro X; exact op_loadA rfl tA43di (Ent.lab (l := 1) rfl (says_cel 0)) (Nat.le_of_ble_eq_true rfl)),
      ⟨.plain rfl (by intro X; rintro _ _ ⟨rfl, rfl⟩; exact op_fn Try.func23 rfl rfl rfl (lrows_any 13 (by assumption) (by first | exact Sl.app (by assumption) _ | exact Sl.app (Sl.app (by assumption) _) _) (by assumption))),
      ⟨.plain rfl (by intro X; exact op_alloc (l := 3) tN26di),
      trivial⟩⟩⟩⟩⟩ ?_
  rintro _ _ ⟨rfl, rfl⟩ _ _ ⟨m11, a11, c11, hw11, hi11, hm11, rfl, rfl⟩ _ _ ⟨rfl, rfl⟩ _ _ ⟨a13, c13, rfl, rfl⟩ _ _ ⟨b3, rfl, rfl⟩
  have hl11 := wf_len hw11 hi11
  refine wl_norm (e' := [(3, _), (11, _), (13, _)]) (.cons rfl (.cons rfl (.cons rfl (.nil _)))) (by dsimp only [cond_false, cond_true, List.nil_append, List.cons_append]) ?_
  refine wl_op0 [3] rfl rfl rfl (op_store rfl rfl tZ26di (by rfl) (by rfl) (by exact Nat.le_of_ble_eq_true rfl)) ?_
  rintro _ _ ⟨rfl, rfl⟩
  refine wl_det rfl rfl rfl (op_assign rfl) ?_
  refine wl_nil ?_
  refine st_tn ?_
  refine w_seq ?_
  have htr : toRuns (rowsOf base rl) = m11 := by rw [← hm11]; exact toRuns_rows hw11
  have hln := wf_len hw11 hi11
  have henc : (encBm m11).length ≤ 1099511627776 := by
    have h1 := encR_le' hw11 hi11
    have h2 := encN_eq (m11.length : Int)
    have h3 := RdM.encN_le (x := (m11.length : Int)) (by omega)
    unfold encBm; rw [h2, List.length_append]; omega
  refine w_region ?_
  refine wl_det rfl rfl rfl (op_loadA rfl tA26di (Ent.lab (l := 3) rfl (says_cel 0)) (Nat.le_of_ble_eq_true rfl)) ?_
  refine wl_det rfl rfl rfl (op_fn Try.func46 rfl rfl rfl (encode_any (Sl.lab 11 rfl (by unfold maxLen; omega)) hw11 hi11)) ?_
  refine wl_det rfl rfl rfl (op_assign rfl) ?_
  refine wl_nil ?_
  refine st_tn ?_
  refine w_seq ?_
  refine w_region ?_
  refine wl_det rfl rfl rfl (op_move rfl) ?_
  refine wl_op [] rfl rfl rfl rfl (op_fn Try.func44 rfl rfl rfl (fn_imp (dec_any 18 (encBm m11) henc) (fun u ρ hu => (by rw [decB_run hw11 hi11] at hu; exact hu : ∃ a c, u = .tuple #[bm a m11.length c, .int .i64 0] ∧ ρ = [(18, slW 58 encRun 2 (.slice a m11.length c) m11)])))) ?_
  rintro _ _ ⟨a18, c18, rfl, rfl⟩
  refine wl_det rfl rfl rfl (op_move rfl) ?_
  refine wl_det rfl rfl rfl (op_extract rfl rfl) ?_
  refine wl_det rfl rfl rfl (op_extract rfl rfl) ?_
  refine wl_op [] rfl rfl rfl rfl (op_alloc (l := 6) tN26di) ?_
  rintro _ _ ⟨b6, rfl, rfl⟩
  refine wl_op0 [6] rfl rfl rfl (op_store rfl rfl tZ26di (by rfl) (by rfl) (by exact Nat.le_of_ble_eq_true rfl)) ?_
  rintro _ _ ⟨rfl, rfl⟩
  refine wl_det rfl rfl rfl (op_assign rfl) ?_
  refine wl_nil ?_
  refine st_tn ?_
  refine w_seq ?_
  refine w_region ?_
  refine wl_det rfl rfl rfl (op_move rfl) ?_
  refine wl_det rfl rfl rfl (op_move rfl) ?_
  refine wl_op [] rfl rfl rfl rfl (op_fn Try.func48 rfl rfl rfl (fn_imp (rruns_any 23 (Sl.lab 13 rfl (by unfold maxLen; omega)) (by omega) hro1 (fun x hx => by have := hro2 x hx; omega)) (fun u ρ hu => (by rw [htr] at hu; exact hu : NewR m11 23 u ρ)))) ?_
  rintro _ _ ⟨a23, c23, rfl, rfl⟩
  refine wl_det rfl rfl rfl (op_fn Try.func47 rfl rfl rfl (xenc_any (Sl.lab 23 rfl (by unfold maxLen; omega)) hw11 hi11)) ?_
  refine wl_det rfl rfl rfl (op_val (v' := .bool true) (by simp) (op_eqBs rfl rfl)) ?_
  refine wl_det rfl rfl rfl (op_move rfl) ?_
  refine wl_wanted_det rfl rfl rfl rfl rfl rfl rfl (op_move rfl) ?_
  refine wl_wanted_det rfl rfl rfl rfl rfl rfl rfl (op_val (v' := .bool true) (by rfl) (op_eql rfl rfl)) ?_
  refine wl_det rfl rfl rfl (op_pick_t rfl rfl) ?_
  refine wl_det rfl rfl rfl (op_move rfl) ?_
  refine wl_wanted_det rfl rfl rfl rfl rfl rfl rfl (op_loadA rfl tA26di (Ent.lab (l := 6) rfl (says_cel 0)) (Nat.le_of_ble_eq_true rfl)) ?_
  refine wl_wanted_det rfl rfl rfl rfl rfl rfl rfl (op_move rfl) ?_
  refine wl_wanted_det rfl rfl rfl rfl rfl rfl rfl (op_fn Try.func16 rfl rfl rfl (fn_imp (is_any (Sl.lab 18 rfl (by unfold maxLen; omega)) (Sl.lab 13 rfl (by unfold maxLen; omega)) hw11 hi11 (by omega)) (fun u ρ hu => (by rw [decide_eq_true hm11] at hu; exact hu : u = .bool true ∧ ρ = [])))) ?_
  refine wl_det rfl rfl rfl (op_pick_t rfl rfl) ?_
  refine wl_det rfl rfl rfl (op_assign rfl) ?_
  refine wl_nil ?_
  refine st_tn ?_
  refine w_ret ?_
  refine st_ret (vs := [_]) [] Try.results12 ⟨rfl, trivial⟩ rfl ?_
  refine ⟨_, rfl, ?_⟩
  exact ⟨rfl, rfl⟩

end Go.Proofs.Ytkknlfhncheflaa
