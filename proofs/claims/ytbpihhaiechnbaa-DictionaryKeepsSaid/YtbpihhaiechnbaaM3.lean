/- Decoding a dictionary, without a program. Conditions: none. -/
import Derived.Test.YtbpihhaiechnbaaM2
namespace Go.DicM
open Go
set_option linter.unusedVariables false
set_option linter.unusedSimpArgs false
/-- What the rest of a string's decoding yields: an error, or the string and what is left. -/
def dBody (i has : Nat) (prev s : Bs) : Except Int (Bs × Bs) := match s with
  | [] => .error 4
  | b :: r => if r.length < b.toNat then .error 4 else if prev.length < has then .error 3 else
    if 255 < (prev.take has ++ r.take b.toNat).length then .error 5 else if 0 < i ∧ prev.take has ++ r.take b.toNat ≤ prev then .error 8 else
    if i % 16 ≠ 0 ∧ common prev (prev.take has ++ r.take b.toNat) ≠ has then .error 3 else .ok (prev.take has ++ r.take b.toNat, r.drop b.toNat)
def dStep (i : Nat) (prev s : Bs) : Except Int (Bs × Bs) := if i % 16 ≠ 0 then (match s with | [] => .error 4 | b :: r => dBody i b.toNat prev r) else dBody i 0 prev s
def decR : Nat → Nat → Bs → Bs → List Bs → List Bs × Int
  | 0, i, prev, s, out => if s = [] then (out, 0) else ([], 3)
  | k + 1, i, prev, s, out => match dStep i prev s with
    | .error e => ([], e)
    | .ok (x, t) => decR k (i + 1) x t (out ++ [x])
/-- Decoding: the strings and the error. -/
def dec (s : Bs) : List Bs × Int := match s with
  | a :: b :: r => if a.toNat * 256 + b.toNat > 4096 then ([], 6) else decR (a.toNat * 256 + b.toNat) 0 [] r []
  | _ => ([], 4)
theorem decR_err {n i : Nat} {prev s : Bs} {out : List Bs} {e : Int} (h : i < n) (hs : dStep i prev s = .error e) : decR (n - i) i prev s out = ([], e) := by
  rw [show n - i = (n - (i + 1)) + 1 by omega]; unfold decR; rw [hs]
theorem decR_ok {n i : Nat} {prev s x t : Bs} {out : List Bs} (h : i < n) (hs : dStep i prev s = .ok (x, t)) : decR (n - i) i prev s out = decR (n - (i + 1)) (i + 1) x t (out ++ [x]) := by
  rw [show n - i = (n - (i + 1)) + 1 by omega]; conv => lhs; unfold decR
  rw [hs]
theorem decR_len : ∀ (k i : Nat) (prev s : Bs) (out : List Bs), (decR k i prev s out).1.length ≤ out.length + k
  | 0, i, prev, s, out => by unfold decR; split <;> simp
  | k + 1, i, prev, s, out => by
    unfold decR; split
    · simp
    · rename_i x t _
      have := decR_len k (i + 1) x t (out ++ [x])
      simp at this; omega
theorem dec_len (s : Bs) : (dec s).1.length ≤ 4096 := by
  match s with
  | [] => simp [dec]
  | [a] => simp [dec]
  | a :: b :: r =>
    unfold dec
    simp only
    split
    · simp
    · have := decR_len (a.toNat * 256 + b.toNat) 0 [] r []
      simp only [List.length_nil, Nat.zero_add] at this
      exact Nat.le_trans this (by omega)
end Go.DicM
