/- The encoded form of a dictionary, without a program. Conditions: none. -/
import Derived.Test.YtbpihhaiechnbaaM1
namespace Go.DicM
open Go
set_option linter.unusedVariables false
set_option linter.unusedSimpArgs false
/-- How many first bytes two strings have in common. -/
def common : Bs → Bs → Nat
  | a :: x, b :: y => if a = b then common x y + 1 else 0
  | _, _ => 0
theorem common_le : ∀ (x y : Bs), common x y ≤ x.length ∧ common x y ≤ y.length
  | [], y => by simp [common]
  | a :: x, [] => by simp [common]
  | a :: x, b :: y => by
    unfold common; split
    · have := common_le x y; simp; omega
    · simp
theorem common_get : ∀ {x y : Bs} {i : Nat}, i < common x y → x[i]? = y[i]?
  | [], y, i, h => by simp [common] at h
  | a :: x, [], i, h => by simp [common] at h
  | a :: x, b :: y, i, h => by
    unfold common at h
    split at h
    · rename_i hab; subst hab
      cases i with
      | zero => rfl
      | succ i => simpa using common_get (x := x) (y := y) (i := i) (by omega)
    · omega
theorem common_of : ∀ {x y : Bs} {n : Nat}, (∀ i, i < n → x[i]? = y[i]?) → n ≤ x.length → n ≤ y.length → (∀ a b, x[n]? = some a → y[n]? = some b → a ≠ b) → common x y = n
  | [], y, n, _, h2, _, _ => by simp at h2; subst h2; rfl
  | a :: x, [], n, _, _, h3, _ => by simp at h3; subst h3; rfl
  | a :: x, b :: y, 0, _, _, _, h4 => by
    have := h4 a b rfl rfl
    unfold common; rw [if_neg this]
  | a :: x, b :: y, n + 1, h1, h2, h3, h4 => by
    have h0 := h1 0 (by omega)
    simp at h0; subst h0
    unfold common; rw [if_pos rfl]
    rw [common_of (x := x) (y := y) (n := n) (fun i hi => by simpa using h1 (i + 1) (by omega)) (by simpa using h2) (by simpa using h3) (fun c d hc hd => h4 c d (by simpa using hc) (by simpa using hd))]
theorem common_take {x y : Bs} : x.take (common x y) = y.take (common x y) := by
  apply List.ext_getElem?
  intro i
  rw [List.getElem?_take, List.getElem?_take]
  split
  · rename_i h; exact common_get h
  · rfl
/-- How many bytes the string with an index takes over from the one before. -/
def nAt (d : List Bs) (i : Nat) : Nat := if i % 16 ≠ 0 then common (d.getD (i - 1) []) (d.getD i []) else 0
theorem nAt_le (d : List Bs) (i : Nat) : nAt d i ≤ (d.getD i []).length := by unfold nAt; split; (· exact (common_le _ _).2); (· omega)
/-- The bytes of the string with an index. -/
def encAt (d : List Bs) (i : Nat) : List UInt8 := (if i % 16 ≠ 0 then [UInt8.ofNat (nAt d i)] else []) ++ UInt8.ofNat ((d.getD i []).length - nAt d i) :: (d.getD i []).drop (nAt d i)
/-- The first two bytes, and those of the first k strings. -/
def encTo (d : List Bs) : Nat → List UInt8
  | 0 => [UInt8.ofNat (d.length / 256), UInt8.ofNat (d.length % 256)]
  | k + 1 => encTo d k ++ encAt d k
def enc (d : List Bs) : List UInt8 := encTo d d.length
theorem encAt_len (d : List Bs) (i : Nat) : (encAt d i).length = 1 + (d.getD i []).length + (if i % 16 ≠ 0 then 1 else 0) - nAt d i := by
  have := nAt_le d i
  unfold encAt; split <;> simp only [List.length_append, List.length_cons, List.length_drop, List.length_nil] <;> omega
theorem encTo_len_le (d : List Bs) (h : ∀ x ∈ d, x.length ≤ 255) : ∀ k, k ≤ d.length → (encTo d k).length ≤ 2 + 257 * k
  | 0, _ => by simp [encTo]
  | k + 1, hk => by
    have ih := encTo_len_le d h k (by omega)
    have h1 := encAt_len d k
    have h2 : (d.getD k []).length ≤ 255 := h _ (by rw [List.getD_eq_getElem?_getD, List.getElem?_eq_getElem (by omega : k < d.length)]; exact List.getElem_mem _)
    show (encTo d k ++ encAt d k).length ≤ _
    rw [List.length_append]
    split at h1 <;> omega
theorem encTo_mono (d : List Bs) : ∀ {k m : Nat}, k ≤ m → (encTo d k).length ≤ (encTo d m).length
  | k, 0, h => by obtain rfl : k = 0 := by omega
                  exact Nat.le_refl _
  | k, m + 1, h => by
    rcases Nat.lt_or_eq_of_le h with h | h
    · have := encTo_mono d (k := k) (m := m) (by omega)
      show _ ≤ (encTo d m ++ encAt d m).length
      rw [List.length_append]; omega
    · subst h; exact Nat.le_refl _
end Go.DicM
