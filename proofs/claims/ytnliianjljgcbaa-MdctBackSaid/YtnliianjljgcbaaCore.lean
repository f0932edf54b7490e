/- Plain arithmetic that the functions of this seat come to: bounds, products, quotients, lists that are filled place by place. No condition. -/
import Derived.RowKit
namespace Go.Proofs.Ytnliianjljgcbaa.Core
open Go.RowKit

theorem wrap_id {n : Int} (h1 : -9223372036854775808 ≤ n) (h2 : n ≤ 9223372036854775807) : wrap64 n = n := by
  unfold wrap64; omega

/-- a number between two others -/
def clamp (a lo hi : Int) : Int := if lo > hi then lo else if a < lo then lo else if a > hi then hi else a

theorem clamp_bd {a lo hi : Int} (h : lo ≤ hi) : lo ≤ clamp a lo hi ∧ clamp a lo hi ≤ hi := by
  unfold clamp; split
  · omega
  · split
    · omega
    · split <;> omega

theorem clamp_id {a lo hi : Int} (h1 : lo ≤ a) (h2 : a ≤ hi) : clamp a lo hi = a := by
  unfold clamp; rw [if_neg (by omega), if_neg (by omega), if_neg (by omega)]

def fac (a : Int) : Int := clamp a (-2147483648) 2147483648
theorem fac_bd (a : Int) : -2147483648 ≤ fac a ∧ fac a ≤ 2147483648 := clamp_bd (by omega)

theorem mul_le_of {x y A B : Int} (hx : -A ≤ x ∧ x ≤ A) (hy : -B ≤ y ∧ y ≤ B) : -(A * B) ≤ x * y ∧ x * y ≤ A * B := by
  have h1 : 0 ≤ (A - x) * (B + y) := Int.mul_nonneg (by omega) (by omega)
  have h2 : 0 ≤ (A + x) * (B - y) := Int.mul_nonneg (by omega) (by omega)
  have h3 : 0 ≤ (A - x) * (B - y) := Int.mul_nonneg (by omega) (by omega)
  have h4 : 0 ≤ (A + x) * (B + y) := Int.mul_nonneg (by omega) (by omega)
  simp only [Int.sub_mul, Int.add_mul, Int.mul_sub, Int.mul_add] at h1 h2 h3 h4
  have c1 : A * y = y * A := Int.mul_comm _ _
  constructor <;> omega

theorem fac_mul_bd (a b : Int) : -4611686018427387904 ≤ fac a * fac b ∧ fac a * fac b ≤ 4611686018427387904 := by
  have := mul_le_of (A := 2147483648) (B := 2147483648) (by have := fac_bd a; omega) (by have := fac_bd b; omega)
  omega

/-- a product, divided by 2^s, rounded -/
def mul (a b : Int) (s : Nat) : Int := if s = 0 then fac a * fac b else (fac a * fac b + 2 ^ (s - 1)) / 2 ^ s

theorem pow_mono_int {a b : Nat} (h : a ≤ b) : (2 : Int) ^ a ≤ 2 ^ b := by
  have : (2 : Nat) ^ a ≤ 2 ^ b := Nat.pow_le_pow_right (by omega) h
  exact_mod_cast this

theorem pow_pos_int (a : Nat) : (0 : Int) < 2 ^ a := by
  have : 0 < (2 : Nat) ^ a := Nat.pow_pos (by omega)
  exact_mod_cast this

/-- a quotient, the first number times a power of two, down -/
def div (a b : Int) (s : Nat) : Int := if fac b = 0 then 0 else if fac b < 0 then (-(fac a * 2 ^ s)) / (-(fac b)) else (fac a * 2 ^ s) / fac b

/-- Places i, i + 1, .. (d of them) of a list are written. -/
def fill (F : Nat → Int) : List Int → Nat → Nat → List Int
  | xs, _, 0 => xs
  | xs, i, d + 1 => fill F (xs.set i (F i)) (i + 1) d

theorem fill_length (F : Nat → Int) : ∀ (d i : Nat) (xs : List Int), (fill F xs i d).length = xs.length
  | 0, _, _ => rfl
  | d + 1, i, xs => by rw [fill, fill_length F d]; simp

theorem fill_get (F : Nat → Int) : ∀ (d i : Nat) (xs : List Int) (j : Nat), (fill F xs i d)[j]? = if i ≤ j ∧ j < i + d ∧ j < xs.length then some (F j) else xs[j]?
  | 0, i, xs, j => by rw [fill, if_neg (by omega)]
  | d + 1, i, xs, j => by
    rw [fill, fill_get F d, List.length_set, List.getElem?_set]
    by_cases h1 : j < xs.length
    · by_cases h2 : i = j
      · subst h2; rw [if_neg (by omega), if_pos rfl, if_pos h1, if_pos (by omega)]
      · rw [if_neg h2]
        by_cases h3 : i ≤ j ∧ j < i + (d + 1)
        · rw [if_pos (by omega), if_pos (by omega)]
        · rw [if_neg (by omega), if_neg (by omega)]
    · rw [if_neg (by omega)]
      by_cases h2 : i = j
      · subst h2; rw [if_pos rfl, if_neg h1, if_neg (by omega), List.getElem?_eq_none (by omega)]
      · rw [if_neg h2, if_neg (by omega)]

theorem fill_all (F : Nat → Int) (xs : List Int) : fill F xs 0 xs.length = (List.range xs.length).map F := by
  apply List.ext_getElem?
  intro j
  rw [fill_get, List.getElem?_map]
  by_cases h : j < xs.length
  · rw [if_pos (by omega), List.getElem?_range h]; rfl
  · rw [if_neg (by omega), List.getElem?_eq_none (by omega), List.getElem?_eq_none (by simp; omega)]; rfl

theorem fill_congr {F G : Nat → Int} : ∀ (d i : Nat) (xs : List Int), (∀ j, i ≤ j → j < i + d → F j = G j) → fill F xs i d = fill G xs i d
  | 0, _, _, _ => rfl
  | d + 1, i, xs, h => by rw [fill, fill, h i (by omega) (by omega), fill_congr d (i + 1) _ (fun j h1 h2 => h j (by omega) (by omega))]

end Go.Proofs.Ytnliianjljgcbaa.Core
