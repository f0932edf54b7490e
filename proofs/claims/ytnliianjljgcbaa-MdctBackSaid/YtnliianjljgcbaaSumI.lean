/- Sums over the whole numbers. No condition. -/
import Derived.Test.YtnliianjljgcbaaKernC
namespace Go.Proofs.Ytnliianjljgcbaa.Kern
open Go.RowKit Go.Proofs.YtnliianjljgcbaaW.PrintWords Go.Proofs.YtnliianjljgcbaaW.PrintLast Go.Proofs.YtnliianjljgcbaaW.PrintMore Go.Proofs.Ytnliianjljgcbaa.Core Go.Proofs.Ytnliianjljgcbaa.MA Go.Proofs.Ytnliianjljgcbaa.Base Go.Proofs.Ytnliianjljgcbaa.RefA Go.Proofs.Ytnliianjljgcbaa.Cos Go.Proofs.Ytnliianjljgcbaa.Win Go.Proofs.Ytnliianjljgcbaa.Shape Go.Proofs.Ytnliianjljgcbaa.Sines Go.Proofs.Ytnliianjljgcbaa.Shaped Go.Proofs.Ytnliianjljgcbaa.Dot Go.Proofs.Ytnliianjljgcbaa.Inv Go.Proofs.Ytnliianjljgcbaa.Sums
def S (f : Nat → Int) : Nat → Nat → Int
  | 0, _ => 0
  | d + 1, i => f i + S f d (i + 1)
theorem S_cast (f : Nat → Nat) : ∀ d i, ((sm f d i : Nat) : Int) = S (fun k => (f k : Int)) d i
  | 0, i => rfl
  | d + 1, i => by rw [sm_succ, S, Int.natCast_add, S_cast f d (i + 1)]
theorem S_congr {f g : Nat → Int} : ∀ d i, (∀ k, i ≤ k → k < i + d → f k = g k) → S f d i = S g d i
  | 0, i, _ => rfl
  | d + 1, i, h => by rw [S, S, h i (by omega) (by omega), S_congr d (i + 1) (fun k h1 h2 => h k (by omega) (by omega))]
theorem S_add (f g : Nat → Int) : ∀ d i, S (fun k => f k + g k) d i = S f d i + S g d i
  | 0, i => rfl
  | d + 1, i => by rw [S, S, S, S_add f g d (i + 1)]; omega
theorem S_mul (c : Int) (f : Nat → Int) : ∀ d i, S (fun k => c * f k) d i = c * S f d i
  | 0, i => by simp [S]
  | d + 1, i => by rw [S, S, S_mul c f d (i + 1), Int.mul_add]
theorem S_const (c : Int) : ∀ d i, S (fun _ => c) d i = d * c
  | 0, i => by simp [S]
  | d + 1, i => by rw [S, S_const c d (i + 1), Int.natCast_add, Int.add_mul]; omega
theorem S_zero : ∀ d i, S (fun _ => 0) d i = 0 := fun d i => by rw [S_const]; simp
theorem S_bd {f b : Nat → Int} : ∀ d i, (∀ k, i ≤ k → k < i + d → -b k ≤ f k ∧ f k ≤ b k) → -(S b d i) ≤ S f d i ∧ S f d i ≤ S b d i
  | 0, i, _ => by simp [S]
  | d + 1, i, h => by
    have h1 := h i (by omega) (by omega)
    have h2 := S_bd d (i + 1) (fun k h1 h2 => h k (by omega) (by omega))
    rw [S, S]; omega
theorem S_swap (f : Nat → Nat → Int) (e j : Nat) : ∀ d i, S (fun k => S (fun m => f k m) e j) d i = S (fun m => S (fun k => f k m) d i) e j
  | 0, i => by simp only [S]; rw [S_zero]
  | d + 1, i => by
    have e1 : (fun m => S (fun k => f k m) (d + 1) i) = fun m => f i m + S (fun k => f k m) d (i + 1) := rfl
    rw [e1, S_add, S, S_swap f e j d (i + 1)]
theorem S_none (g : Nat → Int) (a : Nat) : ∀ d i, a < i ∨ i + d ≤ a → S (fun m => if m = a then g m else 0) d i = 0
  | 0, i, _ => rfl
  | d + 1, i, h => by rw [S, if_neg (by omega), S_none g a d (i + 1) (by omega)]; rfl
theorem S_pick (g : Nat → Int) (a : Nat) : ∀ d i, i ≤ a → a < i + d → S (fun m => if m = a then g m else 0) d i = g a
  | 0, i, h1, h2 => absurd h1 (by omega)
  | d + 1, i, h1, h2 => by
    by_cases c : i = a
    · rw [S, if_pos c, S_none g a d (i + 1) (by omega), c]; omega
    · rw [S, if_neg c, S_pick g a d (i + 1) (by omega) (by omega)]; omega
theorem abs_mul_le {a b A B : Int} (h1 : -A ≤ a ∧ a ≤ A) (h2 : -B ≤ b ∧ b ≤ B) : -(A * B) ≤ a * b ∧ a * b ≤ A * B := mul_le_of h1 h2
/-- a walk along a table, as a sum -/
theorem dotE_sum (t : List Int) (m step P : Nat) (hs : step < m) (V : Nat → Int) : ∀ (l : List Int) (i0 : Nat), (∀ k, k < l.length → l.getD k 0 = V (i0 + k)) →
    dotE t m step l ((P + i0 * step) % m) = S (fun i => V i * t.getD ((P + i * step) % m) 0) l.length i0
  | [], i0, _ => rfl
  | a :: cs, i0, h => by
    have h0 := h 0 (by simp)
    rw [List.getD_cons_zero, Nat.add_zero] at h0
    have hp : (P + i0 * step) % m < m := Nat.mod_lt _ (by omega)
    have e1 : (if m ≤ (P + i0 * step) % m + step then (P + i0 * step) % m + step - m else (P + i0 * step) % m + step) = (P + (i0 + 1) * step) % m := by
      have e2 : (P + (i0 + 1) * step) % m = ((P + i0 * step) % m + step) % m := by rw [Nat.mod_add_mod, Nat.add_mul, Nat.one_mul, Nat.add_assoc]
      rw [e2]
      generalize (P + i0 * step) % m = q at *
      by_cases c : m ≤ q + step
      · rw [if_pos c, Nat.mod_eq_sub_mod c, Nat.mod_eq_of_lt (by omega)]
      · rw [if_neg c, Nat.mod_eq_of_lt (by omega)]
    rw [dotE, e1, dotE_sum t m step P hs V cs (i0 + 1) (fun k hk => by have := h (k + 1) (by rw [List.length_cons]; omega); rw [List.getD_cons_succ] at this; rw [this]; congr 1; omega), List.length_cons, S, h0]
end Go.Proofs.Ytnliianjljgcbaa.Kern
