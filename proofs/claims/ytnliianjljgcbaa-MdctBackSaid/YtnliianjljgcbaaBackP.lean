/- A sound taken by blocks and joined again is the sound, but for a little. Condition: what the kernel's checks say of the cosines and of the shape. -/
import Derived.Test.YtnliianjljgcbaaBackL
import Derived.Test.YtnliianjljgcbaaJoinP
namespace Go.Proofs.Ytnliianjljgcbaa.Kern
open Go.RowKit Go.Proofs.YtnliianjljgcbaaW.PrintWords Go.Proofs.YtnliianjljgcbaaW.PrintLast Go.Proofs.YtnliianjljgcbaaW.PrintMore Go.Proofs.Ytnliianjljgcbaa.Core Go.Proofs.Ytnliianjljgcbaa.MA Go.Proofs.Ytnliianjljgcbaa.Base Go.Proofs.Ytnliianjljgcbaa.RefA Go.Proofs.Ytnliianjljgcbaa.Cos Go.Proofs.Ytnliianjljgcbaa.Win Go.Proofs.Ytnliianjljgcbaa.Shape Go.Proofs.Ytnliianjljgcbaa.Sines Go.Proofs.Ytnliianjljgcbaa.Shaped Go.Proofs.Ytnliianjljgcbaa.Dot Go.Proofs.Ytnliianjljgcbaa.Inv Go.Proofs.Ytnliianjljgcbaa.Sums Go.Proofs.Ytnliianjljgcbaa.JoinP
theorem near {a b c : Int} (hb : 0 < b) (h : c = (a + b) / (2 * b)) : -b ≤ 2 * b * c - a ∧ 2 * b * c - a ≤ b := by
  have h1 := Int.mul_ediv_self_le (x := a + b) (k := 2 * b) (by omega)
  have h2 := Int.lt_mul_ediv_self_add (x := a + b) (k := 2 * b) (by omega)
  rw [← h] at h1 h2
  generalize 2 * b * c = q at *
  omega
def vF (n l z : Nat) (X : Nat → Int) (m : Nat) : Int := (shapeP n l z m * X m + 16384) / 32768
def fF (n l z : Nat) (X : Nat → Int) (k : Nat) : Int := (16384 + S (fun m => vF n l z X m * cw n m k) (2 * n) 0) / 32768
def dF (n l z : Nat) (X : Nat → Int) (j : Nat) : Int := (2 * S (fun k => fF n l z X k * cw n j k) n 0 + 16384 * n) / (32768 * n)
def yF (n l z : Nat) (X : Nat → Int) (j : Nat) : Int := (shapeP n l z j * dF n l z X j + 16384) / 32768
/-- what rows that are not at right angles may add -/
def Bs (n l z j : Nat) : Int := S (fun m => (dev n j m : Int) * shapeP n l z m) (2 * n) 0
def Pj (n l z : Nat) (X : Nat → Int) (j : Nat) : Int := S (fun m => ((idN n j m : Int) - 1) * vF n l z X m) (2 * n) 0
section
variable {n l z : Nat} (hz : 2 * z + l = n) (hn : n ≤ 160) (h0 : 1 ≤ n) {X : Nat → Int} (hX : ∀ m, m < 2 * n → -32768 ≤ X m ∧ X m ≤ 32768)
include hz hn hX
theorem vF_in (m : Nat) (hm : m < 2 * n) : -shapeP n l z m ≤ vF n l z X m ∧ vF n l z X m ≤ shapeP n l z m := by
  have hw := shapeP_in (n := n) (l := l) (z := z) hz (by omega) m
  have h := abs_mul_le (a := shapeP n l z m) (A := shapeP n l z m) (by omega) (hX m hm)
  unfold vF
  generalize shapeP n l z m * X m = p at *
  omega
include h0
theorem core (j : Nat) : -(1610612736 * n + Bs n l z j) ≤ 1073741824 * (n * dF n l z X j) - 1073741824 * (n * Pj n l z X j) ∧
    1073741824 * (n * dF n l z X j) - 1073741824 * (n * Pj n l z X j) ≤ 1610612736 * n + Bs n l z j := by
  have hD := near (a := 2 * S (fun k => fF n l z X k * cw n j k) n 0) (b := 16384 * n) (c := dF n l z X j) (by omega) (by unfold dF; rw [show (2 : Int) * (16384 * n) = 32768 * n by omega])
  have hF : ∀ k, -16384 ≤ 32768 * fF n l z X k - S (fun m => vF n l z X m * cw n m k) (2 * n) 0 ∧ 32768 * fF n l z X k - S (fun m => vF n l z X m * cw n m k) (2 * n) 0 ≤ 16384 := fun k =>
    near (a := S (fun m => vF n l z X m * cw n m k) (2 * n) 0) (b := 16384) (c := fF n l z X k) (by omega) (by unfold fF; rw [Int.add_comm 16384]; rfl)
  have hs : 32768 * S (fun k => fF n l z X k * cw n j k) n 0 = S (fun k => S (fun m => vF n l z X m * cw n m k) (2 * n) 0 * cw n j k) n 0 + S (fun k => (32768 * fF n l z X k - S (fun m => vF n l z X m * cw n m k) (2 * n) 0) * cw n j k) n 0 := by
    rw [← S_add, ← S_mul]
    refine S_congr _ _ (fun k _ _ => ?_)
    generalize S (fun m => vF n l z X m * cw n m k) (2 * n) 0 = T
    generalize fF n l z X k = f
    generalize cw n j k = c
    grind
  have hr := S_bd (f := fun k => (32768 * fF n l z X k - S (fun m => vF n l z X m * cw n m k) (2 * n) 0) * cw n j k) (b := fun _ => 536870912) n 0 (fun k _ _ => abs_mul_le (hF k) (cw_in n j k))
  rw [S_const] at hr
  have hsw : S (fun k => S (fun m => vF n l z X m * cw n m k) (2 * n) 0 * cw n j k) n 0 = S (fun m => vF n l z X m * S (fun k => cw n j k * cw n m k) n 0) (2 * n) 0 := by
    rw [S_congr (g := fun k => S (fun m => vF n l z X m * (cw n j k * cw n m k)) (2 * n) 0) n 0 (fun k _ _ => by
      rw [Int.mul_comm, ← S_mul]
      refine S_congr _ _ (fun m _ _ => ?_)
      generalize vF n l z X m = v; generalize cw n m k = a; generalize cw n j k = b
      grind)]
    rw [S_swap]
    refine S_congr _ _ (fun m _ _ => ?_)
    rw [S_mul]
  have hdl : 2 * S (fun m => vF n l z X m * S (fun k => cw n j k * cw n m k) n 0) (2 * n) 0 = S (fun m => dl n j m * vF n l z X m) (2 * n) 0 + 1073741824 * (n * Pj n l z X j) := by
    unfold Pj
    rw [← Int.mul_assoc, ← S_mul, ← S_mul, ← S_add]
    refine S_congr _ _ (fun m _ _ => ?_)
    unfold dl
    generalize vF n l z X m = v
    generalize S (fun k => cw n j k * cw n m k) n 0 = H
    generalize ((idN n j m : Nat) : Int) = i
    generalize (n : Int) = N
    grind
  have hb := S_bd (f := fun m => dl n j m * vF n l z X m) (b := fun m => (dev n j m : Int) * shapeP n l z m) (2 * n) 0 (fun m _ hm => abs_mul_le (dev_dl (by omega) hn j m) (vF_in hz hn hX m (by omega)))
  change -(Bs n l z j) ≤ _ ∧ _ ≤ Bs n l z j at hb
  rw [hsw] at hs
  generalize S (fun k => (32768 * fF n l z X k - S (fun m => vF n l z X m * cw n m k) (2 * n) 0) * cw n j k) n 0 = r at *
  generalize S (fun m => dl n j m * vF n l z X m) (2 * n) 0 = q at *
  generalize S (fun k => fF n l z X k * cw n j k) n 0 = s at *
  generalize S (fun m => vF n l z X m * S (fun k => cw n j k * cw n m k) n 0) (2 * n) 0 = g at *
  rw [show (2 : Int) * (16384 * n) * dF n l z X j = 32768 * (n * dF n l z X j) by rw [← Int.mul_assoc, ← Int.mul_assoc]; rfl] at hD
  generalize (n : Int) * dF n l z X j = e at *
  generalize (n : Int) * Pj n l z X j = p at *
  generalize Bs n l z j = B at *
  clear hF hX
  omega
end
theorem beqT {a b : Nat} (h : a = b) : Nat.beq a b = true := by rw [Nat.beq_eq]; exact h
theorem beqF {a b : Nat} (h : ¬ a = b) : Nat.beq a b = false := by rw [Bool.eq_false_iff]; intro hh; rw [Nat.beq_eq] at hh; exact h hh
theorem id_low {n j m : Nat} (hj : j < n) : ((idN n j m : Nat) : Int) - 1 = (if m = j then 1 else 0) - (if m = n - 1 - j then 1 else 0) := by
  unfold idN
  rw [bleF (show ¬ n ≤ j by omega), cond_false]
  by_cases c1 : m = j
  · rw [if_pos c1, show Nat.beq j m = true from beqT c1.symm, cond_true]
    by_cases c2 : m = n - 1 - j
    · rw [if_pos c2, show Nat.beq (Nat.add j m) (Nat.sub n 1) = true from beqT (show j + m = n - 1 by omega), cond_true]; rfl
    · rw [if_neg c2, show Nat.beq (Nat.add j m) (Nat.sub n 1) = false from beqF (show ¬ (j + m = n - 1) by omega), cond_false]; rfl
  · rw [if_neg c1, show Nat.beq j m = false from beqF (show ¬ (j = m) by omega), cond_false]
    by_cases c2 : m = n - 1 - j
    · rw [if_pos c2, show Nat.beq (Nat.add j m) (Nat.sub n 1) = true from beqT (show j + m = n - 1 by omega), cond_true]; rfl
    · rw [if_neg c2, show Nat.beq (Nat.add j m) (Nat.sub n 1) = false from beqF (show ¬ (j + m = n - 1) by omega), cond_false]; rfl
theorem id_high {n j m : Nat} (hj : n ≤ j) (hj2 : j < 2 * n) : ((idN n j m : Nat) : Int) - 1 = (if m = j then 1 else 0) + (if m = 3 * n - 1 - j then 1 else 0) := by
  unfold idN
  rw [bleT hj, cond_true]
  by_cases c1 : m = j
  · rw [if_pos c1, show Nat.beq j m = true from beqT c1.symm, cond_true]
    by_cases c2 : m = 3 * n - 1 - j
    · rw [if_pos c2, show Nat.beq (Nat.add j m) (Nat.sub (Nat.mul 3 n) 1) = true from beqT (show j + m = 3 * n - 1 by omega), cond_true]; rfl
    · rw [if_neg c2, show Nat.beq (Nat.add j m) (Nat.sub (Nat.mul 3 n) 1) = false from beqF (show ¬ (j + m = 3 * n - 1) by omega), cond_false]; rfl
  · rw [if_neg c1, show Nat.beq j m = false from beqF (show ¬ (j = m) by omega), cond_false]
    by_cases c2 : m = 3 * n - 1 - j
    · rw [if_pos c2, show Nat.beq (Nat.add j m) (Nat.sub (Nat.mul 3 n) 1) = true from beqT (show j + m = 3 * n - 1 by omega), cond_true]; rfl
    · rw [if_neg c2, show Nat.beq (Nat.add j m) (Nat.sub (Nat.mul 3 n) 1) = false from beqF (show ¬ (j + m = 3 * n - 1) by omega), cond_false]; rfl
theorem Pj_low {n l z : Nat} {X : Nat → Int} {j : Nat} (hj : j < n) : Pj n l z X j = vF n l z X j - vF n l z X (n - 1 - j) := by
  unfold Pj
  rw [S_congr (g := fun m => (if m = j then vF n l z X m else 0) + -1 * (if m = n - 1 - j then vF n l z X m else 0)) (2 * n) 0 (fun m _ _ => by
    rw [id_low hj]
    generalize vF n l z X m = v
    by_cases c1 : m = j <;> by_cases c2 : m = n - 1 - j <;> simp only [c1, c2, if_true, if_false] <;> (try split) <;> omega), S_add, S_mul, S_pick _ j _ _ (by omega) (by omega), S_pick _ (n - 1 - j) _ _ (by omega) (by omega)]
  omega
theorem Pj_high {n l z : Nat} {X : Nat → Int} {j : Nat} (hj : n ≤ j) (hj2 : j < 2 * n) : Pj n l z X j = vF n l z X j + vF n l z X (3 * n - 1 - j) := by
  unfold Pj
  rw [S_congr (g := fun m => (if m = j then vF n l z X m else 0) + (if m = 3 * n - 1 - j then vF n l z X m else 0)) (2 * n) 0 (fun m _ _ => by
    rw [id_high hj hj2]
    generalize vF n l z X m = v
    by_cases c1 : m = j <;> by_cases c2 : m = 3 * n - 1 - j <;> simp only [c1, c2, if_true, if_false] <;> (try split) <;> omega), S_add, S_pick _ j _ _ (by omega) (by omega), S_pick _ (3 * n - 1 - j) _ _ (by omega) (by omega)]
/-- the reckoning -/
theorem arith (u t x x' vc vc' vp vp' dc dp yc yp : Int) (hu : 0 ≤ u) (ht : 0 ≤ t) (hut : u + t ≤ 46346)
    (hpb : -210000 ≤ u * u + t * t - 1073741824 ∧ u * u + t * t - 1073741824 ≤ 210000) (hx : -32768 ≤ x ∧ x ≤ 32768)
    (h1 : -16384 ≤ 32768 * vc - u * x ∧ 32768 * vc - u * x ≤ 16384) (h2 : -16384 ≤ 32768 * vc' - t * x' ∧ 32768 * vc' - t * x' ≤ 16384)
    (h3 : -16384 ≤ 32768 * vp - t * x ∧ 32768 * vp - t * x ≤ 16384) (h4 : -16384 ≤ 32768 * vp' - u * x' ∧ 32768 * vp' - u * x' ≤ 16384)
    (hE : -(1610612736 * (u + t) + 1653867351638016) ≤ 1073741824 * (u * (dc - (vc - vc')) + t * (dp - (vp + vp'))) ∧ 1073741824 * (u * (dc - (vc - vc')) + t * (dp - (vp + vp'))) ≤ 1610612736 * (u + t) + 1653867351638016)
    (hy1 : -16384 ≤ 32768 * yc - u * dc ∧ 32768 * yc - u * dc ≤ 16384) (hy2 : -16384 ≤ 32768 * yp - t * dp ∧ 32768 * yp - t * dp ≤ 16384) :
    -64 ≤ yp + yc - x ∧ yp + yc - x ≤ 64 := by
  have a1 := abs_mul_le (a := u) (A := u) (by omega) h1
  have a2 := abs_mul_le (a := u) (A := u) (by omega) h2
  have a3 := abs_mul_le (a := t) (A := t) (by omega) h3
  have a4 := abs_mul_le (a := t) (A := t) (by omega) h4
  have a5 := abs_mul_le hpb hx
  have e1 : 32768 * (u * (vc - vc') + t * (vp + vp')) = (u * u + t * t - 1073741824) * x + 1073741824 * x + u * (32768 * vc - u * x) - u * (32768 * vc' - t * x') + t * (32768 * vp - t * x) + t * (32768 * vp' - u * x') := by grind
  have e2 : u * (dc - (vc - vc')) + t * (dp - (vp + vp')) = u * dc + t * dp - (u * (vc - vc') + t * (vp + vp')) := by grind
  rw [e2] at hE
  generalize u * (vc - vc') + t * (vp + vp') = P at *
  generalize (u * u + t * t - 1073741824) * x = p5 at *
  generalize u * (32768 * vc - u * x) = p1 at *
  generalize u * (32768 * vc' - t * x') = p2 at *
  generalize t * (32768 * vp - t * x) = p3 at *
  generalize t * (32768 * vp' - u * x') = p4 at *
  generalize u * dc = q1 at *
  generalize t * dp = q2 at *
  clear h1 h2 h3 h4 hpb e2
  omega
end Go.Proofs.Ytnliianjljgcbaa.Kern
