/- What the small functions of package fix, of the programs and of the references, come to: bounds, products, walks. No condition but the shifts' bounds. -/
import Derived.Test.YtnliianjljgcbaaMAx1
import Derived.Test.YtnliianjljgcbaaCore
namespace Go.Proofs.Ytnliianjljgcbaa.Base
open Go.RowKit Go.Proofs.YtnliianjljgcbaaW.PrintWords Go.Proofs.YtnliianjljgcbaaW.PrintLast Go.Proofs.YtnliianjljgcbaaW.PrintMore Go.Proofs.Ytnliianjljgcbaa.Core Go.Proofs.Ytnliianjljgcbaa.MA

theorem i64wrap (n : Int) : IntKind.i64.wrap n = wrap64 n := i64_w n

theorem clamp_ev (a lo hi : Int) : Ev (fun k => fix_Clamp.f k a lo hi) (clamp a lo hi) := by
  refine ⟨1, fun k hk => ?_⟩
  obtain ⟨k, rfl⟩ : ∃ m, k = m + 1 := ⟨k - 1, by omega⟩
  simp only [fix_Clamp.f, fix_Clamp.j0, clamp]
  by_cases h1 : lo > hi
  · simp [h1]
  · by_cases h2 : a < lo
    · simp [h1, h2]
    · by_cases h3 : a > hi
      · simp [h1, h2, h3]
      · simp [h1, h2, h3]

theorem fac_ev (a : Int) : Ev (fun k => fix_factor.f k a) (fac a) := by
  unfold fix_factor.f
  exact Ev.bind (clamp_ev a _ _) (Ev.now _)

/-- a product, divided by 2^s, rounded (s from 1 to 62) -/
def mulI (a b s : Int) : Int := (fac a * fac b + 2 ^ (s - 1).toNat) / 2 ^ s.toNat

theorem pow_le_int {a b : Nat} (h : a ≤ b) : (2 : Int) ^ a ≤ 2 ^ b := pow_mono_int h

theorem mul_ev (a b s : Int) (h1 : 1 ≤ s) (h2 : s ≤ 62) : Ev (fun k => fix_Mul.f k a b s) (mulI a b s) := by
  unfold fix_Mul.f
  refine Ev.bind (fac_ev a) ?_
  refine Ev.bind (fac_ev b) ?_
  refine ⟨0, fun k _ => ?_⟩
  have hb := fac_mul_bd a b
  have hp := pow_le_int (a := (s - 1).toNat) (b := 61) (by omega)
  have hq := pow_pos_int (s - 1).toNat
  have e1 : wrap64 (s - 1) = s - 1 := wrap_id (by omega) (by omega)
  have e2 : wrap64 (fac a * fac b) = fac a * fac b := wrap_id (by omega) (by omega)
  have hp' : (2 : Int) ^ (s - 1).toNat ≤ 2305843009213693952 := hp
  have e3 : shl .i64 1 (s - 1) = 2 ^ (s - 1).toNat := by
    unfold shl
    have hm : min (s - 1).toNat IntKind.i64.bits = (s - 1).toNat := Nat.min_eq_left (by show _ ≤ 64; omega)
    rw [i64wrap, hm, Int.one_mul]
    exact wrap_id (by omega) (by omega)
  have e4 : wrap64 (fac a * fac b + 2 ^ (s - 1).toNat) = fac a * fac b + 2 ^ (s - 1).toNat := wrap_id (by omega) (by omega)
  show (if s = 0 then _ else _) = _
  rw [if_neg (by omega), if_neg (by omega), if_neg (by omega), e1, if_pos (by omega), if_pos (by omega), e2, e3, e4]
  unfold shr mulI
  have hm : min s.toNat IntKind.i64.bits = s.toNat := Nat.min_eq_left (by show _ ≤ 64; omega)
  rw [hm]

theorem ediv_bd {a d B : Int} (hd : 0 < d) (h : -B ≤ a ∧ a ≤ B) : -B ≤ a / d ∧ a / d ≤ B := by
  have hB : 0 ≤ B := by omega
  constructor
  · have : -B ≤ a / d ↔ -B * d ≤ a := Int.le_ediv_iff_mul_le hd
    rw [this]
    have : B * 1 ≤ B * d := Int.mul_le_mul_of_nonneg_left (by omega) hB
    rw [Int.neg_mul]; omega
  · have h2 : a / d ≤ B ↔ a < (B + 1) * d := by
      rw [← Int.lt_add_one_iff, Int.ediv_lt_iff_lt_mul hd]
    rw [h2]
    have : (B + 1) * 1 ≤ (B + 1) * d := Int.mul_le_mul_of_nonneg_left (by omega) (by omega)
    omega

theorem ev_pos {α : Type} {c : Prop} [Decidable c] {f g : Nat → Option α} {r : α} (h : c) (hf : Ev f r) : Ev (fun k => if c then f k else g k) r := by
  simpa only [if_pos h] using hf
theorem ev_neg {α : Type} {c : Prop} [Decidable c] {f g : Nat → Option α} {r : α} (h : ¬ c) (hf : Ev g r) : Ev (fun k => if c then f k else g k) r := by
  simpa only [if_neg h] using hf
theorem ev_some {α β : Type} {x : α} {f : Nat → α → Option β} {r : β} (h : Ev (fun k => f k x) r) : Ev (fun k => (some x).bind (f k)) r := h
theorem ev_bind' {α β : Type} {x : Option α} {a : α} {f : Nat → α → Option β} {r : β} (hx : x = some a) (h : Ev (fun k => f k a) r) : Ev (fun k => x.bind (f k)) r := by
  subst hx; exact h
theorem rd_nat (xs : List Int) (n : Nat) : rd xs (n : Int) = xs.getD n 0 := by simp [rd]
theorem wsucc {n : Nat} (h : n < 4611686018427387904) : wrap64 ((n : Int) + 1) = ((n + 1 : Nat) : Int) := by rw [wrap_id] <;> omega
theorem wsub {n k : Nat} (h : n < 4611686018427387904) (hk : k ≤ n) : wrap64 ((n : Int) - k) = ((n - k : Nat) : Int) := by rw [wrap_id] <;> omega

end Go.Proofs.Ytnliianjljgcbaa.Base
