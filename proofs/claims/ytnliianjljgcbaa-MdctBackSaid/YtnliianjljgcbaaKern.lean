/- Numbers that the kernel reckons fast: cosines, tables packed in one number, products of rows by one product. Condition: digits that stay below the base. -/
import Derived.Test.YtnliianjljgcbaaSums
namespace Go.Proofs.Ytnliianjljgcbaa.Kern
open Go.RowKit Go.Proofs.YtnliianjljgcbaaW.PrintWords Go.Proofs.YtnliianjljgcbaaW.PrintLast Go.Proofs.YtnliianjljgcbaaW.PrintMore Go.Proofs.Ytnliianjljgcbaa.Core Go.Proofs.Ytnliianjljgcbaa.MA Go.Proofs.Ytnliianjljgcbaa.Base Go.Proofs.Ytnliianjljgcbaa.RefA Go.Proofs.Ytnliianjljgcbaa.Cos Go.Proofs.Ytnliianjljgcbaa.Win Go.Proofs.Ytnliianjljgcbaa.Shape Go.Proofs.Ytnliianjljgcbaa.Sines Go.Proofs.Ytnliianjljgcbaa.Shaped Go.Proofs.Ytnliianjljgcbaa.Dot Go.Proofs.Ytnliianjljgcbaa.Inv Go.Proofs.Ytnliianjljgcbaa.Sums
/-- a quarter's cosines, low angles -/
def qLow (v : Nat) : Nat :=
  (fun u => (fun x => (fun s1 => (fun t2 => (fun s3 => (fun t4 => (fun s5 => Nat.div (Nat.add s5 16384) 32768)
    (Nat.div (Nat.sub 1152921505143717888 (Nat.mul x t4)) 1073741824))
    (Nat.sub 536870912 (Nat.div (Nat.add (Nat.mul x s3) 536870912) 1073741824)))
    (Nat.div (Nat.sub 48038396920070144 (Nat.mul x t2)) 1073741824))
    (Nat.sub 1491308 (Nat.div (Nat.add (Nat.mul x s1) 536870912) 1073741824)))
    (Nat.div (Nat.sub 28595355385856 (Nat.mul 296 x)) 1073741824))
    (Nat.div (Nat.add (Nat.mul u u) 536870912) 1073741824))
    (Nat.div (Nat.add (Nat.mul v 1686629713) 8192) 16384)
/-- high angles, by what is lacking to the quarter -/
def qHigh (y : Nat) : Nat :=
  (fun u => (fun x => (fun t1 => (fun s2 => (fun t3 => (fun s4 => Nat.div (Nat.add (Nat.div (Nat.add (Nat.mul u s4) 536870912) 1073741824) 16384) 32768)
    (Nat.div (Nat.sub 1152921505143717888 (Nat.mul x t3)) 1073741824))
    (Nat.sub 178956971 (Nat.div (Nat.add (Nat.mul x s2) 536870912) 1073741824)))
    (Nat.div (Nat.sub 9607680243007488 (Nat.mul x t1)) 1073741824))
    (Nat.sub 213044 (Nat.div (Nat.add (Nat.mul 2959 x) 536870912) 1073741824)))
    (Nat.div (Nat.add (Nat.mul u u) 536870912) 1073741824))
    (Nat.div (Nat.add (Nat.mul y 1686629713) 8192) 16384)
def qN (v : Nat) : Nat := bif Nat.ble v 8192 then qLow v else qHigh (Nat.sub 16384 v)
/-- 32768 and a cosine; the angle at most 65536 -/
def cN (a : Nat) : Nat := bif Nat.ble a 16384 then Nat.add 32768 (qN a) else bif Nat.ble a 32768 then Nat.sub 32768 (qN (Nat.sub 32768 a)) else bif Nat.ble a 49151 then Nat.sub 32768 (qN (Nat.sub a 32768)) else Nat.add 32768 (qN (Nat.sub 65536 a))
def oN (n p : Nat) : Nat := cN (Nat.div (Nat.add (Nat.div (Nat.mul p 16384) n) 1) 2)
/-- digits packed -/
def pk (f : Nat → Nat) (B : Nat) (d : Nat) : Nat → Nat := Nat.rec (fun _ => 0) (fun _ ih i => Nat.add (f i) (Nat.mul B (ih (Nat.succ i)))) d
def sm (f : Nat → Nat) (d : Nat) : Nat → Nat := Nat.rec (fun _ => 0) (fun _ ih i => Nat.add (f i) (ih (Nat.succ i))) d
theorem pk_succ (f : Nat → Nat) (B d i : Nat) : pk f B (d + 1) i = f i + B * pk f B d (i + 1) := rfl
theorem sm_succ (f : Nat → Nat) (d i : Nat) : sm f (d + 1) i = f i + sm f d (i + 1) := rfl
theorem pk_zero (f : Nat → Nat) (B i : Nat) : pk f B 0 i = 0 := rfl
theorem sm_zero (f : Nat → Nat) (i : Nat) : sm f 0 i = 0 := rfl

theorem pk_digit (f : Nat → Nat) (B : Nat) (hB : 0 < B) : ∀ (d i p : Nat), (∀ k, i ≤ k → k < i + d → f k < B) → p < d → pk f B d i / B ^ p % B = f (i + p)
  | 0, i, p, _, h => absurd h (by omega)
  | d + 1, i, 0, hf, _ => by rw [pk_succ, Nat.pow_zero, Nat.div_one, Nat.add_mul_mod_self_left, Nat.add_zero, Nat.mod_eq_of_lt (hf i (by omega) (by omega))]
  | d + 1, i, p + 1, hf, h => by
    rw [pk_succ, Nat.pow_succ, Nat.mul_comm (B ^ p) B, ← Nat.div_div_eq_div_mul, Nat.add_mul_div_left _ _ hB, Nat.div_eq_of_lt (hf i (by omega) (by omega)), Nat.zero_add, pk_digit f B hB d (i + 1) p (fun k h1 h2 => hf k (by omega) (by omega)) (by omega)]
    congr 1; omega

theorem pk_last (f : Nat → Nat) (B : Nat) : ∀ (d i : Nat), pk f B (d + 1) i = pk f B d i + B ^ d * f (i + d)
  | 0, i => by rw [pk_succ, pk_zero, pk_zero, Nat.pow_zero]; simp
  | d + 1, i => by
    rw [pk_succ, pk_last f B d (i + 1), pk_succ, show i + 1 + d = i + (d + 1) by omega]
    generalize f (i + (d + 1)) = y
    grind

/-- ones -/
def ge (B : Nat) : Nat → Nat
  | 0 => 0
  | n + 1 => 1 + B * ge B n
theorem ge_pow (B : Nat) (hB : 1 ≤ B) : ∀ n, (B - 1) * ge B n + 1 = B ^ n
  | 0 => by simp [ge]
  | n + 1 => by
    have ih := ge_pow B hB n
    obtain ⟨C, rfl⟩ : ∃ C, B = C + 1 := ⟨B - 1, by omega⟩
    rw [Nat.add_sub_cancel] at ih ⊢
    rw [ge, Nat.pow_succ, ← ih]
    grind
theorem pk_le (f : Nat → Nat) (B D : Nat) (hf : ∀ k, f k ≤ D) : ∀ (d i : Nat), pk f B d i ≤ D * ge B d
  | 0, i => by rw [pk_zero]; exact Nat.zero_le _
  | d + 1, i => by
    have h := Nat.mul_le_mul_left B (pk_le f B D hf d (i + 1))
    rw [pk_succ, ge, Nat.mul_add, Nat.mul_one, Nat.mul_left_comm D B]
    exact Nat.add_le_add (hf i) h

theorem conv (f g : Nat → Nat) (B D : Nat) (hB : 1 ≤ B) (hf : ∀ k, f k ≤ D) (hg : ∀ k, g k ≤ D) (j : Nat) : ∀ (n i c : Nat), c = i + j + n →
    ∃ low hi, pk f B (n + 1) i * pk g B (n + 1) j = low + B ^ n * sm (fun k => f k * g (c - k)) (n + 1) i + B ^ (n + 1) * hi ∧ low ≤ (n + 1) * (D * D) * ge B n
  | 0, i, c, h => by
    refine ⟨0, 0, ?_, Nat.zero_le _⟩
    rw [pk_succ, pk_succ, pk_zero, pk_zero, sm_succ, sm_zero, show c - i = j by omega]
    simp
  | n + 1, i, c, h => by
    obtain ⟨low, hi, he, hl⟩ := conv f g B D hB hf hg j n (i + 1) c (by omega)
    refine ⟨f i * pk g B (n + 1) j + B * low, hi + pk f B (n + 1) (i + 1) * g (j + (n + 1)), ?_, ?_⟩
    · rw [pk_succ f B (n + 1) i, pk_last g B (n + 1) j, sm_succ, show c - i = j + (n + 1) by omega]
      generalize hV : pk f B (n + 1) (i + 1) = V at *
      generalize hR : pk g B (n + 1) j = R at *
      generalize sm (fun k => f k * g (c - k)) (n + 1) (i + 1) = s at *
      generalize g (j + (n + 1)) = y at *
      generalize f i = x at *
      have e1 : (x + B * V) * (R + B ^ (n + 1) * y) = x * R + B ^ (n + 1) * (x * y) + B * (V * R) + B ^ (n + 1) * B * (V * y) := by
        generalize B ^ (n + 1) = P
        clear he hl
        grind
      rw [e1, he]
      clear e1 he hl
      have p1 : B ^ (n + 1) = B ^ n * B := Nat.pow_succ B n
      have p2 : B ^ (n + 1 + 1) = B ^ n * B * B := by rw [← p1]; exact Nat.pow_succ B (n + 1)
      rw [p2, p1]
      generalize B ^ n = P
      grind
    · have h1 : f i * pk g B (n + 1) j ≤ D * (D * ge B (n + 1)) := Nat.mul_le_mul (hf i) (pk_le g B D hg (n + 1) j)
      have h2 : B * low ≤ (n + 1) * (D * D) * (B * ge B n) := by
        have := Nat.mul_le_mul_left B hl
        rwa [Nat.mul_left_comm] at this
      have h3 : (n + 1) * (D * D) * (B * ge B n) ≤ (n + 1) * (D * D) * ge B (n + 1) := Nat.mul_le_mul_left _ (by rw [ge]; omega)
      have h4 : (n + 1 + 1) * (D * D) * ge B (n + 1) = (n + 1) * (D * D) * ge B (n + 1) + D * (D * ge B (n + 1)) := by
        rw [Nat.add_mul (n + 1) 1, Nat.one_mul, Nat.add_mul, Nat.mul_assoc D D]
      omega

theorem sm_le (f : Nat → Nat) (D : Nat) (hf : ∀ k, f k ≤ D) : ∀ d i, sm f d i ≤ d * D
  | 0, i => by rw [sm_zero]; omega
  | d + 1, i => by rw [sm_succ, Nat.add_mul]; have := sm_le f D hf d (i + 1); have := hf i; omega

theorem conv_digit (f g : Nat → Nat) (B D n : Nat) (hf : ∀ k, f k ≤ D) (hg : ∀ k, g k ≤ D) (hB : (n + 1) * (D * D) < B) :
    pk f B (n + 1) 0 * pk g B (n + 1) 0 / B ^ n % B = sm (fun k => f k * g (n - k)) (n + 1) 0 := by
  obtain ⟨low, hi, he, hl⟩ := conv f g B D (by omega) hf hg 0 n 0 n (by omega)
  have hp := ge_pow B (by omega) n
  have h1 : (n + 1) * (D * D) * ge B n ≤ (B - 1) * ge B n := Nat.mul_le_mul_right _ (by omega)
  have hlt : low < B ^ n := by omega
  have hs : sm (fun k => f k * g (n - k)) (n + 1) 0 ≤ (n + 1) * (D * D) := sm_le _ _ (fun k => Nat.mul_le_mul (hf k) (hg _)) _ _
  rw [he]
  generalize sm (fun k => f k * g (n - k)) (n + 1) 0 = s at *
  rw [Nat.pow_succ, Nat.mul_assoc, Nat.add_assoc, ← Nat.mul_add, Nat.add_mul_div_left _ _ (by omega), Nat.div_eq_of_lt hlt, Nat.zero_add, Nat.add_mul_mod_self_left, Nat.mod_eq_of_lt (by omega)]

def T (n : Nat) : Nat := pk (oN n) 131072 (Nat.mul 8 n) 0
def dig (t p : Nat) : Nat := Nat.mod (Nat.div t (Nat.pow 131072 p)) 131072
def at_ (n j k : Nat) : Nat := Nat.mod (Nat.mul (Nat.add (Nat.add (Nat.mul 2 j) 1) n) (Nat.add (Nat.mul 2 k) 1)) (Nat.mul 8 n)
def Rw (n j : Nat) : Nat := pk (fun k => dig (T n) (at_ n j k)) 1099511627776 n 0
def Rv (n j : Nat) : Nat := pk (fun k => dig (T n) (at_ n j (Nat.sub (Nat.sub n 1) k))) 1099511627776 n 0
def Sm (n j : Nat) : Nat := sm (fun k => dig (T n) (at_ n j k)) n 0
def dotN (n j m : Nat) : Nat := Nat.mod (Nat.div (Nat.mul (Rw n j) (Rv n m)) (Nat.pow 1099511627776 (Nat.sub n 1))) 1099511627776
def idN (n j m : Nat) : Nat :=
  bif Nat.ble n j then (bif Nat.beq j m then (bif Nat.beq (Nat.add j m) (Nat.sub (Nat.mul 3 n) 1) then 3 else 2) else bif Nat.beq (Nat.add j m) (Nat.sub (Nat.mul 3 n) 1) then 2 else 1)
  else (bif Nat.beq j m then (bif Nat.beq (Nat.add j m) (Nat.sub n 1) then 1 else 2) else bif Nat.beq (Nat.add j m) (Nat.sub n 1) then 0 else 1)
def absN (a b : Nat) : Nat := Nat.add (Nat.sub a b) (Nat.sub b a)
def dev (n j m : Nat) : Nat := absN (Nat.add (Nat.mul 2 (dotN n j m)) (Nat.mul 3221225472 n)) (Nat.add (Nat.mul 65536 (Nat.add (Sm n j) (Sm n m))) (Nat.mul (Nat.mul 1073741824 n) (idN n j m)))
def rowN (n j : Nat) : Nat := sm (fun m => dev n j m) (Nat.mul 2 n) 0
def fine (n i : Nat) : Bool := Nat.ble (Nat.add (Nat.mul (rowN n i) (rowN n i)) (Nat.mul (rowN n (Nat.add n i)) (rowN n (Nat.add n i)))) (Nat.mul (Nat.mul (Nat.mul 32768 n) (Nat.mul 32768 n)) 2209)
def allN (f : Nat → Bool) (d : Nat) : Nat → Bool := Nat.rec (fun _ => true) (fun _ ih i => bif f i then ih (Nat.succ i) else false) d
def chk (n : Nat) : Bool := allN (fine n) n 0
/-- the window, by the numbers that the kernel reckons -/
def wA (l i : Nat) : Nat := qN (Nat.sub 16384 (Nat.div (Nat.add (Nat.div (Nat.mul (Nat.add (Nat.mul 2 i) 1) 16384) l) 1) 2))
def wN (l i : Nat) : Nat := (fun a => qN (Nat.sub 16384 (Nat.div (Nat.add (Nat.div (Nat.add (Nat.mul a a) 16384) 32768) 1) 2))) (wA l i)
def pbN (l i : Nat) : Bool := Nat.ble (absN (Nat.add (Nat.mul (wN l i) (wN l i)) (Nat.mul (wN l (Nat.sub (Nat.sub l 1) i)) (wN l (Nat.sub (Nat.sub l 1) i)))) 1073741824) 210000
def pb (l : Nat) : Bool := allN (pbN l) l 0
/-- the shape -/
def shN (n l z p : Nat) : Nat :=
  (fun q => bif Nat.ble (Nat.add z l) q then 32768 else bif Nat.ble z q then wN l (Nat.sub q z) else 0) (bif Nat.ble n p then Nat.sub (Nat.sub (Nat.mul 2 n) 1) p else p)
def DP (n j : Nat) : Nat := pk (fun m => dev n j m) 79228162514264337593543950336 (Nat.mul 2 n) 0
def SH (n l z : Nat) : Nat := pk (fun m => shN n l z (Nat.sub (Nat.sub (Nat.mul 2 n) 1) m)) 79228162514264337593543950336 (Nat.mul 2 n) 0
def rowW (n l z j : Nat) : Nat := Nat.mod (Nat.div (Nat.mul (DP n j) (SH n l z)) (Nat.pow 79228162514264337593543950336 (Nat.sub (Nat.mul 2 n) 1))) 79228162514264337593543950336
def fineW (n l z i : Nat) : Bool := Nat.ble (Nat.add (Nat.mul (shN n l z i) (rowW n l z i)) (Nat.mul (shN n l z (Nat.add n i)) (rowW n l z (Nat.add n i)))) (Nat.mul 1653867351638016 n)
def chkW (n l z : Nat) : Bool := allN (fineW n l z) n 0
theorem allN_at (f : Nat → Bool) : ∀ (d i k : Nat), allN f d i = true → i ≤ k → k < i + d → f k = true
  | 0, i, k, _, h1, h2 => absurd h1 (by omega)
  | d + 1, i, k, h, h1, h2 => by
    have e : allN f (d + 1) i = bif f i then allN f d (i + 1) else false := rfl
    rw [e] at h
    cases hf : f i
    · rw [hf] at h; cases h
    · rw [hf, cond_true] at h
      by_cases c : k = i
      · rw [c]; exact hf
      · exact allN_at f d (i + 1) k h (by omega) (by omega)
theorem allN_step {f : Nat → Bool} {d i : Nat} (h : f i = true) (t : allN f d (i + 1) = true) : allN f (d + 1) i = true := by
  show (bif f i then allN f d (i + 1) else false) = true
  rw [h]; exact t
end Go.Proofs.Ytnliianjljgcbaa.Kern
