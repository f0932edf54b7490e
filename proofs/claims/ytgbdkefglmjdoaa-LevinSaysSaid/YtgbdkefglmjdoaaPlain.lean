/- Plain laws on sums, products of a list with itself, what a filter leaves. Condition: where a sum is told exactly, its numbers are bounded. -/
import Derived.Test.YtgbdkefglmjdoaaCore
namespace Go.Proofs.Ytgbdkefglmjdoaa.Plain
open Go.RowKit Go.Proofs.Ytgbdkefglmjdoaa.Core

def sat (v : Int) : Int := clamp v (-32768) 32767
theorem sat_bd (v : Int) : -32768 ≤ sat v ∧ sat v ≤ 32767 := clamp_bd (by omega)

theorem getD_map {f : Int → Int} {xs : List Int} {i : Nat} (h : i < xs.length) : (xs.map f).getD i 0 = f (xs.getD i 0) := by
  simp [List.getD, h]
theorem getD_out {xs : List Int} {i : Nat} (h : xs.length ≤ i) : xs.getD i 0 = 0 := by
  simp [List.getD, List.getElem?_eq_none h]
theorem sat_getD_bd (xs : List Int) (i : Nat) : -32768 ≤ (xs.map sat).getD i 0 ∧ (xs.map sat).getD i 0 ≤ 32768 := by
  by_cases h : i < xs.length
  · rw [getD_map h]; have := sat_bd (xs.getD i 0); omega
  · rw [getD_out (by simp; omega)]; omega
theorem range_getD (xs : List Int) (f : Int → Int) : (List.range xs.length).map (fun j => f (xs.getD j 0)) = xs.map f := by
  apply List.ext_getElem
  · simp
  · intro i h1 h2
    have hi : i < xs.length := by simpa using h2
    simp [List.getD, hi]

/-- f n + f (n + 1) + .. : d numbers -/
def sumFrom (f : Nat → Int) : Nat → Nat → Int
  | _, 0 => 0
  | n, d + 1 => f n + sumFrom f (n + 1) d

theorem sumFrom_congr {f g : Nat → Int} : ∀ (d n : Nat), (∀ i, n ≤ i → i < n + d → f i = g i) → sumFrom f n d = sumFrom g n d
  | 0, _, _ => rfl
  | d + 1, n, h => by rw [sumFrom, sumFrom, h n (by omega) (by omega), sumFrom_congr d (n + 1) (fun i h1 h2 => h i (by omega) (by omega))]
theorem sumFrom_split (f : Nat → Int) : ∀ (a n b : Nat), sumFrom f n (a + b) = sumFrom f n a + sumFrom f (n + a) b
  | 0, n, b => by simp [sumFrom]
  | a + 1, n, b => by
    rw [show a + 1 + b = (a + b) + 1 by omega, sumFrom, sumFrom, sumFrom_split f a (n + 1) b, show n + 1 + a = n + (a + 1) by omega]; omega
theorem sumFrom_shift (g : Nat → Int) (k : Nat) : ∀ (d n : Nat), sumFrom (fun i => g (i - k)) (n + k) d = sumFrom g n d
  | 0, _ => rfl
  | d + 1, n => by
    rw [sumFrom, sumFrom, show n + k + 1 = (n + 1) + k by omega, sumFrom_shift g k d (n + 1)]
    simp
theorem sumFrom_mono {f g : Nat → Int} : ∀ (d n : Nat), (∀ i, f i ≤ g i) → sumFrom f n d ≤ sumFrom g n d
  | 0, _, _ => by simp [sumFrom]
  | d + 1, n, h => by
    rw [sumFrom, sumFrom]
    have := sumFrom_mono d (n + 1) h
    have := h n
    omega
theorem sumFrom_nonneg {f : Nat → Int} (d n : Nat) (h : ∀ i, 0 ≤ f i) : 0 ≤ sumFrom f n d := by
  have h0 : ∀ d n, sumFrom (fun _ => 0) n d = 0 := by
    intro d; induction d with
    | zero => intro n; rfl
    | succ d ih => intro n; rw [sumFrom, ih]; rfl
  have := sumFrom_mono (f := fun _ => 0) (g := f) d n h
  rw [h0] at this; exact this
theorem sumFrom_add (f g : Nat → Int) : ∀ (d n : Nat), sumFrom (fun i => f i + g i) n d = sumFrom f n d + sumFrom g n d
  | 0, _ => rfl
  | d + 1, n => by rw [sumFrom, sumFrom, sumFrom, sumFrom_add f g d]; omega
theorem sumFrom_neg (f : Nat → Int) : ∀ (d n : Nat), sumFrom (fun i => - f i) n d = - sumFrom f n d
  | 0, _ => rfl
  | d + 1, n => by rw [sumFrom, sumFrom, sumFrom_neg f d]; omega
theorem sumFrom_mul (c : Int) (f : Nat → Int) : ∀ (d n : Nat), sumFrom (fun i => c * f i) n d = c * sumFrom f n d
  | 0, _ => by simp [sumFrom]
  | d + 1, n => by rw [sumFrom, sumFrom, sumFrom_mul c f d, Int.mul_add]
theorem sumFrom_bd {f : Nat → Int} {M : Int} (hM : 0 ≤ M) (h : ∀ i, -M ≤ f i ∧ f i ≤ M) : ∀ (d n : Nat), -(M * d) ≤ sumFrom f n d ∧ sumFrom f n d ≤ M * d
  | 0, _ => by simp [sumFrom]
  | d + 1, n => by
    have h1 := sumFrom_bd hM h d (n + 1)
    have h2 := h n
    rw [sumFrom]
    have e : M * ((d + 1 : Nat) : Int) = M * d + M := by rw [Int.natCast_add, Int.mul_add]; simp
    rw [e]; omega

/-- a list times itself, k places on: from n on, d products, as int64 reckons -/
def corrW (xs : List Int) (k : Nat) : Nat → Nat → Int → Int
  | 0, _, s => s
  | d + 1, n, s => corrW xs k d (n + 1) (wrap64 (s + wrap64 (xs.getD n 0 * xs.getD (n - k) 0)))

def autoW (xs : List Int) (order : Nat) : List Int := (List.range (order + 1)).map fun k => corrW xs k (xs.length - k) k 0

theorem corrW_exact {xs : List Int} {k : Nat} {M : Int} (hM : M ≤ 1099511627776) (h : ∀ i, -M ≤ xs.getD i 0 * xs.getD (i - k) 0 ∧ xs.getD i 0 * xs.getD (i - k) 0 ≤ M) (d : Nat) :
    ∀ (n : Nat) (s : Int), -4611686018427387904 ≤ s - M * d → s + M * d ≤ 4611686018427387904 → corrW xs k d n s = s + sumFrom (fun i => xs.getD i 0 * xs.getD (i - k) 0) n d := by
  induction d with
  | zero => intro n s _ _; simp [corrW, sumFrom]
  | succ d ih =>
    intro n s h1 h2
    rw [corrW, sumFrom]
    have hp := h n
    have e2 : M * ((d + 1 : Nat) : Int) = M * d + M := by rw [Int.natCast_add, Int.mul_add]; simp
    rw [e2] at h1 h2
    have hmd : 0 ≤ M * d := Int.mul_nonneg (by omega) (by omega)
    have e1 : wrap64 (xs.getD n 0 * xs.getD (n - k) 0) = xs.getD n 0 * xs.getD (n - k) 0 := wrap_id (by omega) (by omega)
    have e4 : wrap64 (s + xs.getD n 0 * xs.getD (n - k) 0) = s + xs.getD n 0 * xs.getD (n - k) 0 := wrap_id (by omega) (by omega)
    rw [e1, e4, ih (n + 1) _ (by omega) (by omega)]
    omega

theorem corr_exact {xs : List Int} (hb : ∀ i, -32768 ≤ xs.getD i 0 ∧ xs.getD i 0 ≤ 32768) (k d n : Nat) (hd : d ≤ 1000) : corrW xs k d n 0 = sumFrom (fun i => xs.getD i 0 * xs.getD (i - k) 0) n d := by
  have h := corrW_exact (xs := xs) (k := k) (M := 1073741824) (by omega) (fun i => by
    have := mul_le_of (A := 32768) (B := 32768) (by have := hb i; omega) (show -32768 ≤ xs.getD (i - k) 0 ∧ xs.getD (i - k) 0 ≤ 32768 from hb _)
    omega) d n 0 (by omega) (by omega)
  rw [h]; omega

/-- a sound's own power -/
def own (xs : List Int) (n d : Nat) : Int := sumFrom (fun i => xs.getD i 0 * xs.getD i 0) n d

theorem sq_nonneg (a : Int) : 0 ≤ a * a := by
  rcases Int.le_total 0 a with h | h
  · exact Int.mul_nonneg h h
  · have : 0 ≤ (-a) * (-a) := Int.mul_nonneg (by omega) (by omega)
    rwa [Int.neg_mul_neg] at this
theorem two_mul_le (a b : Int) : 2 * (a * b) ≤ a * a + b * b ∧ -(2 * (a * b)) ≤ a * a + b * b := by
  have h1 := sq_nonneg (a - b)
  have h2 := sq_nonneg (a + b)
  simp only [Int.sub_mul, Int.add_mul, Int.mul_sub, Int.mul_add] at h1 h2
  have : b * a = a * b := Int.mul_comm _ _
  omega

/-- No lag's number is greater than the power. -/
theorem corr_le (xs : List Int) (k : Nat) : let c := sumFrom (fun i => xs.getD i 0 * xs.getD (i - k) 0) k (xs.length - k); c ≤ own xs 0 xs.length ∧ -c ≤ own xs 0 xs.length := by
  intro c
  by_cases hk : k ≤ xs.length
  · have hA : sumFrom (fun i => xs.getD i 0 * xs.getD i 0) k (xs.length - k) ≤ own xs 0 xs.length := by
      have h := sumFrom_split (fun i => xs.getD i 0 * xs.getD i 0) k 0 (xs.length - k)
      rw [show k + (xs.length - k) = xs.length by omega, Nat.zero_add] at h
      have h0 := sumFrom_nonneg (f := fun i => xs.getD i 0 * xs.getD i 0) k 0 (fun i => sq_nonneg _)
      unfold own; omega
    have hB : sumFrom (fun i => xs.getD (i - k) 0 * xs.getD (i - k) 0) k (xs.length - k) ≤ own xs 0 xs.length := by
      have h := sumFrom_shift (fun i => xs.getD i 0 * xs.getD i 0) k (xs.length - k) 0
      rw [Nat.zero_add] at h
      have h2 := sumFrom_split (fun i => xs.getD i 0 * xs.getD i 0) (xs.length - k) 0 k
      rw [show xs.length - k + k = xs.length by omega] at h2
      have h0 := sumFrom_nonneg (f := fun i => xs.getD i 0 * xs.getD i 0) k (0 + (xs.length - k)) (fun i => sq_nonneg _)
      unfold own
      have h' : sumFrom (fun i => xs.getD (i - k) 0 * xs.getD (i - k) 0) k (xs.length - k) = sumFrom (fun i => xs.getD i 0 * xs.getD i 0) 0 (xs.length - k) := h
      omega
    have h1 := sumFrom_mono (f := fun i => 2 * (xs.getD i 0 * xs.getD (i - k) 0)) (g := fun i => xs.getD i 0 * xs.getD i 0 + xs.getD (i - k) 0 * xs.getD (i - k) 0) (xs.length - k) k (fun i => (two_mul_le _ _).1)
    have h2 := sumFrom_mono (f := fun i => -(2 * (xs.getD i 0 * xs.getD (i - k) 0))) (g := fun i => xs.getD i 0 * xs.getD i 0 + xs.getD (i - k) 0 * xs.getD (i - k) 0) (xs.length - k) k (fun i => (two_mul_le _ _).2)
    rw [sumFrom_add, sumFrom_mul] at h1
    rw [sumFrom_add, sumFrom_neg, sumFrom_mul] at h2
    constructor <;> omega
  · have hc : c = 0 := by show sumFrom _ _ _ = 0; rw [show xs.length - k = 0 by omega]; rfl
    have := sumFrom_nonneg (f := fun i => xs.getD i 0 * xs.getD i 0) xs.length 0 (fun i => sq_nonneg _)
    unfold own; omega

/-- how strong a list is, as int64 reckons: d numbers from n on -/
def powW (xs : List Int) : Nat → Nat → Int → Int
  | 0, _, s => s
  | d + 1, n, s => powW xs d (n + 1) (wrap64 (s + wrap64 (clamp (xs.getD n 0) (-1048576) 1048576 * clamp (xs.getD n 0) (-1048576) 1048576)))

theorem powW_exact {xs : List Int} (hb : ∀ i, -1048576 ≤ xs.getD i 0 ∧ xs.getD i 0 ≤ 1048576) (d : Nat) : ∀ (n : Nat) (s : Int), 0 ≤ s → s + 1099511627776 * d ≤ 4611686018427387904 → powW xs d n s = s + own xs n d := by
  induction d with
  | zero => intro n s _ _; simp [powW, own, sumFrom]
  | succ d ih =>
    intro n s h1 h2
    rw [powW, own, sumFrom, clamp_id (hb n).1 (hb n).2]
    have hp := mul_le_of (A := 1048576) (B := 1048576) (hb n) (hb n)
    have hq := sq_nonneg (xs.getD n 0)
    have e1 : wrap64 (xs.getD n 0 * xs.getD n 0) = xs.getD n 0 * xs.getD n 0 := wrap_id (by omega) (by omega)
    have e4 : wrap64 (s + xs.getD n 0 * xs.getD n 0) = s + xs.getD n 0 * xs.getD n 0 := wrap_id (by omega) (by omega)
    rw [e1, e4, ih (n + 1) _ (by omega) (by omega)]
    unfold own; omega
end Go.Proofs.Ytgbdkefglmjdoaa.Plain
