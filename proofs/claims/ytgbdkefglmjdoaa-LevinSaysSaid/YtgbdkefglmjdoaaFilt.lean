/- Plain forms: what is done to find a filter (chapter 12), whether one is stable, how one is drawn in (chapter 7). No condition. -/
import Derived.Test.YtgbdkefglmjdoaaBase
import Derived.Test.YtgbdkefglmjdoaaPlain
namespace Go.Proofs.Ytgbdkefglmjdoaa.Filt
open Go.RowKit Go.Proofs.Ytgbdkefglmjdoaa.Core Go.Proofs.Ytgbdkefglmjdoaa.Base Go.Proofs.Ytgbdkefglmjdoaa.Plain

def stabStep (r d : Int) (b : List Int) (m k : Nat) : Int :=
  clamp (divI (wrap64 (b.getD k 0 + mulI r (b.getD (m - 1 - k) 0) 24)) d 24) (-2147483648) 2147483648
def stabW : Nat → List Int → Bool
  | 0, _ => true
  | m + 1, b => if b.getD m 0 > 16760438 ∨ b.getD m 0 < -16760438 then false else stabW m (fill (stabStep (b.getD m 0) (wrap64 (16777216 - mulI (b.getD m 0) (b.getD m 0) 24)) b m) b 0 m)
def stableW (l : List Int) : Bool := if (l.length : Int) > 32 then false else stabW l.length (l.map fun v => wrap64 (4096 * clamp v (-131072) 131072))

def chirpN (c : Int) : Nat → Int → Int
  | 0, v => v
  | n + 1, v => chirpN c n (mulI v c 16)
def chirpW (l : List Int) (c : Int) : List Int := (List.range l.length).map fun k => chirpN (clamp c 0 65536) (k + 1) (l.getD k 0)
theorem chirpW_length (l : List Int) (c : Int) : (chirpW l c).length = l.length := by simp [chirpW]

/-- d rounds are left: the round's number is 17 - d -/
def fitL : Nat → List Int → List Int
  | 0, b => if stableW b then b else List.replicate b.length 0
  | d + 1, b => if stableW b then b else fitL d (chirpW b (wrap64 (65536 - wrap64 (2048 * (16 - d)))))
theorem fitL_length : ∀ (d : Nat) (b : List Int), (fitL d b).length = b.length
  | 0, b => by rw [fitL]; split <;> simp
  | d + 1, b => by rw [fitL]; split; rfl; rw [fitL_length d, chirpW_length]
def fitW (l : List Int) : List Int := if (l.length : Int) > 32 then [] else fitL 16 (l.map fun v => clamp v (-131072) 131072)

def halveL (l : List Int) : List Int := l.map (· / 2)
def halveW : Nat → List Int → List Int
  | 0, l => l
  | f + 1, l => if l.getD 0 0 ≥ 1073741824 then halveW f (halveL l) else l
def dblL (l : List Int) : List Int := l.map fun v => clamp (wrap64 (2 * v)) (-1125899906842624) 1125899906842624
def dblW : Nat → List Int → List Int
  | 0, l => l
  | f + 1, l => if l.getD 0 0 < 536870912 then dblW f (dblL l) else l
def scaledW (l : List Int) : List Int :=
  let r := halveW 64 (dblW 64 (l.map fun v => clamp v (-2199023255552) 2199023255552))
  r.set 0 (wrap64 (r.getD 0 0 + wrap64 (wrap64 (Int.tdiv (r.getD 0 0) 1024) + 1)))

theorem halveW_length : ∀ (f : Nat) (l : List Int), (halveW f l).length = l.length
  | 0, _ => rfl
  | f + 1, l => by rw [halveW]; split; rw [halveW_length f]; simp [halveL]; rfl
theorem dblW_length : ∀ (f : Nat) (l : List Int), (dblW f l).length = l.length
  | 0, _ => rfl
  | f + 1, l => by rw [dblW]; split; rw [dblW_length f]; simp [dblL]; rfl

theorem halve_ends : ∀ (f : Nat) (l : List Int), 0 < l.length → l.getD 0 0 < 1073741824 * 2 ^ f → (halveW f l).getD 0 0 < 1073741824
  | 0, l, _, h => by simpa [halveW] using h
  | f + 1, l, hl, h => by
    rw [halveW]
    split
    · refine halve_ends f _ (by simpa [halveL] using hl) ?_
      rw [halveL, getD_map hl]
      have : (2 : Int) ^ (f + 1) = 2 ^ f * 2 := by rw [Int.pow_succ]
      rw [this, ← Int.mul_assoc] at h
      omega
    · omega
theorem dbl_ends : ∀ (f : Nat) (l : List Int), 0 < l.length → 1 ≤ l.getD 0 0 → f ≤ 29 → 536870912 ≤ l.getD 0 0 * 2 ^ f → 536870912 ≤ (dblW f l).getD 0 0
  | 0, l, _, _, _, h => by simpa [dblW] using h
  | f + 1, l, hl, h1, hf, h => by
    rw [dblW]
    split
    · rename_i hlt
      have e : (dblL l).getD 0 0 = 2 * l.getD 0 0 := by
        rw [dblL, getD_map hl, wrap_id (by omega) (by omega), clamp_id (by omega) (by omega)]
      refine dbl_ends f _ (by simpa [dblL] using hl) (by omega) (by omega) ?_
      rw [e]
      have : (2 : Int) ^ (f + 1) = 2 * 2 ^ f := by rw [Int.pow_succ, Int.mul_comm]
      rw [this, ← Int.mul_assoc] at h
      rw [Int.mul_comm 2 (l.getD 0 0)]; exact h
    · omega
/-- More rounds change nothing once it has ended. -/
theorem dblW_more : ∀ (f g : Nat) (l : List Int), f ≤ g → 536870912 ≤ (dblW f l).getD 0 0 → dblW g l = dblW f l
  | 0, g, l, _, h => by
    cases g with
    | zero => rfl
    | succ g => rw [dblW, dblW] at *; rw [if_neg (by omega)]
  | f + 1, g, l, hg, h => by
    obtain ⟨g, rfl⟩ : ∃ m, g = m + 1 := ⟨g - 1, by omega⟩
    rw [dblW, dblW] at *
    split
    · rename_i hc; rw [if_pos hc] at h; exact dblW_more f g _ (by omega) h
    · rfl
theorem dbl64 (l : List Int) (hl : 0 < l.length) (h1 : 1 ≤ l.getD 0 0) : 536870912 ≤ (dblW 64 l).getD 0 0 := by
  have h := dbl_ends 29 l hl h1 (by omega) (by
    have : (2 : Int) ^ 29 = 536870912 := by decide
    rw [this]; omega)
  rw [dblW_more 29 64 l (by omega) h]; exact h

def tSum (r a : List Int) (m : Nat) : Nat → Nat → Int → Int
  | 0, _, t => t
  | d + 1, i, t => tSum r a m d (i + 1) (wrap64 (t - mulI (a.getD i 0) (r.getD (m - i) 0) 24))
def kOf (r a : List Int) (m : Nat) (e : Int) : Int := clamp (divI (tSum r a m m 0 (r.getD (m + 1) 0)) e 24) (-16760438) 16760438
def nextA (a : List Int) (m : Nat) (k : Int) (i : Nat) : Int := clamp (wrap64 (a.getD i 0 - mulI k (a.getD (m - 1 - i) 0) 24)) (-2147483648) 2147483648
def nextE (e k : Int) : Int := if mulI e (wrap64 (16777216 - mulI k k 24)) 24 < 1 then 1 else mulI e (wrap64 (16777216 - mulI k k 24)) 24
/-- d rounds from m on; a: the m numbers so far -/
def levinW (r : List Int) : Nat → Nat → List Int → Int → List Int
  | 0, _, a, _ => a
  | d + 1, m, a, e => levinW r d (m + 1) ((List.range m).map (nextA a m (kOf r a m e)) ++ [kOf r a m e]) (nextE e (kOf r a m e))
theorem levinW_length (r : List Int) : ∀ (d m : Nat) (a : List Int) (e : Int), a.length = m → (levinW r d m a e).length = m + d
  | 0, m, a, e, h => by simpa [levinW] using h
  | d + 1, m, a, e, h => by rw [levinW, levinW_length r d (m + 1) _ _ (by simp)]; omega
def solveW (l : List Int) : List Int :=
  if l.getD 0 0 < 1 then List.replicate (l.length - 1) 0
  else fitW ((levinW (scaledW l) (l.length - 1) 0 [] ((scaledW l).getD 0 0)).map fun v => mulI v 1 12)
end Go.Proofs.Ytgbdkefglmjdoaa.Filt
