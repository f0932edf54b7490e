/- Plain words: samples brought into 16 bits, how strong a list is. No condition. -/
import Derived.Test.YtgbdkefglmjdoaaCore
namespace Go.Proofs.Ytgbdkefglmjdoaa.Plain
open Go.RowKit Go.Proofs.Ytgbdkefglmjdoaa.Core

def sat (v : Int) : Int := clamp v (-32768) 32767
theorem sat_bd (v : Int) : -32768 ≤ sat v ∧ sat v ≤ 32767 := clamp_bd (by omega)

theorem getD_map {f : Int → Int} {xs : List Int} {i : Nat} (h : i < xs.length) : (xs.map f).getD i 0 = f (xs.getD i 0) := by
  simp [List.getD, h]
theorem getD_out {xs : List Int} {i : Nat} (h : xs.length ≤ i) : xs.getD i 0 = 0 := by
  simp [List.getD, List.getElem?_eq_none h]
theorem sat_getD_bd (xs : List Int) (i : Nat) : -32768 ≤ (xs.map sat).getD i 0 ∧ (xs.map sat).getD i 0 ≤ 32768 := by
  by_cases h : i < xs.length
  · rw [getD_map h]; have := sat_bd (xs.getD i 0); omega
  · rw [getD_out (by simp; omega)]; omega
theorem range_getD (xs : List Int) (f : Int → Int) : (List.range xs.length).map (fun j => f (xs.getD j 0)) = xs.map f := by
  apply List.ext_getElem
  · simp
  · intro i h1 h2
    have hi : i < xs.length := by simpa using h2
    simp [List.getD, hi]

/-- how strong a list is, as int64 reckons: d numbers from n on -/
def powW (xs : List Int) : Nat → Nat → Int → Int
  | 0, _, s => s
  | d + 1, n, s => powW xs d (n + 1) (wrap64 (s + wrap64 (clamp (xs.getD n 0) (-1048576) 1048576 * clamp (xs.getD n 0) (-1048576) 1048576)))

end Go.Proofs.Ytgbdkefglmjdoaa.Plain
