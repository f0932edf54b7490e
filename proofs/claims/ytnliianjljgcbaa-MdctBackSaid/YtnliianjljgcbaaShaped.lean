/- What a block's shape holds, place by place. Condition: blocks that are good. -/
import Derived.Test.YtnliianjljgcbaaSines
namespace Go.Proofs.Ytnliianjljgcbaa.Shaped
open Go.RowKit Go.Proofs.YtnliianjljgcbaaW.PrintWords Go.Proofs.YtnliianjljgcbaaW.PrintLast Go.Proofs.YtnliianjljgcbaaW.PrintMore Go.Proofs.Ytnliianjljgcbaa.Core Go.Proofs.Ytnliianjljgcbaa.MA Go.Proofs.Ytnliianjljgcbaa.Base Go.Proofs.Ytnliianjljgcbaa.RefA Go.Proofs.Ytnliianjljgcbaa.Cos Go.Proofs.Ytnliianjljgcbaa.Win Go.Proofs.Ytnliianjljgcbaa.Shape Go.Proofs.Ytnliianjljgcbaa.Sines

theorem getD_set (xs : List Int) (i : Nat) (v : Int) (p : Nat) : (xs.set i v).getD p 0 = if i = p ∧ p < xs.length then v else xs.getD p 0 := by
  rw [List.getD_eq_getElem?_getD, List.getElem?_set, List.getD_eq_getElem?_getD]
  by_cases h : i = p
  · subst h
    by_cases g : i < xs.length
    · rw [if_pos rfl, if_pos g, if_pos ⟨rfl, g⟩]; rfl
    · rw [if_pos rfl, if_neg g, if_neg (fun h => g h.2), List.getElem?_eq_none (by omega)]
  · rw [if_neg h, if_neg (fun g => h g.1)]

theorem put2_get (w : List Int) (n z l : Nat) (hz : 2 * z + l = n) : ∀ (d i : Nat) (xs : List Int) (p : Nat), i + d = l → xs.length = 2 * n →
    (put2 w n z xs i d).getD p 0 = if z + i ≤ p ∧ p < z + l then w.getD (p - z) 0 else if 2 * n - z - l ≤ p ∧ p + i < 2 * n - z then w.getD (2 * n - 1 - z - p) 0 else xs.getD p 0
  | 0, i, xs, p, h, hx => by rw [put2, if_neg (by omega), if_neg (by omega)]
  | d + 1, i, xs, p, h, hx => by
    rw [put2, put2_get w n z l hz d (i + 1) _ p (by omega) (by simpa using hx), getD_set, getD_set]
    rw [List.length_set]
    by_cases c1 : p = z + i
    · subst c1
      rw [if_neg (by omega), if_neg (by omega), if_neg (by omega), if_pos (by omega), if_pos (by omega), show z + i - z = i by omega]
    · by_cases c2 : p = 2 * n - 1 - z - i
      · subst c2
        rw [if_neg (by omega), if_neg (by omega), if_pos (by omega), if_neg (by omega), if_pos (by omega), show 2 * n - 1 - z - (2 * n - 1 - z - i) = i by omega]
      · rw [if_neg (c := 2 * n - 1 - z - i = p ∧ _) (by omega), if_neg (c := z + i = p ∧ _) (by omega)]
        by_cases c3 : z + i ≤ p ∧ p < z + l
        · rw [if_pos (by omega), if_pos c3]
        · rw [if_neg (by omega), if_neg c3]
          by_cases c4 : 2 * n - z - l ≤ p ∧ p + i < 2 * n - z
          · rw [if_pos (by omega), if_pos c4]
          · rw [if_neg (by omega), if_neg c4]

theorem fill_getD (F : Nat → Int) (d i : Nat) (xs : List Int) (p : Nat) : (fill F xs i d).getD p 0 = if i ≤ p ∧ p < i + d ∧ p < xs.length then F p else xs.getD p 0 := by
  rw [List.getD_eq_getElem?_getD, fill_get]
  split
  · rfl
  · rw [List.getD_eq_getElem?_getD]

theorem windowW_getD {l : Nat} (h1 : 1 ≤ l) (h2 : l ≤ 480) {i : Nat} (hi : i < l) : (windowW (l : Int)).getD i 0 = winW l i := by
  unfold windowW
  rw [if_neg (by omega), List.getD_eq_getElem?_getD, List.getElem?_map, List.getElem?_range (by omega), Option.map_some, Option.getD_some]

/-- the shape, place by place -/
def shapeP (n l z p : Nat) : Int :=
  if z + l ≤ p ∧ p < 2 * n - z - l then 32768 else if z ≤ p ∧ p < z + l then winW l ((p - z : Nat) : Int) else if 2 * n - z - l ≤ p ∧ p < 2 * n - z then winW l ((2 * n - 1 - z - p : Nat) : Int) else 0

theorem shapeN_get {n l z : Nat} (hz : 2 * z + l = n) (hn : n ≤ 480) (hl : 2 ≤ l) (p : Nat) : (shapeN n l z).getD p 0 = shapeP n l z p := by
  unfold shapeN shapeP
  rw [fill_getD, put2_length, List.length_replicate, put2_get _ n z l hz l 0 _ p (by omega) (by simp)]
  by_cases c1 : z + l ≤ p ∧ p < 2 * n - z - l
  · rw [if_pos c1, if_pos (by omega)]
  · rw [if_neg c1, if_neg (by omega)]
    by_cases c2 : z ≤ p ∧ p < z + l
    · rw [if_pos c2, if_pos (by omega), windowW_getD (by omega) (by omega) (by omega)]
    · rw [if_neg c2, if_neg (by omega)]
      by_cases c3 : 2 * n - z - l ≤ p ∧ p < 2 * n - z
      · rw [if_pos c3, if_pos (by omega), windowW_getD (by omega) (by omega) (by omega)]
      · rw [if_neg c3, if_neg (by omega), List.getD_eq_getElem?_getD, List.getElem?_replicate]
        split <;> rfl

theorem shapeP_in {n l z : Nat} (hz : 2 * z + l = n) (hn : n ≤ 480) (p : Nat) : 0 ≤ shapeP n l z p ∧ shapeP n l z p ≤ 32768 := by
  unfold shapeP
  split
  · omega
  · split
    · exact winW_in (by omega) (by omega)
    · split
      · exact winW_in (by omega) (by omega)
      · omega

theorem shapeP_mirror {n l z p : Nat} (hz : 2 * z + l = n) (hp : p < n) : shapeP n l z p = shapeP n l z (2 * n - 1 - p) := by
  unfold shapeP
  by_cases c1 : z + l ≤ p
  · rw [if_pos (by omega), if_pos (by omega)]
  · by_cases c2 : z ≤ p
    · rw [if_neg (by omega), if_pos (by omega), if_neg (by omega), if_neg (by omega), if_pos (by omega), show 2 * n - 1 - z - (2 * n - 1 - p) = p - z by omega]
    · rw [if_neg (by omega), if_neg (by omega), if_neg (by omega), if_neg (by omega), if_neg (by omega), if_neg (by omega)]

end Go.Proofs.Ytnliianjljgcbaa.Shaped
