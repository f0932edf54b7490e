/- Functions of the program as plain Lean functions, and that the code comes to their answers. No condition. -/
import Derived.Test.YtnliianjljgcbaaMAx0
import Derived.Test.YtnliianjljgcbaaMAx1
import Derived.Test.YtnliianjljgcbaaMAx4
namespace Go.Proofs.Ytnliianjljgcbaa.MA
open Go.RowKit Go.Proofs.YtnliianjljgcbaaW.PrintWords Go.Proofs.YtnliianjljgcbaaW.PrintLast Go.Proofs.YtnliianjljgcbaaW.PrintMore
attribute [local go_sem] max2_int min2_int max_two min_two max_three min_three max_four min_four
set_option linter.unusedVariables false
set_option linter.unusedSimpArgs false

/-! ### mdct_New: function 13 -/
/-- A joiner's block, and the row that it keeps: both lie at base or above. -/
def JAt (w : World) (base g : Nat) (n l : Int) (ys : List Int) : Prop :=
 base ≤ g ∧ ∃ A c, w.heap[g]? = some (.cells #[.int .i64 n, .int .i64 l, .slice A ys.length c] 52 (0, 0)) ∧ Kd.C (Kd.int .i64) w A ys.length ys ∧ ys.length ≤ c ∧ ∀ ad, A = some ad → base ≤ ad.block ∧ ad.block ≠ g
set_option maxHeartbeats 8000000 in
set_option maxRecDepth 100000 in
theorem mdct_New.good (a0 a1 : Int) (w : World) (hn : 0 ≤ a0 ∧ a0 ≤ 1000000) (h : mdct_Good.f a0 a1 = some true) :
  Calls Try.prog 13 #[.int .i64 a0, .int .i64 a1] w fun e w' => ∃ g, e = .returned (.tuple #[.pointer (some ⟨g, 0, none⟩), .int .i64 0]) ∧ JAt w' w.heap.size g a0 a1 (List.replicate a0.toNat 0) ∧ Below w.heap.size w w' := by
 have HB := Aside0.mk (Below.refl w.heap.size w)
 have A6 := Aside0.mk h; clear h
 have p0 : 0 ≤ a0 := hn.1
 have hb0 : a0.toNat ≤ 1000000 := by omega
 replace p0 := eq_true p0
 go_enter Try.func13, Try.ntmps13
 go_wp2_with (first
  | ((with_reducible refine gate_callee (f := 16) rfl ?_); refine goesL_ (some 8) rfl rfl Try.func16 (by kernel_rfl) rfl #[.int .i64 a0, .int .i64 a1] rfl (by (try simp only [List.map_toArray, List.map_cons, List.map_nil]); first | done | rfl) ?_; (with_reducible refine (mdct_Good.calls a0 a1 true _ A6.out).mono ?_); rintro e w7 ⟨rfl, ⟨nd, rfl⟩⟩; refine ⟨_, rfl, ?_⟩)
  | ((with_reducible refine gate_dst (N := 13) rfl ?_); refine Kd.R_make (Kd.int .i64) _ 2 rfl (N := 13) rfl 23 _ _ rfl a0 rfl rfl Try.underlying23 (.int .i64 0) 8 info2 rfl (by decide) (by omega) 0 (ok := fun _ => True) (okp := fun _ => True) rfl (fun _ hk => hk) trivial (of_eq_true p0) (Nat.le_trans (Nat.mul_le_mul_right _ hb0) (by omega)) (Below.refl _ _) (Nat.le_refl _) ?_; intro v211 w11 ho12 hb hg_ hnew_; clear hg_ hnew_; obtain ⟨Ao13, co13, eo13⟩ := Kd.R_slice ho12; subst eo13; have HO := Aside0.mk ho12; clear ho12; have HB11 := Aside0.mk (below_step (by repeat (with_reducible first | exact HB.out | apply below_alloc | apply pw_below_drewN | apply below_drew1)) hb); clear hb))
 go_ret2
 have hsz := HB11.out.size
 have hbase := Kd.R_base HO.out
 have hown := Kd.R_lt HO.out
 have hlen : (List.replicate a0.toNat (0 : Int)).length = a0.toNat := by simp
 refine ⟨w11.heap.size, rfl, ⟨hsz, Ao13, co13, ?_, Kd.C_alloc (Kd.R_reads' HO.out).2.2 _, (Kd.R_reads' HO.out).2.1, ?_⟩, below_alloc HB11.out _⟩
 ·
  rw [hlen]; exact Array.getElem?_push_size
 ·
  intro ad had
  subst had
  have h1 := hbase ad.block rfl
  have h2 := hown ad.block rfl
  exact ⟨h1, by omega⟩
set_option maxHeartbeats 8000000 in
set_option maxRecDepth 100000 in
theorem mdct_New.bad (a0 a1 : Int) (w : World) (h : mdct_Good.f a0 a1 = some false) :
  Calls Try.prog 13 #[.int .i64 a0, .int .i64 a1] w fun e w' => e = .returned (.tuple #[.pointer none, .int .i64 1]) ∧ Below w.heap.size w w' := by
 have HB := Aside0.mk (Below.refl w.heap.size w)
 have A6 := Aside0.mk h; clear h
 go_enter Try.func13, Try.ntmps13
 go_wp2_with (first
  | ((with_reducible refine gate_callee (f := 16) rfl ?_); refine goesL_ (some 8) rfl rfl Try.func16 (by kernel_rfl) rfl #[.int .i64 a0, .int .i64 a1] rfl (by (try simp only [List.map_toArray, List.map_cons, List.map_nil]); first | done | rfl) ?_; (with_reducible refine (mdct_Good.calls a0 a1 false _ A6.out).mono ?_); rintro e w7 ⟨rfl, ⟨nd, rfl⟩⟩; refine ⟨_, rfl, ?_⟩))
 go_ret2
 exact ⟨rfl, by repeat (with_reducible first | exact HB.out | apply below_alloc | apply pw_below_drewN | apply below_drew1)⟩
theorem JAt.lt {w : World} {base g : Nat} {n l : Int} {ys : List Int} (h : JAt w base g n l ys) : g < w.heap.size := by
 obtain ⟨_, A, c, hg, _⟩ := h
 exact blk_lt hg
/-- A row of numbers lies in its own block: whatever keeps that block keeps the row. -/
theorem C_block {w W : World} {A : Option Addr} {n : Nat} {xs : List Int} (h : Kd.C (Kd.int .i64) w A n xs) (hb : ∀ ad, A = some ad → W.heap[ad.block]? = w.heap[ad.block]?) : Kd.C (Kd.int .i64) W A n xs :=
 ⟨h.1, h.2.1, fun hn => by
  obtain ⟨ad, e, hc⟩ := h.2.2 hn
  refine ⟨ad, e, fun j p hj => ?_⟩
  obtain ⟨c, hs, hr, hcell⟩ := hc j p hj
  exact ⟨c, hs, hr, fun i u hu => by
   have h1 := hcell i u hu
   have h2 := hb ad e
   have h3 : W.cell? (ad.add (j * (Kd.int .i64).sz + i)) = w.cell? (ad.add (j * (Kd.int .i64).sz + i)) := by
    have e4 : (ad.add (j * (Kd.int .i64).sz + i)).block = ad.block := by unfold Addr.add; split <;> rfl
    simp [World.cell?, e4, h2]
   exact h3.trans h1⟩⟩
theorem JAt.keep {w W : World} {base g : Nat} {n l : Int} {ys : List Int} (h : JAt w base g n l ys) (hk : ∀ i, i < w.heap.size → base ≤ i → W.heap[i]? = w.heap[i]?) : JAt W base g n l ys := by
 have hl := h.lt
 obtain ⟨hb, A, c, hg, hC, hc, hA⟩ := h
 refine ⟨hb, A, c, (hk g hl hb).trans hg, ?_, hc, hA⟩
 by_cases hn : 0 < ys.length
 ·
  refine C_block hC (fun ad had => hk ad.block ?_ (hA ad had).1)
  obtain ⟨ad', e, hc'⟩ := hC.2.2 hn
  have e2 : ad = ad' := by rw [had] at e; exact Option.some.inj e
  subst e2
  obtain ⟨c1, hs, _, hcell⟩ := hc' 0 _ (List.getElem?_eq_getElem hn)
  have h0 : 0 < c1.length := by rw [hs]; decide
  have h1 := hcell 0 c1[0] (List.getElem?_eq_getElem h0)
  have h2 := World.block_lt_of_cell? w _ h1
  have e4 : (ad.add (0 * (Kd.int .i64).sz + 0)).block = ad.block := by unfold Addr.add; split <;> rfl
  rwa [e4] at h2
 ·
  exact ⟨hC.1, hC.2.1, fun h0 => absurd (by rw [← hC.1]; exact h0) hn⟩
theorem JAt.below {w W : World} {base g : Nat} {n l : Int} {ys : List Int} (h : JAt w base g n l ys) (hk : Below w.heap.size w W) : JAt W base g n l ys := h.keep fun i hi _ => hk.block i hi
theorem JAt.store {W : World} {base g c : Nat} {n l : Int} {v0 : Value} {A : Option Addr} {xs : List Int} (hbg : base ≤ g) (hg : W.heap[g]? = some (.cells #[.int .i64 n, .int .i64 l, v0] 52 (0, 0))) (hC : Kd.C (Kd.int .i64) W A xs.length xs) (hc : xs.length ≤ c) (hA : ∀ ad, A = some ad → base ≤ ad.block ∧ ad.block ≠ g) : JAt (W.setCell ⟨g, 2, none⟩ (.slice A xs.length c)) base g n l xs := by
 refine ⟨hbg, A, c, ?_, C_block hC (fun ad had => Below.heap_setCell W ⟨g, 2, none⟩ _ ad.block (hA ad had).2), hc, hA⟩
 have hlt := blk_lt hg
 simp [World.setCell, Array.getElem?_modify, hg]
/-- All is kept but one block. -/
def Keeps (w w' : World) (g : Nat) : Prop := KeepBut w w' g none ∧ w'.os = w.os ∧ w'.tape = w.tape ∧ w'.output = w.output
theorem keep_store {w W : World} {g : Nat} {v : Value} (hB : Below w.heap.size w W) : Keeps w (W.setCell ⟨g, 2, none⟩ v) g :=
 ⟨⟨by simpa [World.setCell] using hB.size, fun i hi hne _ => (Below.heap_setCell W ⟨g, 2, none⟩ _ i hne).trans (hB.block i hi)⟩, hB.os, hB.tape, hB.output⟩
theorem below_keep {w W W2 : World} {g : Nat} (h : Below w.heap.size w W) (hk : Keeps W W2 g) (hg : w.heap.size ≤ g) : Below w.heap.size w W2 :=
 ⟨hk.2.1.trans h.os, hk.2.2.1.trans h.tape, hk.2.2.2.trans h.output, Nat.le_trans h.size hk.1.1, fun i hi => (hk.1.2 i (Nat.lt_of_lt_of_le hi h.size) (by omega) (by simp)).trans (h.block i hi)⟩

/-! ### mdct_Joiner_Next: function 14 -/
/-! ### mdct_Joiner_Next: function 14 -/
def mdct_Joiner_Next.l0 : Nat → Int → List Int → List Int → List Int → Int → Int → Option (List Int × Int)
 | 0, _, _, _, _, _, _ => none
 | k + 1, x0, x2, x6, x8, x35, x36 => if x36 < x35 then (if 0 ≤ x36 then (if x36 < (x2.length : Int) then (if x36 < (x6.length : Int) then ((fix_Clamp.f k (wrap64 ((rd x2 x36) + (rd x6 x36))) (-16777216) 16777216).bind fun t215 => (if x36 < (x8.length : Int) then (mdct_Joiner_Next.l0 k x0 x2 x6 (x8.set (x36 : Int).toNat t215) x35 (wrap64 (x36 + 1))) else (none))) else (none)) else (none)) else (none)) else (if 0 ≤ x0 then (if x0 ≤ (x6.length : Int) then (some (x8, 0)) else (none)) else (none))
def mdct_Joiner_Next.f (k : Nat) (a0 : Int) (a1 : Int) (l2 : List Int) (l3 : List Int) : Option (List Int × Int) := if (l3.length : Int) = a0 then ((mdct_Inverse.f k l3 a1).bind fun bt206 => (if bt206.2 = 0 then (if 0 ≤ a0 then (if (a0 : Int).toNat ≤ 35184372088832 then ((some (List.replicate (a0 : Int).toNat 0 : List Int)).bind fun y210 => (mdct_Joiner_Next.l0 k a0 l2 bt206.1 y210 (y210.length : Int) 0)) else (none)) else (none)) else (some (([] : List Int), bt206.2)))) else (some (([] : List Int), 1))
def mdct_Joiner_Next.T10 : Bool × List (List Nat × List Nat) := (true, [([], []), ([], []), ([], []), ([2], [2]), ([3], [3]), ([4], [4]), ([], []), ([5, 6], [5, 6]), ([7], [7]), ([], []), ([], []), ([9, 10], [9, 10]), ([11], [11]), ([8, 12], [8, 12]), ([13], [13]), ([0, 1, 0, 1, 2, 3, 4, 5, 6, 7, 8, 9, 10, 11, 12, 13, 14], [0, 1]), ([15, 14, 14, 0, 1, 2, 3, 4, 5, 6, 7, 8, 9, 10, 11, 12, 13, 14], [14, 15])])
def mdct_Joiner_Next.B10 : List Nat := [0, 0, 0, 4, 12, 28, 0, 124, 252, 0, 0, 1536, 3584, 8188, 16380, 32767, 65535]
theorem mdct_Joiner_Next.tab10 : rtab .any (opsOf Try.f14 10) = mdct_Joiner_Next.T10 := by kernel_rfl
theorem mdct_Joiner_Next.bits10 : waitsOk mdct_Joiner_Next.T10.2 mdct_Joiner_Next.B10 = true := by kernel_rfl
def NextPost (k : Nat) (a0 a1 : Int) (g : Nat) (l3 : List Int) (w w' : World) : Prop :=
 ((¬ ((l3.length : Int) = a0 ∧ ∃ y, mdct_Inverse.f k l3 a1 = some (y, 0))) → Below w.heap.size w w') ∧
 ∀ y, (l3.length : Int) = a0 → mdct_Inverse.f k l3 a1 = some (y, 0) → Keeps w w' g ∧ ∃ A c, w'.heap[g]? = some (.cells #[.int .i64 a0, .int .i64 a1, .slice A (y.drop a0.toNat).length c] 52 (0, 0)) ∧ Kd.C (Kd.int .i64) w' A (y.drop a0.toNat).length (y.drop a0.toNat) ∧ (y.drop a0.toNat).length ≤ c ∧ ∀ ad, A = some ad → w.heap.size ≤ ad.block
set_option maxHeartbeats 8000000 in
set_option maxRecDepth 100000 in
theorem mdct_Joiner_Next.walk (k : Nat) (a0 : Int) (a1 : Int) (g : Nat) (A2 : Option Addr) (c2 : Nat) (l2 : List Int) (A3 : Option Addr) (c3 : Nat) (l3 : List Int) (r1 : List Int) (r2 : Int) (w : World) (hg : w.heap[g]? = some (.cells #[.int .i64 a0, .int .i64 a1, .slice A2 l2.length c2] 52 (0, 0))) (hr2 : Kd.C (Kd.int .i64) w A2 l2.length l2) (hc2 : l2.length ≤ c2) (hr3 : Kd.C (Kd.int .i64) w A3 l3.length l3) (hc3 : l3.length ≤ c3) (h : mdct_Joiner_Next.f k a0 a1 l2 l3 = some (r1, r2)) :
  Calls Try.prog 14 #[.pointer (some ⟨g, 0, none⟩), .slice A3 l3.length c3] w fun e w' => ∃ v0_ : Value, e = .returned (.tuple #[v0_, .int .i64 r2]) ∧ Kd.R (Kd.int .i64) 2 w' w.heap.size (fun _ => True) v0_ r1 ∧ NextPost k a0 a1 g l3 w w' := by
 have hlt : g < w.heap.size := blk_lt hg
 have hs0 : w.cell? ⟨g, 0, none⟩ = some (.int .i64 a0) := by simp [World.cell?, hg]
 have hs1 : w.cell? ⟨g, 1, none⟩ = some (.int .i64 a1) := by simp [World.cell?, hg]
 have hs2 : w.cell? ⟨g, 2, none⟩ = some (.slice A2 l2.length c2) := by simp [World.cell?, hg]
 have GB := Aside0.mk hlt; have G0 := Aside0.mk hs0; have G1 := Aside0.mk hs1; have G2 := Aside0.mk hs2; have GH := Aside0.mk hg; clear hg
 have HR2 := Aside0.mk hr2; have HC2 := Aside0.mk hc2; clear hr2 hc2; have HR3 := Aside0.mk hr3; have HC3 := Aside0.mk hc3; clear hr3 hc3
 have HB := Aside0.mk (Below.refl w.heap.size w)
 have H : (if (l3.length : Int) = a0 then ((mdct_Inverse.f k l3 a1).bind fun bt206 => (if bt206.2 = 0 then (if 0 ≤ a0 then (if (a0 : Int).toNat ≤ 35184372088832 then ((some (List.replicate (a0 : Int).toNat 0 : List Int)).bind fun y210 => (mdct_Joiner_Next.l0 k a0 l2 bt206.1 y210 (y210.length : Int) 0)) else (none)) else (none)) else (some (([] : List Int), bt206.2)))) else (some (([] : List Int), 1))) = some (r1, r2) := h
 clear h
 by_cases c5 : (l3.length : Int) = a0
 ·
  rw [if_pos c5] at H; have c5b0 : ((l3.length : Int) == a0) = true := beq_iff_eq.mpr c5; have c5b1 : ((l3.length : Int) != a0) = false := bne_eq_false_iff_eq.mpr c5; have C5 := Aside0.mk c5; clear c5; replace H := Option.bind_eq_some_iff.mp H; obtain ⟨⟨t206, t207⟩, A60, H⟩ := H
  replace H : (if t207 = 0 then (if 0 ≤ a0 then (if (a0 : Int).toNat ≤ 35184372088832 then ((some (List.replicate (a0 : Int).toNat 0 : List Int)).bind fun y210 => (mdct_Joiner_Next.l0 k a0 l2 t206 y210 (y210.length : Int) 0)) else (none)) else (none)) else (some (([] : List Int), t207))) = some (r1, r2) := H
  have A6 := Aside0.mk A60; clear A60
  by_cases c7 : t207 = 0
  ·
   rw [if_pos c7] at H; have c7b0 : (t207 == 0) = true := beq_iff_eq.mpr c7; have c7b1 : (t207 != 0) = false := bne_eq_false_iff_eq.mpr c7; have C7 := Aside0.mk c7; clear c7
   by_cases c8 : 0 ≤ a0; rotate_left
   ·
    rw [if_neg c8] at H; exact absurd H (by simp)
   rw [if_pos c8] at H; have c8b0 := eq_true c8; have c8b1 : decide (0 ≤ a0) = true := decide_eq_true c8; clear c8
   by_cases c9 : (a0 : Int).toNat ≤ 35184372088832; rotate_left
   ·
    rw [if_neg c9] at H; exact absurd H (by simp)
   rw [if_pos c9] at H; have c9b0 := eq_true c9; have c9b1 : decide ((a0 : Int).toNat ≤ 35184372088832) = true := decide_eq_true c9; clear c9
   obtain ⟨y210, hy210⟩ : ∃ y_ : List Int, y_ = (List.replicate (a0 : Int).toNat 0) := ⟨_, rfl⟩
   replace H : (mdct_Joiner_Next.l0 k a0 l2 t206 y210 (y210.length : Int) 0) = some (r1, r2) := by first | (rw [hy210]; with_reducible exact H) | (have H2_ := (Option.bind_some _ _).symm.trans H; rw [hy210]; with_reducible exact H2_) | (have H2_ := (Option.bind_some _ _).symm.trans H; with_reducible exact H2_) | with_reducible exact H | (rw [hy210]; exact H) | exact H
   have Ny210 := Aside0.mk hy210; clear hy210; have H' := Aside0.mk H; clear H
   go_enter Try.func14, Try.ntmps14
   go_wp2_with (first | ((with_reducible refine gate_callee (f := 12) rfl ?_); refine goesL_ (some 23) rfl rfl Try.func12 (by kernel_rfl) rfl #[.slice A3 l3.length c3, .int .i64 a1] rfl (by (try simp only [List.map_toArray, List.map_cons, List.map_nil]); first | done | rfl | (simp only [List.length_drop, List.length_take]; rfl)) ?_; (with_reducible refine (mdct_Inverse.calls k _ _ l3 a1 t206 t207 _ ?side1 ?side2 A6.out).mono ?_); (case side1 => repeat (first | exact HR3.out | (with_reducible refine Kd.C_alloc ?_ _) | (with_reducible refine Kd.C_drewN ?_ _) | (with_reducible refine Kd.C_drew ?_))); (case side2 => exact HC3.out); rintro e w10 ⟨v208, rfl, ho0, hb⟩; refine ⟨_, rfl, ?_⟩; have n0_ := Aside0.mk (Kd.R_lower ho0 (below_size (by repeat (with_reducible first | exact HB.out | apply below_alloc | apply pw_below_drewN | apply below_drew1)))); have n1_ := Aside0.mk (below_step (by repeat (with_reducible first | exact HB.out | apply below_alloc | apply pw_below_drewN | apply below_drew1)) hb); clear HB; have HO209 := n0_; have HB := n1_; have hs0a := (HB.out.cell GB.out).trans G0.out; clear hs1 hs2; clear n0_ n1_; (try clear hb); (try clear hb2); (try clear hk); (try clear hi); (try clear ho0)) | ((with_reducible refine gate_dst (N := 33) rfl ?_); refine Kd.R_make (Kd.int .i64) _ 2 rfl (N := 33) rfl 23 _ _ rfl a0 rfl rfl Try.underlying23 (.int .i64 0) 8 info2 rfl (by decide) (by omega) 0 (ok := fun _ => True) (okp := fun _ => True) rfl (fun _ hk => hk) trivial (of_decide_eq_true (by first | (with_reducible assumption) | assumption)) (Nat.le_trans (Nat.mul_le_mul_right _ (of_decide_eq_true (by first | (with_reducible assumption) | assumption) : a0.toNat ≤ 35184372088832)) (by omega)) (Below.refl _ _) (Nat.le_refl _) ?_; intro v211 w11 ho12 hb hg_ hnew_; clear hg_ hnew_; (first | rw [← Ny210.out] at ho12 | (simp only [Int.reduceToNat] at ho12; rw [← Ny210.out] at ho12)); have n0_ := Aside0.mk (Kd.R_elder' (by (with_reducible repeat first | apply Kd.R_alloc | apply Kd.R_drewN | apply Kd.R_drew); exact HO209.out) (Kd.R_base ho12) hb); have n1_ := Aside0.mk (Kd.R_lower (Kd.R_new' ho12 (Kd.R_lt (by (with_reducible repeat first | apply Kd.R_alloc | apply Kd.R_drewN | apply Kd.R_drew); exact HO209.out))) (below_size (by repeat (with_reducible first | exact HB.out | apply below_alloc | apply pw_below_drewN | apply below_drew1)))); have n2_ := Aside0.mk (below_step (by repeat (with_reducible first | exact HB.out | apply below_alloc | apply pw_below_drewN | apply below_drew1)) hb); clear HO209; clear HB; have HO209 := n0_; have HO212 := n1_; have HB := n2_; clear n0_ n1_ n2_; clear hb ho12; obtain ⟨Ao13, co13, eo13⟩ := Kd.R_slice HO212.out; subst eo13))
   go_loopg [36] k (fun kq v36 w' => ∃ (x8_1 : List Int) (x36_1 : Int), v36 = .int .i64 x36_1 ∧ Aside0 (mdct_Joiner_Next.l0 kq a0 l2 t206 x8_1 (y210.length : Int) x36_1 = some (r1, r2)) ∧ Aside0 (kq ≤ k) ∧ Aside0 (Kd.R (Kd.int .i64) 2 w' w.heap.size (fun k_ => some k_ ≠ ((.slice Ao13 y210.length co13) : Value).ownBlock) v208 t206) ∧ Aside0 (Kd.R (Kd.int .i64) 2 w' w.heap.size (fun k_ => some k_ ≠ (v208 : Value).ownBlock) (.slice Ao13 y210.length co13) x8_1) ∧ Aside0 (Below w.heap.size w w'))
   case atStart => exact ⟨(y210), (0), (by first | rfl | (simp; done) | (simp [*]; done)), H', ⟨Nat.le_refl _⟩, ⟨by (with_reducible repeat first | apply Kd.R_alloc | apply Kd.R_drewN | apply Kd.R_drew); exact Kd.R_mono HO209.out (fun _ hk => hk.2)⟩, ⟨by (with_reducible repeat first | apply Kd.R_alloc | apply Kd.R_drewN | apply Kd.R_drew); exact Kd.R_mono HO212.out (fun _ hk => hk.2)⟩, ⟨by repeat (with_reducible first | exact HB.out | apply below_alloc | apply pw_below_drewN | apply below_drew1)⟩⟩
   case round =>
    clear H'
    (try clear c1); (try clear c2); (try clear p2); (try clear c3); (try clear c5); (try clear c5b0); (try clear c5b0z0); (try clear c5b1); (try clear c5b1z0); (try clear c7); (try clear c7b0); (try clear c7b0z0); (try clear c7b1); (try clear c7b1z0); (try clear c8); (try clear c8b0); (try clear c8b0z0); (try clear c8b1); (try clear c8b1z0); (try clear c9); (try clear c9b0); (try clear c9b0z0); (try clear c9b1); (try clear c9b1z0); (try clear c12)
    obtain ⟨x8_1, x36_1, rfl, HA, HK1, HO_6, HO_8, HB⟩ := hrel
    have hl8_1 := (Kd.R_reads' HO_8.out).1
    rw [hl8_1] at HO_8; (try simp only [hl8_1]); (try simp only [hl8_1] at HO_6)
    cases gk with
    | zero => exact absurd HA.out (by simp [mdct_Joiner_Next.l0])
    | succ k1 =>
     have H := HA.out; clear HA
     simp only [mdct_Joiner_Next.l0] at H
     by_cases c14 : x36_1 < (y210.length : Int)
     ·
      rw [if_pos c14] at H; have c14b0 : decide (x36_1 < (y210.length : Int)) = true := decide_eq_true c14
      (try (have c14b0z0 := c14b0; rw [hl8_1] at c14b0z0))
      clear c14
      by_cases c15 : 0 ≤ x36_1; rotate_left
      ·
       rw [if_neg c15] at H; exact absurd H (by simp)
      rw [if_pos c15] at H; have c15b0 : decide (0 ≤ x36_1) = true := decide_eq_true c15; clear c15
      by_cases c16 : x36_1 < (l2.length : Int); rotate_left
      ·
       rw [if_neg c16] at H; exact absurd H (by simp)
      rw [if_pos c16] at H; have c16b0 : decide (x36_1 < (l2.length : Int)) = true := decide_eq_true c16
      (try (have c16b0z0 := c16b0; rw [hl8_1] at c16b0z0))
      clear c16
      by_cases c17 : x36_1 < (t206.length : Int); rotate_left
      ·
       rw [if_neg c17] at H; exact absurd H (by simp)
      rw [if_pos c17] at H; have c17b0 : decide (x36_1 < (t206.length : Int)) = true := decide_eq_true c17
      (try (have c17b0z0 := c17b0; rw [hl8_1] at c17b0z0))
      clear c17; replace H := Option.bind_eq_some_iff.mp H; obtain ⟨t215, A180, H⟩ := H
      replace H : (if x36_1 < (x8_1.length : Int) then (mdct_Joiner_Next.l0 k1 a0 l2 t206 (x8_1.set (x36_1 : Int).toNat t215) (y210.length : Int) (wrap64 (x36_1 + 1))) else (none)) = some (r1, r2) := H
      have A18 := Aside0.mk A180; clear A180
      by_cases c19 : x36_1 < (x8_1.length : Int); rotate_left
      ·
       rw [if_neg c19] at H; exact absurd H (by simp)
      rw [if_pos c19] at H; have c19b0 : decide (x36_1 < (x8_1.length : Int)) = true := decide_eq_true c19
      (try (have c19b0z0 := c19b0; rw [hl8_1] at c19b0z0))
      clear c19
      obtain ⟨y216, hy216⟩ : ∃ y_ : List Int, y_ = (x8_1.set (x36_1 : Int).toNat t215) := ⟨_, rfl⟩
      replace H : (mdct_Joiner_Next.l0 k1 a0 l2 t206 y216 (y210.length : Int) (wrap64 (x36_1 + 1))) = some (r1, r2) := by first | (rw [hy216]; with_reducible exact H) | (have H2_ := (Option.bind_some _ _).symm.trans H; rw [hy216]; with_reducible exact H2_) | (have H2_ := (Option.bind_some _ _).symm.trans H; with_reducible exact H2_) | with_reducible exact H | (rw [hy216]; exact H) | exact H
      have Ny216 := Aside0.mk hy216; clear hy216; have H' := Aside0.mk H; clear H
      try go_wp2
      have n0_ := Aside0.mk (Kd.R_drew HO_6.out)
      have n1_ := Aside0.mk (Kd.R_drew HO_8.out)
      have n2_ := Aside0.mk (below_drew1 HB.out)
      clear HO_6; clear HO_8; clear HB
      have HO_6 := n0_
      have HO_8 := n1_
      have HB := n2_
      clear n0_ n1_ n2_; have p213 : 0 ≤ (x36_1 : Int) := of_decide_eq_true (by first | (with_reducible assumption) | assumption); have q213 : x36_1 < (l2.length : Int) := of_decide_eq_true (by first | (with_reducible assumption) | assumption)
      obtain ⟨ad213, e213, hx213_0⟩ := Kd.at_int HR2.out x36_1 p213 q213
      have hw213_0 := hx213_0
      cases e213
      replace hx213_0 := (HB.out.cell (World.block_lt_of_cell? w _ hx213_0)).trans hx213_0
      replace p213 := eq_true p213; replace q213 := eq_true q213
      obtain ⟨Ao22, co22, eo22⟩ := Kd.R_slice HO_6.out
      (first | subst eo22 | (injection eo22 with f1_ f2_ f3_; have f4_ := f1_.symm; have f5_ := f3_.symm; clear f1_ f2_ f3_; subst f4_; subst f5_))
      have p214 : 0 ≤ (x36_1 : Int) := of_decide_eq_true (by first | (with_reducible assumption) | assumption); have q214 : x36_1 < (t206.length : Int) := of_decide_eq_true (by first | (with_reducible assumption) | assumption)
      obtain ⟨ad214, e214, hx214_0⟩ := Kd.at_int (Kd.R_reads' HO_6.out).2.2 x36_1 p214 q214
      cases e214; replace p214 := eq_true p214; replace q214 := eq_true q214
      refine start_ (n := 17) (S := fun w' => w'.cell? (ad213.add (x36_1).toNat) = some (.int .i64 (rd l2 x36_1)) ∧ w'.cell? (ad214.add (x36_1).toNat) = some (.int .i64 (rd t206 x36_1)) ∧ w'.cell? ⟨g, 2, none⟩ = some (.slice (some ad213) l2.length c2)) (ds := [16]) #[false, false, false, false, false, false, false, false, false, false, false, false, false, false, false, false, false] (by kernel_rfl) rfl rfl ⟨((HB.out.cell (World.block_lt_of_cell? w _ hw213_0)).trans hw213_0), hx214_0, (HB.out.cell GB.out).trans G2.out⟩ (fun hHeld => ?_); refine with_tabW mdct_Joiner_Next.tab10 mdct_Joiner_Next.bits10 (fun HT_ HW_ => ?_)
      generalize wr.drew = w21 at HO_6 HO_8 HB hx213_0 hx214_0 hHeld ⊢
      refine pure_ (i := 0) (N := some 39) (v := ?_) (a' := ?_) #[true, false, false, false, false, false, false, false, false, false, false, false, false, false, false, false, false] rfl rfl (any_of HT_.out (by kernel_rfl)) (fun _ _ _ h => h) (Or.inl ⟨by rfl, ?_⟩) ?_ ?_
      rotate_left
      ·
       intro w'
       go_simp
       with_reducible rfl
      rotate_left
      ·
       simp only [Act.put, List.setIfInBounds_toArray, List.set_cons_zero, List.set_cons_succ, i64_w, i32_w]
       rfl
      refine pure_ (i := 1) (N := some 40) (v := ?_) (a' := ?_) #[true, true, false, false, false, false, false, false, false, false, false, false, false, false, false, false, false] rfl rfl (any_of HT_.out (by kernel_rfl)) (fun _ _ _ h => h) (Or.inl ⟨by rfl, ?_⟩) ?_ ?_
      rotate_left
      ·
       intro w'
       go_simp
       with_reducible rfl
      rotate_left
      ·
       simp only [Act.put, List.setIfInBounds_toArray, List.set_cons_zero, List.set_cons_succ, i64_w, i32_w]
       rfl
      refine pure_ (i := 2) (N := some 41) (v := ?_) (a' := ?_) #[true, true, true, false, false, false, false, false, false, false, false, false, false, false, false, false, false] rfl rfl (any_of HT_.out (by kernel_rfl)) (fun _ _ _ h => h) (Or.inl ⟨by rfl, ?_⟩) ?_ ?_
      rotate_left
      ·
       intro w'
       go_simp
       with_reducible rfl
      rotate_left
      ·
       simp only [Act.put, List.setIfInBounds_toArray, List.set_cons_zero, List.set_cons_succ, i64_w, i32_w]
       rfl
      refine pure_ (i := 3) (N := some 42) (v := ?_) (a' := ?_) #[true, true, true, true, false, false, false, false, false, false, false, false, false, false, false, false, false] rfl rfl (any_of HT_.out (by kernel_rfl)) (fun _ _ _ h => h) (Or.inl ⟨by rfl, ?_⟩) ?_ ?_
      rotate_left
      ·
       intro w'
       go_simp
       with_reducible rfl
      rotate_left
      ·
       simp only [Act.put, List.setIfInBounds_toArray, List.set_cons_zero, List.set_cons_succ, i64_w, i32_w]
       rfl
      refine pure_ (i := 4) (N := some 43) (v := ?_) (a' := ?_) #[true, true, true, true, true, false, false, false, false, false, false, false, false, false, false, false, false] rfl rfl (any_of HT_.out (by kernel_rfl)) (fun _ _ _ h => h) (Or.inl ⟨by rfl, ?_⟩) ?_ ?_
      rotate_left
      ·
       intro w'
       go_simp
       with_reducible rfl
      rotate_left
      ·
       simp only [Act.put, List.setIfInBounds_toArray, List.set_cons_zero, List.set_cons_succ, i64_w, i32_w]
       rfl
      refine take_ (i := 5) (N := some 44) (v := ?_) (a' := ?_) #[true, true, true, true, true, true, false, false, false, false, false, false, false, false, false, false, false] rfl rfl (take_ofW HT_.out HW_.out (by kernel_rfl)) (fun _ _ _ h => h) (Or.inl ⟨by rfl, ?_⟩) hHeld ?_ ?_
      rotate_left
      ·
       rintro w' ⟨s0, s1, s2⟩
       go_simp
       with_reducible rfl
      rotate_left
      ·
       simp only [Act.put, List.setIfInBounds_toArray, List.set_cons_zero, List.set_cons_succ, i64_w, i32_w]
       rfl
      refine pure_ (i := 6) (N := some 45) (v := ?_) (a' := ?_) #[true, true, true, true, true, true, true, false, false, false, false, false, false, false, false, false, false] rfl rfl (any_of HT_.out (by kernel_rfl)) (fun _ _ _ h => h) (Or.inl ⟨by rfl, ?_⟩) ?_ ?_
      rotate_left
      ·
       intro w'
       go_simp
       with_reducible rfl
      rotate_left
      ·
       simp only [Act.put, List.setIfInBounds_toArray, List.set_cons_zero, List.set_cons_succ, i64_w, i32_w]
       rfl
      refine pure_ (i := 7) (N := some 46) (v := ?_) (a' := ?_) #[true, true, true, true, true, true, true, true, false, false, false, false, false, false, false, false, false] rfl rfl (any_of HT_.out (by kernel_rfl)) (fun _ _ _ h => h) (Or.inl ⟨by rfl, ?_⟩) ?_ ?_
      rotate_left
      ·
       intro w'
       go_simp
       with_reducible rfl
      rotate_left
      ·
       simp only [Act.put, List.setIfInBounds_toArray, List.set_cons_zero, List.set_cons_succ, i64_w, i32_w]
       rfl
      refine pure_ (i := 9) (N := some 48) (v := ?_) (a' := ?_) #[true, true, true, true, true, true, true, true, false, true, false, false, false, false, false, false, false] rfl rfl (any_of HT_.out (by kernel_rfl)) (fun _ _ _ h => h) (Or.inl ⟨by rfl, ?_⟩) ?_ ?_
      rotate_left
      ·
       intro w'
       go_simp
       with_reducible rfl
      rotate_left
      ·
       simp only [Act.put, List.setIfInBounds_toArray, List.set_cons_zero, List.set_cons_succ, i64_w, i32_w]
       rfl
      refine pure_ (i := 10) (N := some 49) (v := ?_) (a' := ?_) #[true, true, true, true, true, true, true, true, false, true, true, false, false, false, false, false, false] rfl rfl (any_of HT_.out (by kernel_rfl)) (fun _ _ _ h => h) (Or.inl ⟨by rfl, ?_⟩) ?_ ?_
      rotate_left
      ·
       intro w'
       go_simp
       with_reducible rfl
      rotate_left
      ·
       simp only [Act.put, List.setIfInBounds_toArray, List.set_cons_zero, List.set_cons_succ, i64_w, i32_w]
       rfl
      refine pure_ (i := 11) (N := some 50) (v := ?_) (a' := ?_) #[true, true, true, true, true, true, true, true, false, true, true, true, false, false, false, false, false] rfl rfl (any_of HT_.out (by kernel_rfl)) (fun _ _ _ h => h) (Or.inl ⟨by rfl, ?_⟩) ?_ ?_
      rotate_left
      ·
       intro w'
       go_simp
       with_reducible rfl
      rotate_left
      ·
       simp only [Act.put, List.setIfInBounds_toArray, List.set_cons_zero, List.set_cons_succ, i64_w, i32_w]
       rfl
      refine take_ (i := 8) (N := some 47) (v := ?_) (a' := ?_) #[true, true, true, true, true, true, true, true, true, true, true, true, false, false, false, false, false] rfl rfl (take_ofW HT_.out HW_.out (by kernel_rfl)) (fun _ _ _ h => h) (Or.inl ⟨by rfl, ?_⟩) hHeld ?_ ?_
      rotate_left
      ·
       rintro w' ⟨s0, s1, s2⟩
       go_simp
       with_reducible rfl
      rotate_left
      ·
       simp only [Act.put, List.setIfInBounds_toArray, List.set_cons_zero, List.set_cons_succ, i64_w, i32_w]
       rfl
      refine take_ (i := 12) (N := some 51) (v := ?_) (a' := ?_) #[true, true, true, true, true, true, true, true, true, true, true, true, true, false, false, false, false] rfl rfl (take_ofW HT_.out HW_.out (by kernel_rfl)) (fun _ _ _ h => h) (Or.inl ⟨by rfl, ?_⟩) hHeld ?_ ?_
      rotate_left
      ·
       rintro w' ⟨s0, s1, s2⟩
       go_simp
       with_reducible rfl
      rotate_left
      ·
       simp only [Act.put, List.setIfInBounds_toArray, List.set_cons_zero, List.set_cons_succ, i64_w, i32_w]
       rfl
      refine pure_ (i := 13) (N := some 52) (v := ?_) (a' := ?_) #[true, true, true, true, true, true, true, true, true, true, true, true, true, true, false, false, false] rfl rfl (any_of HT_.out (by kernel_rfl)) (fun _ _ _ h => h) (Or.inl ⟨by rfl, ?_⟩) ?_ ?_
      rotate_left
      ·
       intro w'
       go_simp
       with_reducible rfl
      rotate_left
      ·
       simp only [Act.put, List.setIfInBounds_toArray, List.set_cons_zero, List.set_cons_succ, i64_w, i32_w]
       rfl
      refine one_ (i := 14) (N := some 53) #[true, true, true, true, true, true, true, true, true, true, true, true, true, true, true, false, false] rfl rfl (one_of HT_.out (by kernel_rfl)) (by decide) (fun K hK => ?_)
      refine goes_ Try.func28 (by kernel_rfl) rfl #[.int .i64 (wrap64 ((rd l2 x36_1) + (rd t206 x36_1))), .int .i64 (-16777216), .int .i64 16777216] (by rfl) rfl rfl (by (try simp only [List.map_toArray, List.map_cons, List.map_nil]); first | done | rfl | (simp only [List.length_drop, List.length_take]; rfl)) ?_
      with_reducible refine (fix_Clamp.calls k1 (wrap64 ((rd l2 x36_1) + (rd t206 x36_1))) (-16777216) 16777216 t215 _ A18.out).mono ?_
      rintro e w' ⟨rfl, ⟨nd, rfl⟩⟩
      refine ⟨_, rfl, ?_⟩
      have p20 : 0 ≤ (x36_1 : Int) := of_decide_eq_true (by first | (with_reducible assumption) | assumption); have q20 : (x36_1 : Int) < ((x8_1.length : Int) : Int) := of_decide_eq_true (by first | (with_reducible assumption) | assumption)
      obtain ⟨go20, co20, eo20, gb20, gl20, cl20, HG20⟩ := Kd.R_form HO_8.out (by omega)
      (first | cases eo20 | (injection eo20 with ea_ en_ ec_; (first | subst ea_ | (injection ea_ with ea_; subst ea_)); subst ec_; clear en_))
      have GB20 := Aside0.mk gb20; have GG20 := Aside0.mk HG20; clear gb20 gl20 HG20
      obtain ⟨hx20_0, hf20_0⟩ := Kd.R_celln 0 HO_8.out (x36_1 : Int) p20 q20
      replace p20 := eq_true p20; replace q20 := eq_true q20
      have HP23 := Kd.R_putn HO_8.out (x36_1 : Int) t215
      rw [← Ny216.out] at HP23; have HQ23 := Aside0.mk HP23; clear HP23
      refine hK.out _ _ ⟨((HB.out.cell (World.block_lt_of_cell? w _ hw213_0)).trans hw213_0), hHeld.2⟩ (fun hHeld => ?_)
      clear hK K
      refine norm_ (a' := ?_) ?_ ?_
      rotate_left
      ·
       show Act.put _ (some 53) _ = _
       simp only [Act.put, List.setIfInBounds_toArray, List.set_cons_zero, List.set_cons_succ, i64_w, i32_w]
       rfl
      refine pure_ (i := 15) (N := some 54) (v := ?_) (a' := ?_) #[true, true, true, true, true, true, true, true, true, true, true, true, true, true, true, true, false] rfl rfl (any_of HT_.out (by kernel_rfl)) (fun _ _ _ h => h) (Or.inl ⟨by rfl, ?_⟩) ?_ ?_
      rotate_left
      ·
       intro w'
       go_simp
       with_reducible rfl
      rotate_left
      ·
       simp only [Act.put, List.setIfInBounds_toArray, List.set_cons_zero, List.set_cons_succ, i64_w, i32_w]
       rfl
      refine last_ (i := 16) (N := none) #[true, true, true, true, true, true, true, true, true, true, true, true, true, true, true, true, true] rfl rfl (one_of HT_.out (by kernel_rfl)) (by decide) (fun K hK => ?_)
      refine skip_ (w1 := ?_) (by rfl) rfl ?_ ?_
      rotate_left
      ·
       go_simp
       rfl
      refine hK.out _ _ ?_
      clear hK K
      refine done_ (done_of HT_.out (by kernel_rfl)) ?_
      try go_wp2
      (try simp only [← hl8_1])
      go_roundg k1
      case measure => have := HK1.out; omega
      case rel => exact ⟨(y216), (wrap64 (x36_1 + 1)), (by first | rfl | (simp; done) | (simp [*]; done)), H', ⟨by have := HK1.out; omega⟩, ⟨by (try simp only [hl8_1]); (with_reducible repeat first | apply Kd.R_alloc | apply Kd.R_drewN | apply Kd.R_drew); exact Kd.R_mono (Kd.R_far (p := ⟨go20, (x36_1 : Int).toNat, none⟩) (Kd.R_mono HO_6.out (fun k_ hk => (⟨hk, fun e_ => hk (by rw [e_]; rfl)⟩ : _ ∧ k_ ≠ go20))) (fun _ hk => hk.2) (.int .i64 t215)) (fun _ hk => hk.1)⟩, ⟨by (try simp only [hl8_1]); (with_reducible repeat first | apply Kd.R_alloc | apply Kd.R_drewN | apply Kd.R_drew); exact HQ23.out⟩, ⟨by repeat (first | (with_reducible first | exact HB.out | apply below_alloc | apply pw_below_drewN | apply below_drew1 | refine below_set ?_ GB20.out) | exact HB.out)⟩⟩
     ·
      rw [if_neg c14] at H; have c14b0 : decide (x36_1 < (y210.length : Int)) = false := decide_eq_false c14
      (try (have c14b0z0 := c14b0; rw [hl8_1] at c14b0z0))
      clear c14
      by_cases c24 : 0 ≤ a0; rotate_left
      ·
       rw [if_neg c24] at H; exact absurd H (by simp)
      rw [if_pos c24] at H; have c24b0 := eq_true c24; have c24b1 : decide (0 ≤ a0) = true := decide_eq_true c24; clear c24
      by_cases c25 : a0 ≤ (t206.length : Int); rotate_left
      ·
       rw [if_neg c25] at H; exact absurd H (by simp)
      rw [if_pos c25] at H; have c25b0 := eq_true c25; have c25b1 : decide (a0 ≤ (t206.length : Int)) = true := decide_eq_true c25
      (try (have c25b1z0 := c25b1; rw [hl8_1] at c25b1z0))
      clear c25
      obtain ⟨y217, hy217⟩ : ∃ y_ : List Int, y_ = (t206.drop (a0 : Int).toNat) := ⟨_, rfl⟩
      replace H : (some (x8_1, 0)) = some (r1, r2) := by first | (rw [hy217]; with_reducible exact H) | (have H2_ := (Option.bind_some _ _).symm.trans H; rw [hy217]; with_reducible exact H2_) | (have H2_ := (Option.bind_some _ _).symm.trans H; with_reducible exact H2_) | with_reducible exact H | (rw [hy217]; exact H) | exact H
      have Ny217 := Aside0.mk hy217; clear hy217
      simp only [Option.some.injEq, Prod.mk.injEq] at H
      obtain ⟨rfl, rfl⟩ := H
      obtain ⟨Ao27, co27, eo27⟩ := Kd.R_slice HO_6.out
      subst eo27; have q26 : (a0 : Int) ≤ ((t206.length : Int) : Int) := of_decide_eq_true (by first | (with_reducible assumption) | assumption)
      obtain ⟨i026, hi026, _, hsz26, _⟩ := info_parts info2
      have hroom26 : t206.length ≤ co27 := (Kd.R_reads' HO_6.out).2.1
      have hC26 : Kd.C (Kd.int .i64) _ Ao27 t206.length t206 := (Kd.R_reads' HO_6.out).2.2
      have q026 : (0 : Int) ≤ (a0 : Int) := of_decide_eq_true (by first | (with_reducible assumption) | assumption)
      have hcut26 := cut_from (P := Try.prog) 23 2 .i64 Try.underlying23 hi026 1 hsz26 Ao27 t206.length co27 a0 q026 q26
      have hr26 := Kd.C_drop (m := (a0 : Int).toNat) (c := co27) hC26 (by omega) hroom26
      obtain ⟨A26, hA26⟩ : ∃ A1, A1 = (if co27 = (a0 : Int).toNat then Ao27 else (Ao27 : Option Addr).map (·.add ((a0 : Int).toNat * 1))) := ⟨_, rfl⟩
      obtain ⟨c26, hc26⟩ : ∃ c1, c1 = co27 - (a0 : Int).toNat := ⟨_, rfl⟩
      have hy26 : y217.length = t206.length - (a0 : Int).toNat := (by rw [Ny217.out, List.length_drop] <;> omega)
      rw [show (t206).drop (a0 : Int).toNat = y217 from Ny217.out.symm] at hr26
      replace hr26 : Kd.C (Kd.int .i64) _ A26 y217.length y217 := (by rw [hA26]; exact hr26)
      rw [← hy26, ← hA26, ← hc26] at hcut26; have HR220 := Aside0.mk hr26
      have HC220 := Aside0.mk (show y217.length ≤ c26 from by rw [hy26, hc26]; exact Nat.sub_le_sub_right hroom26 _)
      clear hr26 hC26 hroom26 hi026 hsz26 hc26; have KY26 := Aside0.mk hy26; have KA26 := Aside0.mk hA26; clear hy26 hA26
      have KL26 := Aside0.mk (show (a0 : Int).toNat ≤ t206.length from by omega)
      replace q26 := eq_true q26
      have hs0e := (HB.out.cell GB.out).trans G0.out
      have hs2e := (HB.out.cell GB.out).trans G2.out
      have hfe : wr.frozen? ⟨g, 2, none⟩ = false := by simp [World.frozen?, HB.out.block g GB.out, GH.out]
      have HBz := HB
      go_wp2_with (first | ((with_reducible refine gate_store (t := 23) (p := 64) rfl ?_); refine store_event (t := 23) (p := 64) (v := ?vo_z) (w1 := (wr.setCell ⟨g, 2, none⟩ (.slice A26 y217.length c26))) ?hg ?ho ?hn ?hr ?_; (case ho => rfl); (case hg => rfl); (case hn => rfl); (case hr => first | (go_simp; done) | (go_simp; rfl)); intro wz hw))
      go_ret2
      refine ⟨_, rfl, by rw [hw]; exact Kd.R_mono (Kd.R_far (p := ⟨g, 2, none⟩) (Kd.R_bound HO_8.out) (fun k_ hk => by have := hk.2.1; have := GB.out; show k_ ≠ g; omega) _) (fun _ _ => trivial), ⟨fun hn => absurd ⟨C5.out, t206, by rw [A6.out, C7.out]⟩ hn, fun y_ _ hI => ?_⟩⟩
      have he : t206 = y_ := by have := A6.out; rw [hI] at this; injection this with h1; injection h1 with h2 h3; exact h2.symm
      subst he
      have hR := Kd.R_far (p := ⟨g, 2, none⟩) (Kd.R_bound HO_6.out) (fun k_ hk => by have := hk.2.1; have := GB.out; show k_ ≠ g; omega) (.slice A26 y217.length c26)
      have hroom := (Kd.R_reads' HO_6.out).2.1
      have hC := Kd.C_drop (m := (a0 : Int).toNat) (c := co27) (Kd.R_reads' hR).2.2 KL26.out hroom
      have hbase := Kd.R_base HO_6.out
      have hy217 : t206.drop (a0 : Int).toNat = y217 := Ny217.out.symm
      have hA := KA26.out
      rw [hy217] at hC ⊢
      have hA' : (if co27 = (a0 : Int).toNat then Ao27 else (Ao27 : Option Addr).map (·.add ((a0 : Int).toNat * (Kd.int IntKind.i64).sz))) = A26 := hA.symm
      rw [hA'] at hC; rw [hw]
      refine ⟨keep_store HB.out, A26, c26, ?_, hC, HC220.out, ?_⟩
      ·
       have hgr := (HB.out.block g GB.out).trans GH.out
       have hlt2 := blk_lt hgr
       simp [World.setCell, Array.getElem?_modify, hgr]
      ·
       intro ad had
       rw [hA] at had
       cases Ao27 with
       | none => simp at had
       | some b =>
         have hb := hbase b.block rfl
         split at had
         ·
          injection had with h1; rw [← h1]; exact hb
         ·
          simp only [Option.map_some, Option.some.injEq] at had; rw [← had]; unfold Addr.add; split <;> exact hb
  ·
   rw [if_neg c7] at H; have c7b0 : (t207 == 0) = false := beq_eq_false_iff_ne.mpr c7; have c7b1 : (t207 != 0) = true := bne_iff_ne.mpr c7
   simp only [Option.some.injEq, Prod.mk.injEq] at H
   obtain ⟨rfl, rfl⟩ := H
   go_enter Try.func14, Try.ntmps14
   go_wp2_with (first | ((with_reducible refine gate_callee (f := 12) rfl ?_); refine goesL_ (some 23) rfl rfl Try.func12 (by kernel_rfl) rfl #[.slice A3 l3.length c3, .int .i64 a1] rfl (by (try simp only [List.map_toArray, List.map_cons, List.map_nil]); first | done | rfl | (simp only [List.length_drop, List.length_take]; rfl)) ?_; (with_reducible refine (mdct_Inverse.calls k _ _ l3 a1 t206 t207 _ ?side1 ?side2 A6.out).mono ?_); (case side1 => repeat (first | exact HR3.out | (with_reducible refine Kd.C_alloc ?_ _) | (with_reducible refine Kd.C_drewN ?_ _) | (with_reducible refine Kd.C_drew ?_))); (case side2 => exact HC3.out); rintro e w28 ⟨v208, rfl, ho0, hb⟩; refine ⟨_, rfl, ?_⟩; have n0_ := Aside0.mk (Kd.R_lower ho0 (below_size (by repeat (with_reducible first | exact HB.out | apply below_alloc | apply pw_below_drewN | apply below_drew1)))); have n1_ := Aside0.mk (below_step (by repeat (with_reducible first | exact HB.out | apply below_alloc | apply pw_below_drewN | apply below_drew1)) hb); clear HB; have HO209 := n0_; have HB := n1_; have hs0a := (HB.out.cell GB.out).trans G0.out; clear hs1 hs2; clear n0_ n1_; (try clear hb); (try clear hb2); (try clear hk); (try clear hi); (try clear ho0)))
   go_ret2
   exact ⟨_, rfl, by first | exact Kd.R_nil _ _ _ _ _, ⟨fun _ => (by repeat (with_reducible first | exact HB.out | apply below_alloc | apply pw_below_drewN | apply below_drew1)), fun y_ _ hI => absurd (by have := A6.out; rw [hI] at this; injection this with h1; injection h1 with h2 h3; exact h3.symm) c7⟩⟩
 ·
  rw [if_neg c5] at H; have c5b0 : ((l3.length : Int) == a0) = false := beq_eq_false_iff_ne.mpr c5; have c5b1 : ((l3.length : Int) != a0) = true := bne_iff_ne.mpr c5
  simp only [Option.some.injEq, Prod.mk.injEq] at H
  obtain ⟨rfl, rfl⟩ := H
  go_enter Try.func14, Try.ntmps14
  go_wp2
  go_ret2
  exact ⟨_, rfl, by first | exact Kd.R_nil _ _ _ _ _, ⟨fun _ => (by repeat (with_reducible first | exact HB.out | apply below_alloc | apply pw_below_drewN | apply below_drew1)), fun y_ hy _ => absurd hy c5⟩⟩

/-! ### madrigallaw15_same: function 17 -/
def madrigallaw15_same.l0 : Nat → List Int → List Int → Int → Option (Bool)
 | 0, _, _, _ => none
 | k + 1, x0, x1, x5 => if x5 < (x0.length : Int) then (if 0 ≤ x5 then (if x5 < (x1.length : Int) then (if (rd x0 x5) = (rd x1 x5) then (madrigallaw15_same.l0 k x0 x1 (wrap64 (x5 + 1))) else (some false)) else (none)) else (none)) else (some true)
def madrigallaw15_same.f (k : Nat) (l0 : List Int) (l1 : List Int) : Option (Bool) := if (l0.length : Int) = (l1.length : Int) then (madrigallaw15_same.l0 k l0 l1 0) else (some false)
set_option maxHeartbeats 8000000 in
set_option maxRecDepth 100000 in
theorem madrigallaw15_same.calls (k : Nat) (A0 : Option Addr) (c0 : Nat) (l0 : List Int) (A1 : Option Addr) (c1 : Nat) (l1 : List Int) (r : Bool) (w : World) (hr0 : Kd.C (Kd.int .i64) w A0 l0.length l0) (hc0 : l0.length ≤ c0) (hr1 : Kd.C (Kd.int .i64) w A1 l1.length l1) (hc1 : l1.length ≤ c1) (h : madrigallaw15_same.f k l0 l1 = some r) :
  Calls Try.prog 17 #[.slice A0 l0.length c0, .slice A1 l1.length c1] w fun e w' => e = .returned (.bool r) ∧ Drawn0 w w' := by
 have HR0 := Aside0.mk hr0; have HC0 := Aside0.mk hc0; clear hr0 hc0; have HR1 := Aside0.mk hr1; have HC1 := Aside0.mk hc1; clear hr1 hc1
 have H : (if (l0.length : Int) = (l1.length : Int) then (madrigallaw15_same.l0 k l0 l1 0) else (some false)) = some r := h
 clear h
 by_cases c3 : (l0.length : Int) = (l1.length : Int)
 ·
  rw [if_pos c3] at H; have c3b0 : ((l0.length : Int) == (l1.length : Int)) = true := beq_iff_eq.mpr c3; have c3b1 : ((l0.length : Int) != (l1.length : Int)) = false := bne_eq_false_iff_eq.mpr c3
  have c3b2 : (l0.length == l1.length) = true := by first | simpa using c3 | (simp at c3 ⊢; omega)
  clear c3; have H' := Aside0.mk H; clear H
  go_enter Try.func17, Try.ntmps17
  go_wp2
  repeat (go_quiet (fail); try go_wp2)
  go_loopg [5] k (fun kq v5 w' => ∃ (x5_1 : Int), v5 = .int .i64 x5_1 ∧ Aside0 (madrigallaw15_same.l0 kq l0 l1 x5_1 = some r) ∧ Aside0 (kq ≤ k) ∧ Drawn0 w w')
  case atStart => exact ⟨(0), (by first | rfl | (simp; done) | (simp [*]; done)), H', ⟨Nat.le_refl _⟩, by repeat (first | exact Drawn0.refl _ | apply Drawn0.step)⟩
  case round =>
   clear H'
   (try clear c1); (try clear p2); (try clear c3); (try clear c3b0); (try clear c3b0z0); (try clear c3b1); (try clear c3b1z0); (try clear c3b2); (try clear c3b2z0)
   obtain ⟨x5_1, rfl, HA, HK1, ⟨m1, rfl⟩⟩ := hrel
   cases gk with
   | zero => exact absurd HA.out (by simp [madrigallaw15_same.l0])
   | succ k1 =>
    have H := HA.out; clear HA
    simp only [madrigallaw15_same.l0] at H
    by_cases c4 : x5_1 < (l0.length : Int)
    ·
     rw [if_pos c4] at H; have c4b0 : decide (x5_1 < (l0.length : Int)) = true := decide_eq_true c4; clear c4
     by_cases c5 : 0 ≤ x5_1; rotate_left
     · rw [if_neg c5] at H; exact absurd H (by simp)
     rw [if_pos c5] at H; have c5b0 : decide (0 ≤ x5_1) = true := decide_eq_true c5; clear c5
     by_cases c6 : x5_1 < (l1.length : Int); rotate_left
     · rw [if_neg c6] at H; exact absurd H (by simp)
     rw [if_pos c6] at H; have c6b0 : decide (x5_1 < (l1.length : Int)) = true := decide_eq_true c6; clear c6
     by_cases c7 : (rd l0 x5_1) = (rd l1 x5_1)
     ·
      rw [if_pos c7] at H; have c7b0 : ((rd l0 x5_1) == (rd l1 x5_1)) = true := beq_iff_eq.mpr c7; have c7b1 : ((rd l0 x5_1) != (rd l1 x5_1)) = false := bne_eq_false_iff_eq.mpr c7; clear c7; have H' := Aside0.mk H; clear H; have p206 : 0 ≤ (x5_1 : Int) := of_decide_eq_true (by first | (with_reducible assumption) | assumption); have q206 : x5_1 < (l0.length : Int) := of_decide_eq_true (by first | (with_reducible assumption) | assumption)
      obtain ⟨ad206, e206, hx206_0⟩ := Kd.at_int HR0.out x5_1 p206 q206
      cases e206; replace p206 := eq_true p206; replace q206 := eq_true q206; have p207 : 0 ≤ (x5_1 : Int) := of_decide_eq_true (by first | (with_reducible assumption) | assumption); have q207 : x5_1 < (l1.length : Int) := of_decide_eq_true (by first | (with_reducible assumption) | assumption)
      obtain ⟨ad207, e207, hx207_0⟩ := Kd.at_int HR1.out x5_1 p207 q207
      cases e207; replace p207 := eq_true p207; replace q207 := eq_true q207
      go_wp2
      repeat (go_quiet (fail); try go_wp2)
      go_roundg k1
      case measure => have := HK1.out; omega
      case rel => exact ⟨(wrap64 (x5_1 + 1)), (by first | rfl | (simp; done) | (simp [*]; done)), H', ⟨by have := HK1.out; omega⟩, by repeat (first | exact Drawn0.refl _ | apply Drawn0.step)⟩
     ·
      rw [if_neg c7] at H; have c7b0 : ((rd l0 x5_1) == (rd l1 x5_1)) = false := beq_eq_false_iff_ne.mpr c7; have c7b1 : ((rd l0 x5_1) != (rd l1 x5_1)) = true := bne_iff_ne.mpr c7
      obtain rfl := Option.some.inj H
      have p206 : 0 ≤ (x5_1 : Int) := of_decide_eq_true (by first | (with_reducible assumption) | assumption); have q206 : x5_1 < (l0.length : Int) := of_decide_eq_true (by first | (with_reducible assumption) | assumption)
      obtain ⟨ad206, e206, hx206_0⟩ := Kd.at_int HR0.out x5_1 p206 q206
      cases e206; replace p206 := eq_true p206; replace q206 := eq_true q206; have p207 : 0 ≤ (x5_1 : Int) := of_decide_eq_true (by first | (with_reducible assumption) | assumption); have q207 : x5_1 < (l1.length : Int) := of_decide_eq_true (by first | (with_reducible assumption) | assumption)
      obtain ⟨ad207, e207, hx207_0⟩ := Kd.at_int HR1.out x5_1 p207 q207
      cases e207; replace p207 := eq_true p207; replace q207 := eq_true q207
      go_wp2
      repeat (go_quiet (fail); try go_wp2)
      go_ret
      exact ⟨by first | rfl | (simp; done) | (simp [*]; done), by repeat (first | exact Drawn0.refl _ | apply Drawn0.step)⟩
    ·
     rw [if_neg c4] at H; have c4b0 : decide (x5_1 < (l0.length : Int)) = false := decide_eq_false c4; clear c4
     obtain rfl := Option.some.inj H
     go_wp2
     repeat (go_quiet (fail); try go_wp2)
     go_ret
     exact ⟨by first | rfl | (simp; done) | (simp [*]; done), by repeat (first | exact Drawn0.refl _ | apply Drawn0.step)⟩
 ·
  rw [if_neg c3] at H; have c3b0 : ((l0.length : Int) == (l1.length : Int)) = false := beq_eq_false_iff_ne.mpr c3; have c3b1 : ((l0.length : Int) != (l1.length : Int)) = true := bne_iff_ne.mpr c3
  have c3b2 : (l0.length == l1.length) = false := by first | simpa using c3 | (simp at c3 ⊢; omega)
  obtain rfl := Option.some.inj H
  go_enter Try.func17, Try.ntmps17
  go_wp2
  repeat (go_quiet (fail); try go_wp2)
  go_ret
  exact ⟨by first | rfl | (simp; done) | (simp [*]; done), by repeat (first | exact Drawn0.refl _ | apply Drawn0.step)⟩

/-! ### slices_Clone_int64_int64: function 37 -/
theorem eql_slice_nil (w : World) (a : Option Addr) (l c : Nat) : (Go.binOp .eql 23 (.slice a l c) (.slice none 0 0)).run Try.prog w = .ok (.bool a.isNone) w := by
 simp only [Go.binOp]
 simp [run_equal_slice_nil w 23 2 a l c Try.underlying23]
attribute [local go_sem] eql_slice_nil
def slices_Clone_int64_int64.f (l0 : List Int) : Option (List Int) := (some (([] : List Int) : List Int)).bind fun y223 => (if y223.length + l0.length < 17592186044416 then (some (y223 ++ l0)) else (none))
set_option maxHeartbeats 8000000 in
set_option maxRecDepth 100000 in
theorem slices_Clone_int64_int64.walk (A0 : Addr) (c0 : Nat) (l0 : List Int) (r : List Int) (w : World) (hr0 : Kd.C (Kd.int .i64) w (some A0) l0.length l0) (hc0 : l0.length ≤ c0) (h : slices_Clone_int64_int64.f l0 = some r) :
  Calls Try.prog 37 #[.slice (some A0) l0.length c0] w fun e w' => ∃ v0_ : Value, e = .returned (v0_) ∧ Kd.R (Kd.int .i64) 2 w' w.heap.size (fun _ => True) v0_ r ∧ Below w.heap.size w w' := by
 have HR0 := Aside0.mk hr0; have HC0 := Aside0.mk hc0; clear hr0 hc0
 have HB := Aside0.mk (Below.refl w.heap.size w)
 have H : ((some (([] : List Int) : List Int)).bind fun y223 => (if y223.length + l0.length < 17592186044416 then (some (y223 ++ l0)) else (none))) = some r := h
 clear h
 obtain ⟨y223, hy223⟩ : ∃ y_ : List Int, y_ = (([] : List Int)) := ⟨_, rfl⟩
 replace H : (if y223.length + l0.length < 17592186044416 then (some (y223 ++ l0)) else (none)) = some r := by first | (rw [hy223]; with_reducible exact H) | (have H2_ := (Option.bind_some _ _).symm.trans H; rw [hy223]; with_reducible exact H2_) | (have H2_ := (Option.bind_some _ _).symm.trans H; with_reducible exact H2_) | with_reducible exact H | (rw [hy223]; exact H) | exact H
 have Ny223 := Aside0.mk hy223; clear hy223
 by_cases c2 : y223.length + l0.length < 17592186044416; rotate_left
 ·
  rw [if_neg c2] at H; exact absurd H (by simp)
 rw [if_pos c2] at H; have LMc2 := Aside0.mk c2; clear c2
 obtain ⟨y226, hy226⟩ : ∃ y_ : List Int, y_ = (y223 ++ l0) := ⟨_, rfl⟩
 replace H : (some y226) = some r := by first | (rw [hy226]; with_reducible exact H) | (have H2_ := (Option.bind_some _ _).symm.trans H; rw [hy226]; with_reducible exact H2_) | (have H2_ := (Option.bind_some _ _).symm.trans H; with_reducible exact H2_) | with_reducible exact H | (rw [hy226]; exact H) | exact H
 have Ny226 := Aside0.mk hy226; clear hy226
 obtain rfl := Option.some.inj H
 go_enter Try.func37, Try.ntmps37
 go_wp2_with (first | ((with_reducible refine gate_dst (N := 5) rfl ?_); refine Kd.R_lit (Kd.int .i64) _ 2 ?hg (N := 5) ?hd (xs := ([] : List Int)) (inner := []) (ok := fun _ => True) (okp := fun _ => True) ?hr ?hp (fun _ hk => hk) trivial (Below.refl _ _) (Nat.le_refl _) (by simp) ?_; (case hd => rfl); (case hg => rfl); (case hr => first | (go_simp; done) | (go_simp; rfl)); (case hp => exact (Reps.none _ _)); intro v224 w3 ho4 hb hg_ hnew_; clear hg_ hnew_; (first | rw [← Ny223.out] at ho4 | (simp only [Int.reduceToNat] at ho4; rw [← Ny223.out] at ho4)); have n0_ := Aside0.mk (Kd.R_lower ho4 (below_size (by repeat (with_reducible first | exact HB.out | apply below_alloc | apply pw_below_drewN | apply below_drew1)))); have n1_ := Aside0.mk (below_step (by repeat (with_reducible first | exact HB.out | apply below_alloc | apply pw_below_drewN | apply below_drew1)) hb); clear HB; have HO225 := n0_; have HB := n1_; clear n0_ n1_; clear hb ho4) | ((with_reducible refine gate_builtin (b := .append) (xs := #[.tmp 5, .tmp 6]) rfl ?_); at_builtin; refine Kd.R_append_rows (Kd.int .i64) (w0 := w) w.heap.size rfl (.tmp 5) (.tmp 6) 23 2 (.int .i64 0) 8 rfl Try.underlying23 info2 rfl (by decide) (by omega) v224 y223 l0 _ _ _ (fun _ => True) (fun _ => False) rfl rfl ?aO ?aR (fun _ _ h => h) (fun _ h => h.elim) ?aF ?aB ?aS ?aL ?_; (case aR => repeat (first | exact (Kd.C_below HR0.out HB.out) | (with_reducible refine Kd.C_alloc ?_ _) | (with_reducible refine Kd.C_drewN ?_ _) | (with_reducible refine Kd.C_drew ?_))); (case aB => exact (by repeat (with_reducible first | exact HB.out | apply below_alloc | apply pw_below_drewN | apply below_drew1))); (case aF => exact (fun _ _ => trivial)); (case aO => exact (by (with_reducible repeat first | apply Kd.R_alloc | apply Kd.R_drewN | apply Kd.R_drew); exact HO225.out)); (case aS => exact (below_size (by repeat (with_reducible first | exact HB.out | apply below_alloc | apply pw_below_drewN | apply below_drew1)))); (case aL => have := LMc2.out; omega); intro v227 w5 ho hb hg hat; rw [← Ny226.out] at ho; have n0_ := Aside0.mk (hb); have n1_ := Aside0.mk (ho); clear HB; clear HO225; have HB := n0_; have HO228 := n1_; clear n0_ n1_; clear ho hb hg hat))
 go_ret
 exact ⟨_, by first | rfl | (simp [errW_none, errW_some] <;> rfl) | (simp [*, errW_none, errW_some] <;> rfl), by (with_reducible repeat first | apply Kd.R_alloc | apply Kd.R_drewN | apply Kd.R_drew); exact HO228.out, by repeat (with_reducible first | exact HB.out | apply below_alloc | apply pw_below_drewN | apply below_drew1)⟩

/-! ### mdct_Joiner_Copy: function 22 -/
set_option maxHeartbeats 8000000 in
set_option maxRecDepth 100000 in
theorem mdct_Joiner_Copy.walk (a0 a1 : Int) (base g : Nat) (ys : List Int) (w : World) (hn : 0 < ys.length) (hl : ys.length ≤ 1000000) (hJ : JAt w base g a0 a1 ys) :
  Calls Try.prog 22 #[.pointer (some ⟨g, 0, none⟩)] w fun e w' => ∃ g', e = .returned (.pointer (some ⟨g', 0, none⟩)) ∧ JAt w' w.heap.size g' a0 a1 ys ∧ Below w.heap.size w w' := by
 have hJ2 := hJ
 obtain ⟨hbg, A2, c2, hg, hC, hc, hA⟩ := hJ2
 obtain ⟨ad, rfl, _⟩ := hC.2.2 hn
 have hlt : g < w.heap.size := blk_lt hg
 have hs2 : w.cell? ⟨g, 2, none⟩ = some (.slice (some ad) ys.length c2) := by simp [World.cell?, hg]
 have GB := Aside0.mk hlt; have G2 := Aside0.mk hs2; have GH := Aside0.mk hg; clear hA
 have HC := Aside0.mk hC; have HL := Aside0.mk hc; clear hC hc
 have HB := Aside0.mk (Below.refl w.heap.size w)
 have hf : slices_Clone_int64_int64.f ys = some ys := by
  unfold slices_Clone_int64_int64.f
  rw [Option.bind_some, if_pos (by simp; omega)]; rfl
 have HF := Aside0.mk hf; clear hf
 have HJ := Aside0.mk hJ; clear hJ
 go_enter Try.func22, Try.ntmps22
 go_wp2_with (first
  | ((with_reducible refine gate_dst (N := 6) rfl ?_); refine wpList_load_row rfl 52 (.tmp 5) rfl g ?hx 52 #[.int .i64 a0, .int .i64 a1, .slice (some ad) ys.length c2] (0, 0) _ GH.out Try.underlying52 rfl (by kernel_rfl) ?_; (case hx => first | rfl | (go_simp; rfl)))
  | ((with_reducible refine gate_callee (f := 37) rfl ?_); refine goesL_ (some 11) rfl rfl Try.func37 (by kernel_rfl) rfl #[.slice (some ad) ys.length c2] rfl (by (try simp only [List.map_toArray, List.map_cons, List.map_nil]); first | done | rfl) ?_; (with_reducible refine (slices_Clone_int64_int64.walk ad c2 ys ys _ ?side1 HL.out HF.out).mono ?_); (case side1 => exact Kd.C_alloc HC.out _); rintro e w10 ⟨v208, rfl, ho0, hb⟩; refine ⟨_, rfl, ?_⟩; obtain ⟨Ao13, co13, eo13⟩ := Kd.R_slice ho0; subst eo13; have HO := Aside0.mk ho0; clear ho0; have HB10 := Aside0.mk hb; clear hb; have hgz : w10.heap[w.heap.size]? = some (.cells #[.int .i64 a0, .int .i64 a1, .slice (some ad) ys.length c2] 52 (0, 0)) := (HB10.out.block w.heap.size (by show w.heap.size < (w.heap.push _).size; rw [Array.size_push]; exact Nat.lt_succ_self _)).trans (Array.getElem?_push_size); have hs2e : w10.cell? ⟨w.heap.size, 2, none⟩ = some (.slice (some ad) ys.length c2) := (by simp [World.cell?, hgz]); have hfe : w10.frozen? ⟨w.heap.size, 2, none⟩ = false := (by simp [World.frozen?, hgz]))
  | ((with_reducible refine gate_store (t := 23) (p := 12) rfl ?_); refine store_event (t := 23) (p := 12) (v := ?vo_z) (w1 := (w10.setCell ⟨w.heap.size, 2, none⟩ (.slice Ao13 ys.length co13))) ?hg ?ho ?hn ?hr ?_; (case ho => rfl); (case hg => rfl); (case hn => rfl); (case hr => first | (go_simp; done) | (go_simp; rfl)); intro wz hw))
 go_ret
 have hbase := Kd.R_base HO.out
 have hB : Below w.heap.size w w10 := below_step (below_alloc (Below.refl _ _) _) HB10.out
 refine ⟨w.heap.size, rfl, ?_, ?_⟩
 ·
  rw [hw]
  refine JAt.store (Nat.le_refl _) hgz (Kd.R_reads' HO.out).2.2 (Kd.R_reads' HO.out).2.1 (fun ad' had => ?_)
  subst had
  have h1 := hbase ad'.block rfl
  have h2 : (w.alloc (.cells #[.int .i64 a0, .int .i64 a1, .slice (some ad) ys.length c2] 52 (0, 0))).heap.size = w.heap.size + 1 := Array.size_push _
  exact ⟨by omega, by omega⟩
 ·
  rw [hw]; exact below_set hB (Nat.le_refl _)

/-! ### slices_Equal_int64_int64: function 38 -/
def slices_Equal_int64_int64.l0 : Nat → List Int → List Int → Int → Int → Option (Bool)
 | 0, _, _, _, _ => none
 | k + 1, x0, x1, x12, x13 => if x13 < x12 then (if 0 ≤ x13 then (if x13 < (x0.length : Int) then (if x13 < (x1.length : Int) then (if (rd x0 x13) = (rd x1 x13) then (slices_Equal_int64_int64.l0 k x0 x1 x12 (wrap64 (x13 + 1))) else (some false)) else (none)) else (none)) else (none)) else (some true)
def slices_Equal_int64_int64.f (k : Nat) (l0 : List Int) (l1 : List Int) : Option (Bool) := if (l0.length : Int) = (l1.length : Int) then (slices_Equal_int64_int64.l0 k l0 l1 (l0.length : Int) 0) else (some false)
set_option maxHeartbeats 8000000 in
set_option maxRecDepth 100000 in
theorem slices_Equal_int64_int64.calls (k : Nat) (A0 : Option Addr) (c0 : Nat) (l0 : List Int) (A1 : Option Addr) (c1 : Nat) (l1 : List Int) (r : Bool) (w : World) (hr0 : Kd.C (Kd.int .i64) w A0 l0.length l0) (hc0 : l0.length ≤ c0) (hr1 : Kd.C (Kd.int .i64) w A1 l1.length l1) (hc1 : l1.length ≤ c1) (h : slices_Equal_int64_int64.f k l0 l1 = some r) :
  Calls Try.prog 38 #[.slice A0 l0.length c0, .slice A1 l1.length c1] w fun e w' => e = .returned (.bool r) ∧ Drawn0 w w' := by
 have HR0 := Aside0.mk hr0; have HC0 := Aside0.mk hc0; clear hr0 hc0; have HR1 := Aside0.mk hr1; have HC1 := Aside0.mk hc1; clear hr1 hc1
 have H : (if (l0.length : Int) = (l1.length : Int) then (slices_Equal_int64_int64.l0 k l0 l1 (l0.length : Int) 0) else (some false)) = some r := h
 clear h
 by_cases c3 : (l0.length : Int) = (l1.length : Int)
 ·
  rw [if_pos c3] at H; have c3b0 : ((l0.length : Int) == (l1.length : Int)) = true := beq_iff_eq.mpr c3; have c3b1 : ((l0.length : Int) != (l1.length : Int)) = false := bne_eq_false_iff_eq.mpr c3
  have c3b2 : (l0.length == l1.length) = true := by first | simpa using c3 | (simp at c3 ⊢; omega)
  clear c3; have H' := Aside0.mk H; clear H
  go_enter Try.func38, Try.ntmps38
  go_wp2
  repeat (go_quiet (fail); try go_wp2)
  go_loopg [13] k (fun kq v13 w' => ∃ (x13_1 : Int), v13 = .int .i64 x13_1 ∧ Aside0 (slices_Equal_int64_int64.l0 kq l0 l1 (l0.length : Int) x13_1 = some r) ∧ Aside0 (kq ≤ k) ∧ Drawn0 w w')
  case atStart => exact ⟨(0), (by first | rfl | (simp; done) | (simp [*]; done)), H', ⟨Nat.le_refl _⟩, by repeat (first | exact Drawn0.refl _ | apply Drawn0.step)⟩
  case round =>
   clear H'
   (try clear c1); (try clear p2); (try clear c3); (try clear c3b0); (try clear c3b0z0); (try clear c3b1); (try clear c3b1z0); (try clear c3b2); (try clear c3b2z0)
   obtain ⟨x13_1, rfl, HA, HK1, ⟨m1, rfl⟩⟩ := hrel
   cases gk with
   | zero => exact absurd HA.out (by simp [slices_Equal_int64_int64.l0])
   | succ k1 =>
    have H := HA.out; clear HA
    simp only [slices_Equal_int64_int64.l0] at H
    by_cases c4 : x13_1 < (l0.length : Int)
    ·
     rw [if_pos c4] at H; have c4b0 : decide (x13_1 < (l0.length : Int)) = true := decide_eq_true c4; clear c4
     by_cases c5 : 0 ≤ x13_1; rotate_left
     · rw [if_neg c5] at H; exact absurd H (by simp)
     rw [if_pos c5] at H; have c5b0 : decide (0 ≤ x13_1) = true := decide_eq_true c5; clear c5
     by_cases c6 : x13_1 < (l0.length : Int); rotate_left
     · rw [if_neg c6] at H; exact absurd H (by simp)
     rw [if_pos c6] at H; have c6b0 : decide (x13_1 < (l0.length : Int)) = true := decide_eq_true c6; clear c6
     by_cases c7 : x13_1 < (l1.length : Int); rotate_left
     · rw [if_neg c7] at H; exact absurd H (by simp)
     rw [if_pos c7] at H; have c7b0 : decide (x13_1 < (l1.length : Int)) = true := decide_eq_true c7; clear c7
     by_cases c8 : (rd l0 x13_1) = (rd l1 x13_1)
     ·
      rw [if_pos c8] at H; have c8b0 : ((rd l0 x13_1) == (rd l1 x13_1)) = true := beq_iff_eq.mpr c8; have c8b1 : ((rd l0 x13_1) != (rd l1 x13_1)) = false := bne_eq_false_iff_eq.mpr c8; clear c8; have H' := Aside0.mk H; clear H; have p208 : 0 ≤ (x13_1 : Int) := of_decide_eq_true (by first | (with_reducible assumption) | assumption); have q208 : x13_1 < (l0.length : Int) := of_decide_eq_true (by first | (with_reducible assumption) | assumption)
      obtain ⟨ad208, e208, hx208_0⟩ := Kd.at_int HR0.out x13_1 p208 q208
      cases e208; replace p208 := eq_true p208; replace q208 := eq_true q208; have p209 : 0 ≤ (x13_1 : Int) := of_decide_eq_true (by first | (with_reducible assumption) | assumption); have q209 : x13_1 < (l1.length : Int) := of_decide_eq_true (by first | (with_reducible assumption) | assumption)
      obtain ⟨ad209, e209, hx209_0⟩ := Kd.at_int HR1.out x13_1 p209 q209
      cases e209; replace p209 := eq_true p209; replace q209 := eq_true q209
      go_wp2
      repeat (go_quiet (fail); try go_wp2)
      go_roundg k1
      case measure => have := HK1.out; omega
      case rel => exact ⟨(wrap64 (x13_1 + 1)), (by first | rfl | (simp; done) | (simp [*]; done)), H', ⟨by have := HK1.out; omega⟩, by repeat (first | exact Drawn0.refl _ | apply Drawn0.step)⟩
     ·
      rw [if_neg c8] at H; have c8b0 : ((rd l0 x13_1) == (rd l1 x13_1)) = false := beq_eq_false_iff_ne.mpr c8; have c8b1 : ((rd l0 x13_1) != (rd l1 x13_1)) = true := bne_iff_ne.mpr c8
      obtain rfl := Option.some.inj H
      have p208 : 0 ≤ (x13_1 : Int) := of_decide_eq_true (by first | (with_reducible assumption) | assumption); have q208 : x13_1 < (l0.length : Int) := of_decide_eq_true (by first | (with_reducible assumption) | assumption)
      obtain ⟨ad208, e208, hx208_0⟩ := Kd.at_int HR0.out x13_1 p208 q208
      cases e208; replace p208 := eq_true p208; replace q208 := eq_true q208; have p209 : 0 ≤ (x13_1 : Int) := of_decide_eq_true (by first | (with_reducible assumption) | assumption); have q209 : x13_1 < (l1.length : Int) := of_decide_eq_true (by first | (with_reducible assumption) | assumption)
      obtain ⟨ad209, e209, hx209_0⟩ := Kd.at_int HR1.out x13_1 p209 q209
      cases e209; replace p209 := eq_true p209; replace q209 := eq_true q209
      go_wp2
      repeat (go_quiet (fail); try go_wp2)
      go_ret
      exact ⟨by first | rfl | (simp; done) | (simp [*]; done), by repeat (first | exact Drawn0.refl _ | apply Drawn0.step)⟩
    ·
     rw [if_neg c4] at H; have c4b0 : decide (x13_1 < (l0.length : Int)) = false := decide_eq_false c4; clear c4
     obtain rfl := Option.some.inj H
     go_wp2
     repeat (go_quiet (fail); try go_wp2)
     go_ret
     exact ⟨by first | rfl | (simp; done) | (simp [*]; done), by repeat (first | exact Drawn0.refl _ | apply Drawn0.step)⟩
 ·
  rw [if_neg c3] at H; have c3b0 : ((l0.length : Int) == (l1.length : Int)) = false := beq_eq_false_iff_ne.mpr c3; have c3b1 : ((l0.length : Int) != (l1.length : Int)) = true := bne_iff_ne.mpr c3
  have c3b2 : (l0.length == l1.length) = false := by first | simpa using c3 | (simp at c3 ⊢; omega)
  obtain rfl := Option.some.inj H
  go_enter Try.func38, Try.ntmps38
  go_wp2
  repeat (go_quiet (fail); try go_wp2)
  go_ret
  exact ⟨by first | rfl | (simp; done) | (simp [*]; done), by repeat (first | exact Drawn0.refl _ | apply Drawn0.step)⟩

end Go.Proofs.Ytnliianjljgcbaa.MA
