/- The reference's joiner: made, and a block joined; the code comes to the plain functions' answers. Condition: blocks that are good. -/
import Derived.Laws.Cover3
import Derived.Laws.Tables
import Derived.Laws.CopyOwn
import Derived.Test.YtnliianjljgcbaaMAx6
import Derived.Test.YtnliianjljgcbaaMAx9
namespace Go.Proofs.Ytnliianjljgcbaa.MA
open Go.RowKit Go.Proofs.YtnliianjljgcbaaW.PrintWords Go.Proofs.YtnliianjljgcbaaW.PrintLast Go.Proofs.YtnliianjljgcbaaW.PrintMore
attribute [local go_sem] max2_int min2_int max_two min_two max_three min_three max_four min_four
set_option linter.unusedVariables false
set_option linter.unusedSimpArgs false

/-! ### madrigalref10_Joiner_Next: function 24 -/
def madrigalref10_Joiner_Next.l0 : Nat → List Int → List Int → Int → List Int → Int → Option (List Int)
 | 0, _, _, _, _, _ => none
 | k + 1, x1, x5, x6, x7, x8 => if x8 < x6 then (if 0 ≤ x8 then (if x8 < (x1.length : Int) then (if x8 < (x5.length : Int) then ((madrigalref10_keep.f k (wrap64 ((rd x1 x8) + (rd x5 x8)))).bind fun t285 => (if x7.length < 17592186044416 then (madrigalref10_Joiner_Next.l0 k x1 x5 x6 (x7 ++ [t285]) (wrap64 (x8 + 1))) else (none))) else (none)) else (none)) else (none)) else (if 0 ≤ x6 then (if x6 ≤ (x5.length : Int) then (if (([] : List Int)).length + (x5.drop (x6 : Int).toNat).length < 17592186044416 then (some x7) else (none)) else (none)) else (none))
def madrigalref10_Joiner_Next.f (k : Nat) (a0 : Int) (l1 : List Int) (l2 : List Int) : Option (List Int) := (madrigalref10_Inverse.f k l2 a0).bind fun t0 => (madrigalref10_Joiner_Next.l0 k l1 t0 (l1.length : Int) ([] : List Int) 0)
def madrigalref10_Joiner_Next.T7 : Bool × List (List Nat × List Nat) := (true, [([], []), ([], []), ([1], [1]), ([2], [2]), ([3], [3]), ([], []), ([4, 5], [4, 5]), ([6], [6]), ([], []), ([], []), ([8, 9], [8, 9]), ([10], [10]), ([7, 11], [7, 11]), ([12], [12]), ([13], [13]), ([0, 14, 13], [0, 14]), ([15, 15, 0, 1, 2, 3, 4, 5, 6, 7, 8, 9, 10, 11, 12, 13, 14, 15], [0, 15])])
def madrigalref10_Joiner_Next.B7 : List Nat := [0, 0, 2, 6, 14, 0, 62, 126, 0, 0, 768, 1792, 4094, 8190, 16382, 32767, 65535]
theorem madrigalref10_Joiner_Next.tab7 : rtab .any (opsOf Try.f24 7) = madrigalref10_Joiner_Next.T7 := by kernel_rfl
theorem madrigalref10_Joiner_Next.bits7 : waitsOk madrigalref10_Joiner_Next.T7.2 madrigalref10_Joiner_Next.B7 = true := by kernel_rfl
/-- The reference's joiner: its block, and the row that it keeps. -/
def WAt (w : World) (base g : Nat) (l : Int) (ys : List Int) : Prop :=
 base ≤ g ∧ ∃ A c, w.heap[g]? = some (.cells #[.int .i64 l, .slice A ys.length c] 55 (0, 0)) ∧ Kd.C (Kd.int .i64) w A ys.length ys ∧ ys.length ≤ c ∧ ∀ ad, A = some ad → base ≤ ad.block ∧ ad.block ≠ g
theorem WAt.lt {w : World} {base g : Nat} {l : Int} {ys : List Int} (h : WAt w base g l ys) : g < w.heap.size := by
 obtain ⟨_, A, c, hg, _⟩ := h
 exact blk_lt hg
theorem WAt.keep {w W : World} {base g : Nat} {l : Int} {ys : List Int} (h : WAt w base g l ys) (hk : ∀ i, i < w.heap.size → base ≤ i → W.heap[i]? = w.heap[i]?) : WAt W base g l ys := by
 have hl := h.lt
 obtain ⟨hb, A, c, hg, hC, hc, hA⟩ := h
 refine ⟨hb, A, c, (hk g hl hb).trans hg, ?_, hc, hA⟩
 by_cases hn : 0 < ys.length
 · refine C_block hC (fun ad had => hk ad.block ?_ (hA ad had).1)
   obtain ⟨ad', e, hc'⟩ := hC.2.2 hn
   have e2 : ad = ad' := by rw [had] at e; exact Option.some.inj e
   subst e2
   obtain ⟨c1, hs, _, hcell⟩ := hc' 0 _ (List.getElem?_eq_getElem hn)
   have h0 : 0 < c1.length := by rw [hs]; decide
   have h1 := hcell 0 c1[0] (List.getElem?_eq_getElem h0)
   have h2 := World.block_lt_of_cell? w _ h1
   have e4 : (ad.add (0 * (Kd.int .i64).sz + 0)).block = ad.block := by unfold Addr.add; split <;> rfl
   rwa [e4] at h2
 · exact ⟨hC.1, hC.2.1, fun h0 => absurd (by rw [← hC.1]; exact h0) hn⟩
theorem WAt.below {w W : World} {base g : Nat} {l : Int} {ys : List Int} (h : WAt w base g l ys) (hk : Below w.heap.size w W) : WAt W base g l ys := h.keep fun i hi _ => hk.block i hi
theorem WAt.store {W : World} {base g c : Nat} {l : Int} {v0 : Value} {A : Option Addr} {xs : List Int} (hbg : base ≤ g) (hg : W.heap[g]? = some (.cells #[.int .i64 l, v0] 55 (0, 0))) (hC : Kd.C (Kd.int .i64) W A xs.length xs) (hc : xs.length ≤ c) (hA : ∀ ad, A = some ad → base ≤ ad.block ∧ ad.block ≠ g) : WAt (W.setCell ⟨g, 1, none⟩ (.slice A xs.length c)) base g l xs := by
 refine ⟨hbg, A, c, ?_, C_block hC (fun ad had => Below.heap_setCell W ⟨g, 1, none⟩ _ ad.block (hA ad had).2), hc, hA⟩
 have hlt := blk_lt hg
 simp [World.setCell, Array.getElem?_modify, hg]
theorem keep_store1 {w W : World} {g : Nat} {v : Value} (hB : Below w.heap.size w W) : Keeps w (W.setCell ⟨g, 1, none⟩ v) g :=
 ⟨⟨by simpa [World.setCell] using hB.size, fun i hi hne _ => (Below.heap_setCell W ⟨g, 1, none⟩ _ i hne).trans (hB.block i hi)⟩, hB.os, hB.tape, hB.output⟩
set_option maxHeartbeats 8000000 in
set_option maxRecDepth 100000 in
theorem madrigalref10_Joiner_Next.walk (k : Nat) (a0 : Int) (base g : Nat) (l1 : List Int) (A2 : Option Addr) (c2 : Nat) (l2 : List Int) (r t0 : List Int) (w : World) (hJ : WAt w base g a0 l1) (hr2 : Kd.C (Kd.int .i64) w A2 l2.length l2) (hc2 : l2.length ≤ c2) (hI : madrigalref10_Inverse.f k l2 a0 = some t0) (h : madrigalref10_Joiner_Next.f k a0 l1 l2 = some r) :
  Calls Try.prog 24 #[.pointer (some ⟨g, 0, none⟩), .slice A2 l2.length c2] w fun e w' => ∃ v0_ : Value, e = .returned (v0_) ∧ Kd.R (Kd.int .i64) 2 w' w.heap.size (fun _ => True) v0_ r ∧ WAt w' base g a0 (t0.drop l1.length) ∧ Keeps w w' g := by
 obtain ⟨hbg, A1, c1, hg, hr1, hc1, hA1⟩ := hJ
 clear hA1
 have hlt : g < w.heap.size := blk_lt hg
 have hs0 : w.cell? ⟨g, 0, none⟩ = some (.int .i64 a0) := by simp [World.cell?, hg]
 have hs1 : w.cell? ⟨g, 1, none⟩ = some (.slice A1 l1.length c1) := by simp [World.cell?, hg]
 have GB := Aside0.mk hlt; have G1 := Aside0.mk hs1; have GH := Aside0.mk hg; have GG := Aside0.mk hbg; clear hg hbg
 have HI := Aside0.mk hI; clear hI
 have HR1 := Aside0.mk hr1; have HC1 := Aside0.mk hc1; clear hr1 hc1; have HR2 := Aside0.mk hr2; have HC2 := Aside0.mk hc2; clear hr2 hc2
 have HB := Aside0.mk (Below.refl w.heap.size w)
 have H : ((madrigalref10_Inverse.f k l2 a0).bind fun t0 => (madrigalref10_Joiner_Next.l0 k l1 t0 (l1.length : Int) ([] : List Int) 0)) = some r := h
 clear h; replace H := Option.bind_eq_some_iff.mp H; obtain ⟨t280, A40, H⟩ := H
 replace H : (madrigalref10_Joiner_Next.l0 k l1 t280 (l1.length : Int) ([] : List Int) 0) = some r := H
 have ez_ : t0 = t280 := (by have q := HI.out; rw [A40] at q; exact (Option.some.inj q).symm)
 subst ez_
 have A4 := Aside0.mk A40; clear A40 HI; have H' := Aside0.mk H; clear H
 go_enter Try.func24, Try.ntmps24
 go_wp2_with (first | ((with_reducible refine gate_callee (f := 20) rfl ?_); refine goesL_ (some 14) rfl rfl Try.func20 (by kernel_rfl) rfl #[.slice A2 l2.length c2, .int .i64 a0] rfl (by (try simp only [List.map_toArray, List.map_cons, List.map_nil]); first | done | rfl | (simp only [List.length_drop, List.length_take]; rfl)) ?_; (with_reducible refine (madrigalref10_Inverse.calls k _ _ l2 a0 t0 _ ?side1 ?side2 A4.out).mono ?_); (case side1 => repeat (first | exact HR2.out | (with_reducible refine Kd.C_alloc ?_ _) | (with_reducible refine Kd.C_drewN ?_ _) | (with_reducible refine Kd.C_drew ?_))); (case side2 => exact HC2.out); rintro e w5 ⟨v281, rfl, ho0, hb⟩; refine ⟨_, rfl, ?_⟩; have n0_ := Aside0.mk (Kd.R_lower ho0 (below_size (by repeat (with_reducible first | exact HB.out | apply below_alloc | apply pw_below_drewN | apply below_drew1)))); have n1_ := Aside0.mk (below_step (by repeat (with_reducible first | exact HB.out | apply below_alloc | apply pw_below_drewN | apply below_drew1)) hb); clear HB; have HO282 := n0_; have HB := n1_; have hs1a := (HB.out.cell GB.out).trans G1.out; clear hs0 hs1; clear n0_ n1_; (try clear hb); (try clear hb2); (try clear hk); (try clear hi); (try clear ho0)))
 go_loopg [7, 8] k (fun kq v7 v8 w' => ∃ (x7_1 : List Int) (x8_1 : Int), v8 = .int .i64 x8_1 ∧ Aside0 (madrigalref10_Joiner_Next.l0 kq l1 t0 (l1.length : Int) x7_1 x8_1 = some r) ∧ Aside0 (kq ≤ k) ∧ Aside0 (Kd.R (Kd.int .i64) 2 w' w.heap.size (fun k_ => some k_ ≠ (v7 : Value).ownBlock) v281 t0) ∧ Aside0 (Kd.R (Kd.int .i64) 2 w' w.heap.size (fun k_ => some k_ ≠ (v281 : Value).ownBlock) v7 x7_1) ∧ Aside0 (Below w.heap.size w w'))
 case atStart => exact ⟨(([] : List Int)), (0), (by first | rfl | (simp; done) | (simp [*]; done)), H', ⟨Nat.le_refl _⟩, ⟨by (with_reducible repeat first | apply Kd.R_alloc | apply Kd.R_drewN | apply Kd.R_drew); exact Kd.R_mono HO282.out (fun _ hk => (by simp [Value.ownBlock]))⟩, ⟨by first | exact Kd.R_nil _ _ _ _ _ | exact Kd.N_nil _ _ _ _ _ | exact Kd.V_nil _ _ _ _ _ | exact Kd.Q_nil _ _ _ _ _ | exact Kd.S_nil _ _ _ _ _⟩, ⟨by repeat (with_reducible first | exact HB.out | apply below_alloc | apply pw_below_drewN | apply below_drew1)⟩⟩
 case round =>
  clear H'
  (try clear c1); (try clear c2); (try clear p2)
  obtain ⟨x7_1, x8_1, rfl, HA, HK1, HO_5, HO_7, HB⟩ := hrel
  cases gk with
  | zero => exact absurd HA.out (by simp [madrigalref10_Joiner_Next.l0])
  | succ k1 =>
   have H := HA.out; clear HA
   simp only [madrigalref10_Joiner_Next.l0] at H
   by_cases c6 : x8_1 < (l1.length : Int)
   ·
    rw [if_pos c6] at H; have c6b0 : decide (x8_1 < (l1.length : Int)) = true := decide_eq_true c6; clear c6
    by_cases c7 : 0 ≤ x8_1; rotate_left
    · rw [if_neg c7] at H; exact absurd H (by simp)
    rw [if_pos c7] at H; have c7b0 : decide (0 ≤ x8_1) = true := decide_eq_true c7; clear c7
    by_cases c8 : x8_1 < (l1.length : Int); rotate_left
    · rw [if_neg c8] at H; exact absurd H (by simp)
    rw [if_pos c8] at H; have c8b0 : decide (x8_1 < (l1.length : Int)) = true := decide_eq_true c8; clear c8
    by_cases c9 : x8_1 < (t0.length : Int); rotate_left
    · rw [if_neg c9] at H; exact absurd H (by simp)
    rw [if_pos c9] at H; have c9b0 : decide (x8_1 < (t0.length : Int)) = true := decide_eq_true c9; clear c9; replace H := Option.bind_eq_some_iff.mp H; obtain ⟨t285, A100, H⟩ := H
    replace H : (if x7_1.length < 17592186044416 then (madrigalref10_Joiner_Next.l0 k1 l1 t0 (l1.length : Int) (x7_1 ++ [t285]) (wrap64 (x8_1 + 1))) else (none)) = some r := H
    have A10 := Aside0.mk A100; clear A100
    by_cases c11 : x7_1.length < 17592186044416; rotate_left
    · rw [if_neg c11] at H; exact absurd H (by simp)
    rw [if_pos c11] at H; have LMc11 := Aside0.mk c11; clear c11
    obtain ⟨y286, hy286⟩ : ∃ y_ : List Int, y_ = (x7_1 ++ [t285]) := ⟨_, rfl⟩
    replace H : (madrigalref10_Joiner_Next.l0 k1 l1 t0 (l1.length : Int) y286 (wrap64 (x8_1 + 1))) = some r := by first | (rw [hy286]; with_reducible exact H) | (have H2_ := (Option.bind_some _ _).symm.trans H; rw [hy286]; with_reducible exact H2_) | (have H2_ := (Option.bind_some _ _).symm.trans H; with_reducible exact H2_) | with_reducible exact H | (rw [hy286]; exact H) | exact H
    have Ny286 := Aside0.mk hy286; clear hy286; have H' := Aside0.mk H; clear H
    try go_wp2
    have n0_ := Aside0.mk (Kd.R_drew HO_5.out)
    have n1_ := Aside0.mk (Kd.R_drew HO_7.out)
    have n2_ := Aside0.mk (below_drew1 HB.out)
    clear HO_5; clear HO_7; clear HB
    have HO_5 := n0_
    have HO_7 := n1_
    have HB := n2_
    clear n0_ n1_ n2_; have p283 : 0 ≤ (x8_1 : Int) := of_decide_eq_true (by first | (with_reducible assumption) | assumption); have q283 : x8_1 < (l1.length : Int) := of_decide_eq_true (by first | (with_reducible assumption) | assumption)
    obtain ⟨ad283, e283, hx283_0⟩ := Kd.at_int HR1.out x8_1 p283 q283
    have hw283_0 := hx283_0
    cases e283
    replace hx283_0 := (HB.out.cell (World.block_lt_of_cell? w _ hx283_0)).trans hx283_0
    replace p283 := eq_true p283; replace q283 := eq_true q283
    obtain ⟨Ao13, co13, eo13⟩ := Kd.R_slice HO_5.out
    (first | subst eo13 | (injection eo13 with f1_ f2_ f3_; have f4_ := f1_.symm; have f5_ := f3_.symm; clear f1_ f2_ f3_; subst f4_; subst f5_))
    have p284 : 0 ≤ (x8_1 : Int) := of_decide_eq_true (by first | (with_reducible assumption) | assumption); have q284 : x8_1 < (t0.length : Int) := of_decide_eq_true (by first | (with_reducible assumption) | assumption)
    obtain ⟨ad284, e284, hx284_0⟩ := Kd.at_int (Kd.R_reads' HO_5.out).2.2 x8_1 p284 q284
    cases e284; replace p284 := eq_true p284; replace q284 := eq_true q284
    refine start_ (n := 17) (S := fun w' => w'.cell? (ad283.add (x8_1).toNat) = some (.int .i64 (rd l1 x8_1)) ∧ w'.cell? (ad284.add (x8_1).toNat) = some (.int .i64 (rd t0 x8_1)) ∧ w'.cell? ⟨g, 1, none⟩ = some (.slice (some ad283) l1.length c1)) (ds := [14, 15]) #[false, false, false, false, false, false, false, false, false, false, false, false, false, false, false, false, false] (by kernel_rfl) rfl rfl ⟨((HB.out.cell (World.block_lt_of_cell? w _ hw283_0)).trans hw283_0), hx284_0, (HB.out.cell GB.out).trans G1.out⟩ (fun hHeld => ?_); refine with_tabW madrigalref10_Joiner_Next.tab7 madrigalref10_Joiner_Next.bits7 (fun HT_ HW_ => ?_)
    generalize wr.drew = w12 at HO_5 HO_7 HB hx283_0 hx284_0 hHeld ⊢
    refine pure_ (i := 0) (N := some 25) (v := ?_) (a' := ?_) #[true, false, false, false, false, false, false, false, false, false, false, false, false, false, false, false, false] rfl rfl (any_of HT_.out (by kernel_rfl)) (fun _ _ _ h => h) (Or.inl ⟨by rfl, ?_⟩) ?_ ?_
    rotate_left
    ·
     intro w'
     go_simp
     with_reducible rfl
    rotate_left
    ·
     simp only [Act.put, List.setIfInBounds_toArray, List.set_cons_zero, List.set_cons_succ, i64_w, i32_w]
     rfl
    refine pure_ (i := 1) (N := some 26) (v := ?_) (a' := ?_) #[true, true, false, false, false, false, false, false, false, false, false, false, false, false, false, false, false] rfl rfl (any_of HT_.out (by kernel_rfl)) (fun _ _ _ h => h) (Or.inl ⟨by rfl, ?_⟩) ?_ ?_
    rotate_left
    ·
     intro w'
     go_simp
     with_reducible rfl
    rotate_left
    ·
     simp only [Act.put, List.setIfInBounds_toArray, List.set_cons_zero, List.set_cons_succ, i64_w, i32_w]
     rfl
    refine pure_ (i := 2) (N := some 27) (v := ?_) (a' := ?_) #[true, true, true, false, false, false, false, false, false, false, false, false, false, false, false, false, false] rfl rfl (any_of HT_.out (by kernel_rfl)) (fun _ _ _ h => h) (Or.inl ⟨by rfl, ?_⟩) ?_ ?_
    rotate_left
    ·
     intro w'
     go_simp
     with_reducible rfl
    rotate_left
    ·
     simp only [Act.put, List.setIfInBounds_toArray, List.set_cons_zero, List.set_cons_succ, i64_w, i32_w]
     rfl
    refine pure_ (i := 3) (N := some 28) (v := ?_) (a' := ?_) #[true, true, true, true, false, false, false, false, false, false, false, false, false, false, false, false, false] rfl rfl (any_of HT_.out (by kernel_rfl)) (fun _ _ _ h => h) (Or.inl ⟨by rfl, ?_⟩) ?_ ?_
    rotate_left
    ·
     intro w'
     go_simp
     with_reducible rfl
    rotate_left
    ·
     simp only [Act.put, List.setIfInBounds_toArray, List.set_cons_zero, List.set_cons_succ, i64_w, i32_w]
     rfl
    refine take_ (i := 4) (N := some 29) (v := ?_) (a' := ?_) #[true, true, true, true, true, false, false, false, false, false, false, false, false, false, false, false, false] rfl rfl (take_ofW HT_.out HW_.out (by kernel_rfl)) (fun _ _ _ h => h) (Or.inl ⟨by rfl, ?_⟩) hHeld ?_ ?_
    rotate_left
    ·
     rintro w' ⟨s0, s1, s2⟩
     go_simp
     with_reducible rfl
    rotate_left
    ·
     simp only [Act.put, List.setIfInBounds_toArray, List.set_cons_zero, List.set_cons_succ, i64_w, i32_w]
     rfl
    refine pure_ (i := 5) (N := some 30) (v := ?_) (a' := ?_) #[true, true, true, true, true, true, false, false, false, false, false, false, false, false, false, false, false] rfl rfl (any_of HT_.out (by kernel_rfl)) (fun _ _ _ h => h) (Or.inl ⟨by rfl, ?_⟩) ?_ ?_
    rotate_left
    ·
     intro w'
     go_simp
     with_reducible rfl
    rotate_left
    ·
     simp only [Act.put, List.setIfInBounds_toArray, List.set_cons_zero, List.set_cons_succ, i64_w, i32_w]
     rfl
    refine pure_ (i := 6) (N := some 31) (v := ?_) (a' := ?_) #[true, true, true, true, true, true, true, false, false, false, false, false, false, false, false, false, false] rfl rfl (any_of HT_.out (by kernel_rfl)) (fun _ _ _ h => h) (Or.inl ⟨by rfl, ?_⟩) ?_ ?_
    rotate_left
    ·
     intro w'
     go_simp
     with_reducible rfl
    rotate_left
    ·
     simp only [Act.put, List.setIfInBounds_toArray, List.set_cons_zero, List.set_cons_succ, i64_w, i32_w]
     rfl
    refine pure_ (i := 8) (N := some 33) (v := ?_) (a' := ?_) #[true, true, true, true, true, true, true, false, true, false, false, false, false, false, false, false, false] rfl rfl (any_of HT_.out (by kernel_rfl)) (fun _ _ _ h => h) (Or.inl ⟨by rfl, ?_⟩) ?_ ?_
    rotate_left
    ·
     intro w'
     go_simp
     with_reducible rfl
    rotate_left
    ·
     simp only [Act.put, List.setIfInBounds_toArray, List.set_cons_zero, List.set_cons_succ, i64_w, i32_w]
     rfl
    refine pure_ (i := 9) (N := some 34) (v := ?_) (a' := ?_) #[true, true, true, true, true, true, true, false, true, true, false, false, false, false, false, false, false] rfl rfl (any_of HT_.out (by kernel_rfl)) (fun _ _ _ h => h) (Or.inl ⟨by rfl, ?_⟩) ?_ ?_
    rotate_left
    ·
     intro w'
     go_simp
     with_reducible rfl
    rotate_left
    ·
     simp only [Act.put, List.setIfInBounds_toArray, List.set_cons_zero, List.set_cons_succ, i64_w, i32_w]
     rfl
    refine pure_ (i := 10) (N := some 35) (v := ?_) (a' := ?_) #[true, true, true, true, true, true, true, false, true, true, true, false, false, false, false, false, false] rfl rfl (any_of HT_.out (by kernel_rfl)) (fun _ _ _ h => h) (Or.inl ⟨by rfl, ?_⟩) ?_ ?_
    rotate_left
    ·
     intro w'
     go_simp
     with_reducible rfl
    rotate_left
    ·
     simp only [Act.put, List.setIfInBounds_toArray, List.set_cons_zero, List.set_cons_succ, i64_w, i32_w]
     rfl
    refine take_ (i := 7) (N := some 32) (v := ?_) (a' := ?_) #[true, true, true, true, true, true, true, true, true, true, true, false, false, false, false, false, false] rfl rfl (take_ofW HT_.out HW_.out (by kernel_rfl)) (fun _ _ _ h => h) (Or.inl ⟨by rfl, ?_⟩) hHeld ?_ ?_
    rotate_left
    ·
     rintro w' ⟨s0, s1, s2⟩
     go_simp
     with_reducible rfl
    rotate_left
    ·
     simp only [Act.put, List.setIfInBounds_toArray, List.set_cons_zero, List.set_cons_succ, i64_w, i32_w]
     rfl
    refine take_ (i := 11) (N := some 36) (v := ?_) (a' := ?_) #[true, true, true, true, true, true, true, true, true, true, true, true, false, false, false, false, false] rfl rfl (take_ofW HT_.out HW_.out (by kernel_rfl)) (fun _ _ _ h => h) (Or.inl ⟨by rfl, ?_⟩) hHeld ?_ ?_
    rotate_left
    ·
     rintro w' ⟨s0, s1, s2⟩
     go_simp
     with_reducible rfl
    rotate_left
    ·
     simp only [Act.put, List.setIfInBounds_toArray, List.set_cons_zero, List.set_cons_succ, i64_w, i32_w]
     rfl
    refine pure_ (i := 12) (N := some 37) (v := ?_) (a' := ?_) #[true, true, true, true, true, true, true, true, true, true, true, true, true, false, false, false, false] rfl rfl (any_of HT_.out (by kernel_rfl)) (fun _ _ _ h => h) (Or.inl ⟨by rfl, ?_⟩) ?_ ?_
    rotate_left
    ·
     intro w'
     go_simp
     with_reducible rfl
    rotate_left
    ·
     simp only [Act.put, List.setIfInBounds_toArray, List.set_cons_zero, List.set_cons_succ, i64_w, i32_w]
     rfl
    refine one_ (i := 13) (N := some 38) #[true, true, true, true, true, true, true, true, true, true, true, true, true, true, false, false, false] rfl rfl (one_of HT_.out (by kernel_rfl)) (by decide) (fun K hK => ?_)
    refine goes_ Try.func34 (by kernel_rfl) rfl #[.int .i64 (wrap64 ((rd l1 x8_1) + (rd t0 x8_1)))] (by rfl) rfl rfl (by (try simp only [List.map_toArray, List.map_cons, List.map_nil]); first | done | rfl | (simp only [List.length_drop, List.length_take]; rfl)) ?_
    with_reducible refine (madrigalref10_keep.calls k1 (wrap64 ((rd l1 x8_1) + (rd t0 x8_1))) t285 _ A10.out).mono ?_
    rintro e w' ⟨rfl, ⟨nd, rfl⟩⟩
    refine ⟨_, rfl, ?_⟩
    refine hK.out _ _ ⟨((HB.out.cell (World.block_lt_of_cell? w _ hw283_0)).trans hw283_0), hHeld.2⟩ (fun hHeld => ?_)
    clear hK K
    refine norm_ (a' := ?_) ?_ ?_
    rotate_left
    ·
     show Act.put _ (some 38) _ = _
     simp only [Act.put, List.setIfInBounds_toArray, List.set_cons_zero, List.set_cons_succ, i64_w, i32_w]
     rfl
    refine last_ (i := 14) (N := some 39) #[true, true, true, true, true, true, true, true, true, true, true, true, true, true, true, false, false] rfl rfl (one_of HT_.out (by kernel_rfl)) (by decide) (fun K hK => ?_)
    refine value_ (w1 := ?_) (v := ?_) (by rfl) rfl ?_ ?_
    rotate_left 2
    ·
     go_simp
     constructor
     ·
      rfl
     ·
      rfl
    refine hK.out _ _ ?_
    clear hK K
    refine norm_ (a' := ?_) ?_ ?_
    rotate_left
    ·
     show Act.put _ (some 39) _ = _
     simp only [Act.put, List.setIfInBounds_toArray, List.set_cons_zero, List.set_cons_succ, i64_w, i32_w]
     rfl
    refine last_ (i := 15) (N := some 40) #[true, true, true, true, true, true, true, true, true, true, true, true, true, true, true, true, false] rfl rfl (one_of HT_.out (by kernel_rfl)) (by decide) (fun K hK => ?_)
    refine Kd.R_append_step (Kd.int .i64) (w0 := w) w.heap.size (by rfl) (.tmp 25) (.tmp 39) 23 2 (.int .i64 0) 8 rfl Try.underlying23 info2 rfl (by decide) (by omega) u7 x7_1 t285 [.int .i64 t285] (fun k_ => some k_ ≠ (.slice (some ad284) t0.length co13 : Value).ownBlock) (fun _ => False) rfl rfl ?aP (fun _ hk => hk.elim) ?aF ?aO ?aB ?aS ?aL ?_
    (case aP => exact rfl)
    (case aB => exact (by repeat (with_reducible first | exact HB.out | apply below_alloc | apply pw_below_drewN | apply below_drew1)))
    (case aF => exact (fun k_ hk => Kd.fresh' (Kd.R_lt (by (with_reducible repeat first | apply Kd.R_alloc | apply Kd.R_drewN | apply Kd.R_drew); exact HO_5.out)) k_ hk))
    (case aO => exact (by (with_reducible repeat first | apply Kd.R_alloc | apply Kd.R_drewN | apply Kd.R_drew); exact HO_7.out))
    (case aS => exact (below_size (by repeat (with_reducible first | exact HB.out | apply below_alloc | apply pw_below_drewN | apply below_drew1))))
    (case aL => have := LMc11.out; omega)
    intro v287 w14 ho hb hg hat
    rw [← Ny286.out] at ho
    have n0_ := Aside0.mk (Kd.R_after (ok := (fun _ => True)) (by (with_reducible repeat first | apply Kd.R_alloc | apply Kd.R_drewN | apply Kd.R_drew); exact Kd.R_mono HO_5.out (fun _ hk => ⟨trivial, hk⟩)) hg hat)
    have n1_ := Aside0.mk (hb)
    have n2_ := Aside0.mk (ho)
    clear HO_5; clear HB; clear HO_7
    have HO_5 := n0_
    have HB := n1_
    have HO288 := n2_
    clear n0_ n1_ n2_; clear ho hb hg hat
    refine hK.out _ _ ?_
    clear hK K
    refine norm_ (a' := ?_) ?_ ?_
    rotate_left
    ·
     show Act.put _ (some 40) _ = _
     simp only [Act.put, List.setIfInBounds_toArray, List.set_cons_zero, List.set_cons_succ, i64_w, i32_w]
     rfl
    refine pure_ (i := 16) (N := some 7) (v := ?_) (a' := ?_) #[true, true, true, true, true, true, true, true, true, true, true, true, true, true, true, true, true] rfl rfl (any_of HT_.out (by kernel_rfl)) (fun _ _ _ h => h) (Or.inl ⟨by rfl, ?_⟩) ?_ ?_
    rotate_left
    ·
     intro w'
     go_simp
     with_reducible rfl
    rotate_left
    ·
     simp only [Act.put, List.setIfInBounds_toArray, List.set_cons_zero, List.set_cons_succ, i64_w, i32_w]
     rfl
    refine done_ (done_of HT_.out (by kernel_rfl)) ?_
    try go_wp2
    go_roundg k1
    case measure => have := HK1.out; omega
    case rel => exact ⟨(y286), (wrap64 (x8_1 + 1)), (by first | rfl | (simp; done) | (simp [*]; done)), H', ⟨by have := HK1.out; omega⟩, ⟨by (with_reducible repeat first | apply Kd.R_alloc | apply Kd.R_drewN | apply Kd.R_drew); exact Kd.R_mono HO_5.out (fun _ hk => hk.2)⟩, ⟨by (with_reducible repeat first | apply Kd.R_alloc | apply Kd.R_drewN | apply Kd.R_drew); exact HO288.out⟩, ⟨by repeat (with_reducible first | exact HB.out | apply below_alloc | apply pw_below_drewN | apply below_drew1)⟩⟩
   ·
    rw [if_neg c6] at H; have c6b0 : decide (x8_1 < (l1.length : Int)) = false := decide_eq_false c6; clear c6
    obtain ⟨y289, hy289⟩ : ∃ y_ : List Int, y_ = (([] : List Int)) := ⟨_, rfl⟩
    replace H : (if 0 ≤ (l1.length : Int) then (if (l1.length : Int) ≤ (t0.length : Int) then (if y289.length + (t0.drop ((l1.length : Int) : Int).toNat).length < 17592186044416 then (some x7_1) else (none)) else (none)) else (none)) = some r := by first | (rw [hy289]; with_reducible exact H) | (have H2_ := (Option.bind_some _ _).symm.trans H; rw [hy289]; with_reducible exact H2_) | (have H2_ := (Option.bind_some _ _).symm.trans H; with_reducible exact H2_) | with_reducible exact H | (rw [hy289]; exact H) | exact H
    have Ny289 := Aside0.mk hy289; clear hy289
    by_cases c15 : 0 ≤ (l1.length : Int); rotate_left
    · rw [if_neg c15] at H; exact absurd H (by simp)
    rw [if_pos c15] at H; have c15b0 := eq_true c15; have c15b1 : decide (0 ≤ (l1.length : Int)) = true := decide_eq_true c15; clear c15
    by_cases c16 : (l1.length : Int) ≤ (t0.length : Int); rotate_left
    · rw [if_neg c16] at H; exact absurd H (by simp)
    rw [if_pos c16] at H; have c16b0 := eq_true c16; have c16b1 : decide ((l1.length : Int) ≤ (t0.length : Int)) = true := decide_eq_true c16; clear c16
    obtain ⟨y292, hy292⟩ : ∃ y_ : List Int, y_ = (t0.drop ((l1.length : Int) : Int).toNat) := ⟨_, rfl⟩
    replace H : (if y289.length + y292.length < 17592186044416 then (some x7_1) else (none)) = some r := by first | (rw [hy292]; with_reducible exact H) | (have H2_ := (Option.bind_some _ _).symm.trans H; rw [hy292]; with_reducible exact H2_) | (have H2_ := (Option.bind_some _ _).symm.trans H; with_reducible exact H2_) | with_reducible exact H | (rw [hy292]; exact H) | exact H
    have Ny292 := Aside0.mk hy292; clear hy292
    by_cases c17 : y289.length + y292.length < 17592186044416; rotate_left
    · rw [if_neg c17] at H; exact absurd H (by simp)
    rw [if_pos c17] at H; have LMc17 := Aside0.mk c17; clear c17
    obtain ⟨y296, hy296⟩ : ∃ y_ : List Int, y_ = (y289 ++ y292) := ⟨_, rfl⟩
    replace H : (some x7_1) = some r := by first | (rw [hy296]; with_reducible exact H) | (have H2_ := (Option.bind_some _ _).symm.trans H; rw [hy296]; with_reducible exact H2_) | (have H2_ := (Option.bind_some _ _).symm.trans H; with_reducible exact H2_) | with_reducible exact H | (rw [hy296]; exact H) | exact H
    have Ny296 := Aside0.mk hy296; clear hy296
    obtain rfl := Option.some.inj H
    go_wp2_with (first | ((with_reducible refine gate_dst (N := 42) rfl ?_); refine Kd.R_lit (Kd.int .i64) _ 2 ?hg (N := 42) ?hd (xs := ([] : List Int)) (inner := []) (ok := fun _ => True) (okp := fun _ => True) ?hr ?hp (fun _ hk => hk) trivial (Below.refl _ _) (Nat.le_refl _) (by simp) ?_; (case hd => rfl); (case hg => rfl); (case hr => first | (go_simp; done) | (go_simp; rfl)); (case hp => exact (Reps.none _ _)); intro v290 w18 ho19 hb hg_ hnew_; clear hg_ hnew_; (first | rw [← Ny289.out] at ho19 | (simp only [Int.reduceToNat] at ho19; rw [← Ny289.out] at ho19)); have n0_ := Aside0.mk (Kd.R_elder' (by (with_reducible repeat first | apply Kd.R_alloc | apply Kd.R_drewN | apply Kd.R_drew); exact HO_5.out) (Kd.R_base ho19) hb); have n1_ := Aside0.mk (Kd.R_elder' (by (with_reducible repeat first | apply Kd.R_alloc | apply Kd.R_drewN | apply Kd.R_drew); exact HO_7.out) (Kd.R_base ho19) hb); have n2_ := Aside0.mk (Kd.R_lower (Kd.R_new' (Kd.R_new' ho19 (Kd.R_lt (by (with_reducible repeat first | apply Kd.R_alloc | apply Kd.R_drewN | apply Kd.R_drew); exact HO_5.out))) (Kd.R_lt (by (with_reducible repeat first | apply Kd.R_alloc | apply Kd.R_drewN | apply Kd.R_drew); exact HO_7.out))) (below_size (by repeat (with_reducible first | exact HB.out | apply below_alloc | apply pw_below_drewN | apply below_drew1)))); have n3_ := Aside0.mk (below_step (by repeat (with_reducible first | exact HB.out | apply below_alloc | apply pw_below_drewN | apply below_drew1)) hb); clear HO_5; clear HO_7; clear HB; have HO_5 := n0_; have HO_7 := n1_; have HO291 := n2_; have HB := n3_; clear n0_ n1_ n2_ n3_; clear hb ho19; obtain ⟨Ao21, co21, eo21⟩ := Kd.R_slice HO_5.out; subst eo21; have q20 : ((l1.length : Int) : Int) ≤ ((t0.length : Int) : Int) := of_decide_eq_true (by first | (with_reducible assumption) | assumption); obtain ⟨i020, hi020, _, hsz20, _⟩ := info_parts info2; have hroom20 : t0.length ≤ co21 := (Kd.R_reads' HO_5.out).2.1; have hC20 : Kd.C (Kd.int .i64) _ Ao21 t0.length t0 := (Kd.R_reads' HO_5.out).2.2; have q020 : (0 : Int) ≤ ((l1.length : Int) : Int) := of_decide_eq_true (by first | (with_reducible assumption) | assumption); have hcut20 := cut_from (P := Try.prog) 23 2 .i64 Try.underlying23 hi020 1 hsz20 Ao21 t0.length co21 (l1.length : Int) q020 q20; have hr20 := Kd.C_drop (m := ((l1.length : Int) : Int).toNat) (c := co21) hC20 (by omega) hroom20; obtain ⟨A20, hA20⟩ : ∃ A1, A1 = (if co21 = ((l1.length : Int) : Int).toNat then Ao21 else (Ao21 : Option Addr).map (·.add (((l1.length : Int) : Int).toNat * 1))) := ⟨_, rfl⟩; obtain ⟨c20, hc20⟩ : ∃ c1, c1 = co21 - ((l1.length : Int) : Int).toNat := ⟨_, rfl⟩; have hy20 : y292.length = t0.length - ((l1.length : Int) : Int).toNat := (by rw [Ny292.out, List.length_drop] <;> omega); rw [show (t0).drop ((l1.length : Int) : Int).toNat = y292 from Ny292.out.symm] at hr20; replace hr20 : Kd.C (Kd.int .i64) _ A20 y292.length y292 := (by rw [hA20]; exact hr20); rw [← hy20, ← hA20, ← hc20] at hcut20; have HR295 := Aside0.mk hr20; have HC295 := Aside0.mk (show y292.length ≤ c20 from by rw [hy20, hc20]; exact Nat.sub_le_sub_right hroom20 _); clear hr20 hC20 hroom20 hi020 hsz20 hc20; have KY20 := Aside0.mk hy20; have KA20 := Aside0.mk hA20; clear hy20 hA20; have KL20 := Aside0.mk (show ((l1.length : Int) : Int).toNat ≤ t0.length from by omega); replace q20 := eq_true q20) | ((with_reducible refine gate_builtin (b := .append) (xs := #[.tmp 42, .tmp 45]) rfl ?_); at_builtin; refine Kd.R_append_rows (Kd.int .i64) (w0 := w) w.heap.size rfl (.tmp 42) (.tmp 45) 23 2 (.int .i64 0) 8 rfl Try.underlying23 info2 rfl (by decide) (by omega) v290 y289 y292 _ _ _ (fun k_ => some k_ ≠ (.slice Ao21 t0.length co21 : Value).ownBlock ∧ some k_ ≠ (u7 : Value).ownBlock) (fun _ => False) rfl rfl ?aO ?aR (fun _ _ h => h) (fun _ h => h.elim) ?aF ?aB ?aS ?aL ?_; (case aR => repeat (first | exact (by repeat (first | (with_reducible exact HR295.out) | (with_reducible refine Kd.C_alloc ?_ _) | (with_reducible refine Kd.C_drewN ?_ _) | (with_reducible refine Kd.C_drew ?_) | exact HR295.out)) | (with_reducible refine Kd.C_alloc ?_ _) | (with_reducible refine Kd.C_drewN ?_ _) | (with_reducible refine Kd.C_drew ?_))); (case aB => exact (by repeat (with_reducible first | exact HB.out | apply below_alloc | apply pw_below_drewN | apply below_drew1))); (case aF => exact (fun k_ hk => ⟨Kd.fresh' (Kd.R_lt (by (with_reducible repeat first | apply Kd.R_alloc | apply Kd.R_drewN | apply Kd.R_drew); exact HO_5.out)) k_ hk, Kd.fresh' (Kd.R_lt (by (with_reducible repeat first | apply Kd.R_alloc | apply Kd.R_drewN | apply Kd.R_drew); exact HO_7.out)) k_ hk⟩)); (case aO => exact (by (with_reducible repeat first | apply Kd.R_alloc | apply Kd.R_drewN | apply Kd.R_drew); exact Kd.R_mono HO291.out (fun _ hk => ⟨hk.1.2, hk.2⟩))); (case aS => exact (below_size (by repeat (with_reducible first | exact HB.out | apply below_alloc | apply pw_below_drewN | apply below_drew1)))); (case aL => have := LMc17.out; omega); intro v297 w22 ho hb hg hat; rw [← Ny296.out] at ho; have n0_ := Aside0.mk (Kd.R_after (ok := (fun k_ => some k_ ≠ (u7 : Value).ownBlock)) (by (with_reducible repeat first | apply Kd.R_alloc | apply Kd.R_drewN | apply Kd.R_drew); exact HO_5.out) hg hat); have n1_ := Aside0.mk (Kd.R_after (ok := (fun k_ => some k_ ≠ (.slice Ao21 t0.length co21 : Value).ownBlock)) (by (with_reducible repeat first | apply Kd.R_alloc | apply Kd.R_drewN | apply Kd.R_drew); exact HO_7.out) hg hat); have n2_ := Aside0.mk (hb); have n3_ := Aside0.mk ((show Kd.C (Kd.int .i64) w22 A20 y292.length y292 from by rw [Ny292.out, KA20.out]; exact Kd.C_drop (m := ((l1.length : Int) : Int).toNat) (c := co21) ((Kd.R_reads' (Kd.R_after (ok := (fun k_ => some k_ ≠ (u7 : Value).ownBlock)) (by (with_reducible repeat first | apply Kd.R_alloc | apply Kd.R_drewN | apply Kd.R_drew); exact HO_5.out) hg hat)).2.2) KL20.out ((Kd.R_reads' (Kd.R_after (ok := (fun k_ => some k_ ≠ (u7 : Value).ownBlock)) (by (with_reducible repeat first | apply Kd.R_alloc | apply Kd.R_drewN | apply Kd.R_drew); exact HO_5.out) hg hat)).2.1))); have n4_ := Aside0.mk (ho); clear HO_5; clear HO_7; clear HB; clear HR295; clear HO291; have HO_5 := n0_; have HO_7 := n1_; have HB := n2_; have HR295 := n3_; have HO298 := n4_; clear n0_ n1_ n2_ n3_ n4_; clear ho hb hg hat; obtain ⟨Ao30, co30, eo30⟩ := Kd.R_slice HO298.out; subst eo30; have hfe : w22.frozen? ⟨g, 1, none⟩ = false := (by simp [World.frozen?, HB.out.block g GB.out, GH.out]); have hs1e := (HB.out.cell GB.out).trans G1.out) | ((with_reducible refine gate_store (t := 23) (p := 48) rfl ?_); refine store_event (t := 23) (p := 48) (v := ?vo_z) (w1 := (w22.setCell ⟨g, 1, none⟩ (.slice Ao30 y296.length co30))) ?hg ?ho ?hn ?hr ?_; (case ho => rfl); (case hg => rfl); (case hn => rfl); (case hr => first | (go_simp; done) | (go_simp; rfl)); intro wz hw))
    go_ret
    have hbase := Kd.R_base HO298.out
    have hlt := GB.out
    have hy : y296 = t0.drop l1.length := by rw [Ny296.out, Ny289.out, Ny292.out, List.nil_append, Int.toNat_natCast]
    refine ⟨_, rfl, by (try rw [hw]); exact Kd.R_mono (Kd.R_far (p := ⟨g, 1, none⟩) (Kd.R_bound HO_7.out) (fun k_ hk => by have := hk.2.1; show k_ ≠ g; omega) _) (fun _ _ => trivial), ?_, by (try rw [hw]); exact keep_store1 HB.out⟩
    rw [← hy]
    (try rw [hw])
    refine WAt.store GG.out ((HB.out.block g hlt).trans GH.out) (Kd.R_reads' HO298.out).2.2 (Kd.R_reads' HO298.out).2.1 (fun ad had => ?_)
    subst had
    have h1 := hbase ad.block rfl
    have h2 := GG.out
    exact ⟨by omega, by omega⟩

/-! ### madrigalref10_NewJoiner: function 21 -/
set_option maxHeartbeats 8000000 in
set_option maxRecDepth 100000 in
theorem madrigalref10_NewJoiner.walk (a0 a1 : Int) (w : World) (hn : 0 ≤ a0 ∧ a0 ≤ 1000000) :
  Calls Try.prog 21 #[.int .i64 a0, .int .i64 a1] w fun e w' => ∃ g, e = .returned (.pointer (some ⟨g, 0, none⟩)) ∧ WAt w' w.heap.size g a1 (List.replicate a0.toNat 0) ∧ Below w.heap.size w w' := by
 have HB := Aside0.mk (Below.refl w.heap.size w)
 have p0 : 0 ≤ a0 := hn.1
 have hb0 : a0.toNat ≤ 1000000 := by omega
 replace p0 := eq_true p0
 go_enter Try.func21, Try.ntmps21
 go_wp2_with (first
  | ((with_reducible refine gate_dst (N := 7) rfl ?_); refine Kd.R_make (Kd.int .i64) _ 2 rfl (N := 7) rfl 23 _ _ rfl a0 rfl rfl Try.underlying23 (.int .i64 0) 8 info2 rfl (by decide) (by omega) 0 (ok := fun _ => True) (okp := fun _ => True) rfl (fun _ hk => hk) trivial (of_eq_true p0) (Nat.le_trans (Nat.mul_le_mul_right _ hb0) (by omega)) (Below.refl _ _) (Nat.le_refl _) ?_; intro v211 w11 ho12 hb hg_ hnew_; clear hg_ hnew_; obtain ⟨Ao13, co13, eo13⟩ := Kd.R_slice ho12; subst eo13; have HO := Aside0.mk ho12; clear ho12; have HB11 := Aside0.mk (below_step (by repeat (with_reducible first | exact HB.out | apply below_alloc | apply pw_below_drewN | apply below_drew1)) hb); clear hb))
 go_ret
 have hsz := HB11.out.size
 have hbase := Kd.R_base HO.out
 have hown := Kd.R_lt HO.out
 have hlen : (List.replicate a0.toNat (0 : Int)).length = a0.toNat := by simp
 refine ⟨w11.heap.size, rfl, ⟨hsz, Ao13, co13, ?_, Kd.C_alloc (Kd.R_reads' HO.out).2.2 _, (Kd.R_reads' HO.out).2.1, ?_⟩, below_alloc HB11.out _⟩
 · rw [hlen]; exact Array.getElem?_push_size
 · intro ad had
   subst had
   have h1 := hbase ad.block rfl
   have h2 := hown ad.block rfl
   exact ⟨h1, by omega⟩
end Go.Proofs.Ytnliianjljgcbaa.MA
