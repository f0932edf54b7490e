/- A sampler's run: the code comes to the plain function's answer, and keeps the last sixteen. No condition. -/
import Derived.Laws.Cover3
import Derived.Laws.Tables
import Derived.Laws.CopyOwn
import Derived.Deep.MidRow
import Derived.Test.YtocnpnpedmapbaaSam
namespace Go.Proofs.Ytocnpnpedmapbaa.MA
open Go.RowKit Go.Proofs.YtocnpnpedmapbaaW.PrintWords Go.Proofs.YtocnpnpedmapbaaW.PrintLast Go.Proofs.YtocnpnpedmapbaaW.PrintMore
attribute [local go_sem] max2_int min2_int max_two min_two max_three min_three max_four min_four
set_option linter.unusedVariables false
set_option linter.unusedSimpArgs false
theorem Keeps.of_below {w w' : World} {g : Nat} (h : Below w.heap.size w w') : Keeps w w' g := ⟨⟨h.size, fun i hi _ => h.block i hi⟩, h.os, h.tape, h.output⟩
def RunPost (g : Nat) (a0 a1 r2 : Int) (r3 : List Int) (w w' : World) : Prop := Keeps w w' g ∧ (r2 = 1 → Below w.heap.size w w') ∧ (r2 = 0 → SAt w' g a0 a1 (r3.drop (r3.length - 16)))
theorem SAt.row {w : World} {g : Nat} {a b : Int} {ks : List Int} (h : SAt w g a b ks) : Kd.C (Kd.int .i64) w (some ⟨g, 2, none⟩) 16 ks := by
 refine Kd.C_of_reads (d := (0 : Int)) (h1 := fun _ => rfl) (show ReadsInt w .i64 (some ⟨g, 2, none⟩) 16 ks from ⟨h.1, by decide, fun _ => ⟨_, rfl, fun j hj => ?_⟩⟩)
 have e : (⟨g, 2, none⟩ : Addr).add j = ⟨g, 2 + j, none⟩ := by unfold Addr.add; split <;> simp_all
 have hl := h.1
 rw [e]
 simp [World.cell?, h.2, cellsS, show 2 + j = (j + 1) + 1 by omega, List.getD_eq_getElem?_getD]
 rw [List.getElem?_eq_getElem (by omega)]; rfl
theorem R_keeps {e base g : Nat} {ok : Nat → Prop} {W W2 : World} {v : Value} {xs : List Int} (h : Kd.R (Kd.int .i64) e W base ok v xs) (hk : Keeps W W2 g) (hg : ∀ k, v.ownBlock = some k → k ≠ g) : Kd.R (Kd.int .i64) e W2 base (fun _ => True) v xs := by
 have h1 := Kd.R_bound h
 refine Kd.R_mono (Kd.R_move (Kd.R_bound (Kd.R_mono (ok' := fun k => k ≠ g) ?_ (fun _ hk => hk))) (fun k hk2 => hk.1.2 k hk2.2.2.1 hk2.1)) (fun _ _ => trivial)
 exact ⟨hg, h1.2.imp_ (fun _ _ hp => hp)⟩
/-- The cells of a row that is not empty. -/
theorem cells_of {w : World} {A : Option Addr} {n : Nat} {ys : List Int} (h : Kd.C (Kd.int .i64) w A n ys) (hn : 0 < n) : ∃ ad, A = some ad ∧ ∀ j v, (ys.map (Value.int .i64))[j]? = some v → w.cell? (ad.add j) = some v := by
 obtain ⟨ad, ea, _⟩ := Kd.at_int h 0 (by omega) (by omega)
 refine ⟨ad, ea, fun j v hj => ?_⟩
 rw [List.getElem?_map] at hj
 obtain ⟨y, hy, rfl⟩ := Option.map_eq_some_iff.1 hj
 have hjl : j < ys.length := (List.getElem?_eq_some_iff.1 hy).1
 have hnl := h.1
 obtain ⟨ad2, ea2, hc⟩ := Kd.at_int h (j : Int) (by omega) (by omega)
 rw [ea] at ea2
 cases ea2
 rw [Int.toNat_natCast] at hc
 rw [hc]
 have e : rd ys (j : Int) = y := by simp [rd, List.getD_eq_getElem?_getD, hy]
 rw [e]
theorem run_len {W : World} {base co : Nat} {ok : Nat → Prop} {A : Option Addr} {xs ys : List Int} {j : Int} (h : Kd.R (Kd.int .i64) 2 W base ok (.slice A xs.length co) xs) (hy : ys.length = xs.length - j.toNat) (hj : wrap64 ((xs.length : Int) - 16) = j) (h0 : 0 ≤ j) : ys.length = 16 := by
 have h1 := (Kd.R_reads' h).2.2.2.1
 have e : wrap64 ((xs.length : Int) - 16) = (xs.length : Int) - 16 := by unfold wrap64; omega
 rw [e] at hj
 omega
theorem run_drop {W : World} {base co : Nat} {ok : Nat → Prop} {A : Option Addr} {xs ys : List Int} {j : Int} (h : Kd.R (Kd.int .i64) 2 W base ok (.slice A xs.length co) xs) (hy : ys.length = xs.length - j.toNat) (hj : wrap64 ((xs.length : Int) - 16) = j) (h0 : 0 ≤ j) (hd : ys = xs.drop j.toNat) : ys = xs.drop (xs.length - 16) := by
 have h1 := (Kd.R_reads' h).2.2.2.1
 have e : wrap64 ((xs.length : Int) - 16) = (xs.length : Int) - 16 := by unfold wrap64; omega
 rw [e] at hj
 rw [hd, show j.toNat = xs.length - 16 by omega]
theorem cells_splice (a b : Int) (ks ys : List Int) (h : ks.length = 16) (hy : ys.length = 16) : ((cellsS a b ks).toList.take 2 ++ ys.map (Value.int .i64) ++ (cellsS a b ks).toList.drop (2 + (ys.map (Value.int .i64)).length)).toArray = cellsS a b ys := by
 simp [cellsS, hy, List.drop_eq_nil_of_le, h]
theorem run_copy_event {a : Act} {oi : Oper} {d s : Operand} {dT sT : TypeId} {x y : Value} {n : Nat} {w w1 : World} (hrun : (Builtin.copy_ #[dT, sT] oi.type #[x, y]).run Try.prog w = .ok (goInt n) w1)
  (ho : oi.op = .call { callee := .builtin .copy, args := #[d, s], argTypes := #[dT, sT] }) (hd : a.eval d = x) (hs : a.eval s = y) : (execOp a.eval oi).run Try.prog w = .ok (.value (goInt n)) w1 := by
 simp [execOp, ho, resolve, invoke, builtin, hd, hs, hrun, Result.andThen]
/-! ### resamp_Sampler_Run: function 10 -/
mutual
def resamp_Sampler_Run.j0 : Nat → Int → Int → List Int → List Int → Int → Int → List Int → Bool → Option (List Int × Int × List Int)
 | 0, _, _, _, _, _, _, _, _ => none
 | k + 1, x0, x1, x2, x3, x6, x7, x8, x41 => if x41 = true then (some (([] : List Int), 1, x8)) else ((some (([] : List Int) : List Int)).bind fun y162 => (if y162.length + x2.length < 17592186044416 then (resamp_Sampler_Run.l0 k x0 x1 x3 x6 x7 (y162 ++ x2) x3 (x3.length : Int) 0) else (none)))
def resamp_Sampler_Run.l0 : Nat → Int → Int → List Int → Int → Int → List Int → List Int → Int → Int → Option (List Int × Int × List Int)
 | 0, _, _, _, _, _, _, _, _, _ => none
 | k + 1, x0, x1, x3, x6, x7, x8, x48, x49, x50 => if x50 < x49 then (if 0 ≤ x50 then (if x50 < (x48.length : Int) then ((fix_Sat16.f k (rd x48 x50)).bind fun t169 => (if x8.length < 17592186044416 then (resamp_Sampler_Run.l0 k x0 x1 x3 x6 x7 (x8 ++ [t169]) x48 x49 (wrap64 (x50 + 1))) else (none))) else (none)) else (none)) else (if 0 ≤ x6 then (if (x6 : Int).toNat ≤ 11728124029610 then ((some (List.replicate (x6 : Int).toNat [] : List (List Int))).bind fun y173 => (resamp_Sampler_Run.l1 k x0 x1 x3 x6 x7 x8 y173 (y173.length : Int) 0)) else (none)) else (none))
def resamp_Sampler_Run.l1 : Nat → Int → Int → List Int → Int → Int → List Int → List (List Int) → Int → Int → Option (List Int × Int × List Int)
 | 0, _, _, _, _, _, _, _, _, _ => none
 | k + 1, x0, x1, x3, x6, x7, x8, x11, x63, x64 => if x64 < x63 then ((resamp_Filter.f k x0 x1 x64).bind fun t176 => (if 0 ≤ x64 then (if x64 < (x11.length : Int) then (resamp_Sampler_Run.l1 k x0 x1 x3 x6 x7 x8 (x11.set (x64 : Int).toNat t176) x63 (wrap64 (x64 + 1))) else (none)) else (none))) else (if x7 = 0 then (none) else (if 0 ≤ (wrap64 (Int.tdiv (wrap64 (x6 * (x3.length : Int))) x7)) then (if (wrap64 (Int.tdiv (wrap64 (x6 * (x3.length : Int))) x7) : Int).toNat ≤ 35184372088832 then ((some (List.replicate (wrap64 (Int.tdiv (wrap64 (x6 * (x3.length : Int))) x7) : Int).toNat 0 : List Int)).bind fun y180 => (resamp_Sampler_Run.l2 k x6 x7 x8 x11 y180 (y180.length : Int) 0)) else (none)) else (none)))
def resamp_Sampler_Run.l2 : Nat → Int → Int → List Int → List (List Int) → List Int → Int → Int → Option (List Int × Int × List Int)
 | 0, _, _, _, _, _, _, _ => none
 | k + 1, x6, x7, x8, x11, x13, x89, x90 => if x90 < x89 then (if x6 = 0 then (none) else (if 0 ≤ (Int.tmod (wrap64 (x90 * x7)) x6) then (if (Int.tmod (wrap64 (x90 * x7)) x6) < (x11.length : Int) then (resamp_Sampler_Run.l3 k x6 x7 x8 x11 x13 x90 (wrap64 (Int.tdiv (wrap64 (x90 * x7)) x6)) 16384 x89 x90 (rd_L1 x11 (Int.tmod (wrap64 (x90 * x7)) x6)) ((rd_L1 x11 (Int.tmod (wrap64 (x90 * x7)) x6)).length : Int) 0) else (none)) else (none))) else (if 0 ≤ (wrap64 ((x8.length : Int) - 16)) then (if (wrap64 ((x8.length : Int) - 16)) ≤ (x8.length : Int) then (some (x13, 0, x8)) else (none)) else (none))
def resamp_Sampler_Run.l3 : Nat → Int → Int → List Int → List (List Int) → List Int → Int → Int → Int → Int → Int → List Int → Int → Int → Option (List Int × Int × List Int)
 | 0, _, _, _, _, _, _, _, _, _, _, _, _, _ => none
 | k + 1, x6, x7, x8, x11, x13, x14, x15, x17, x89, x90, x106, x107, x108 => if x108 < x107 then (if 0 ≤ x108 then (if x108 < (x106.length : Int) then (if 0 ≤ (wrap64 ((wrap64 ((wrap64 (x15 + 8)) + x108)) - 7)) then (if (wrap64 ((wrap64 ((wrap64 (x15 + 8)) + x108)) - 7)) < (x8.length : Int) then (resamp_Sampler_Run.l3 k x6 x7 x8 x11 x13 x14 x15 (wrap64 (x17 + (wrap64 ((rd x106 x108) * (rd x8 (wrap64 ((wrap64 ((wrap64 (x15 + 8)) + x108)) - 7))))))) x89 x90 x106 x107 (wrap64 (x108 + 1))) else (none)) else (none)) else (none)) else (none)) else ((fix_Sat16.f k (x17 / 32768)).bind fun t191 => (if 0 ≤ x14 then (if x14 < (x13.length : Int) then (resamp_Sampler_Run.l2 k x6 x7 x8 x11 (x13.set (x14 : Int).toNat t191) x89 (wrap64 (x90 + 1))) else (none)) else (none)))
end
def resamp_Sampler_Run.f (k : Nat) (a0 : Int) (a1 : Int) (l2 : List Int) (l3 : List Int) : Option (List Int × Int × List Int) := (resamp_parts.f k a0 a1).bind fun bt160 => (if (l3.length : Int) > 4800 then (resamp_Sampler_Run.j0 k a0 a1 l2 l3 bt160.1 bt160.2 ([] : List Int) true) else (if bt160.2 = 0 then (none) else (resamp_Sampler_Run.j0 k a0 a1 l2 l3 bt160.1 bt160.2 ([] : List Int) (((l3.length : Int) % bt160.2) != 0))))
def resamp_Sampler_Run.T1 : Bool × List (List Nat × List Nat) := (true, [([], []), ([0], [0]), ([1], [1]), ([2], [2]), ([], []), ([4], [4]), ([5], [5]), ([6], [6]), ([3, 7], [3, 7]), ([8], [8]), ([9], [9]), ([9], [9]), ([10, 8, 0, 1, 2, 3, 4, 5, 6, 7, 8, 9, 10], [10]), ([11, 12, 0, 1, 2, 3, 4, 5, 6, 7, 8, 9, 10, 11, 12], [11])])
def resamp_Sampler_Run.B1 : List Nat := [0, 1, 3, 7, 0, 16, 48, 112, 255, 511, 1023, 1023, 2047, 8191]
theorem resamp_Sampler_Run.tab1 : rtab .any (opsOf Try.f10 1) = resamp_Sampler_Run.T1 := by kernel_rfl
theorem resamp_Sampler_Run.bits1 : waitsOk resamp_Sampler_Run.T1.2 resamp_Sampler_Run.B1 = true := by kernel_rfl
def resamp_Sampler_Run.T14 : Bool × List (List Nat × List Nat) := (true, [([], []), ([], []), ([], []), ([2], [2]), ([3], [3]), ([4], [4]), ([], []), ([6], [6]), ([7], [7]), ([8], [8]), ([], []), ([5, 9, 10], [5, 9, 10]), ([0, 1, 0, 1, 2, 3, 4, 5, 6, 7, 8, 9, 10, 11], [0, 1]), ([12, 11, 11, 0, 1, 2, 3, 4, 5, 6, 7, 8, 9, 10, 11], [11, 12])])
def resamp_Sampler_Run.B14 : List Nat := [0, 0, 0, 4, 12, 28, 0, 64, 192, 448, 0, 2044, 4095, 8191]
theorem resamp_Sampler_Run.tab14 : rtab .any (opsOf Try.f10 14) = resamp_Sampler_Run.T14 := by kernel_rfl
theorem resamp_Sampler_Run.bits14 : waitsOk resamp_Sampler_Run.T14.2 resamp_Sampler_Run.B14 = true := by kernel_rfl
def resamp_Sampler_Run.T20 : Bool × List (List Nat × List Nat) := (true, [([], []), ([], []), ([0, 1], [0, 1]), ([], []), ([2, 3], [2, 3]), ([], []), ([], []), ([5, 6], [5, 6]), ([], []), ([7, 8], [7, 8]), ([4, 0, 1, 2, 3, 4], [4]), ([9, 10, 0, 1, 2, 3, 4, 5, 6, 7, 8, 9, 10], [9])])
def resamp_Sampler_Run.B20 : List Nat := [0, 0, 3, 0, 15, 0, 0, 96, 0, 480, 31, 2047]
theorem resamp_Sampler_Run.tab20 : rtab .any (opsOf Try.f10 20) = resamp_Sampler_Run.T20 := by kernel_rfl
theorem resamp_Sampler_Run.bits20 : waitsOk resamp_Sampler_Run.T20.2 resamp_Sampler_Run.B20 = true := by kernel_rfl
def resamp_Sampler_Run.T29 : Bool × List (List Nat × List Nat) := (true, [([], []), ([0], [0]), ([1], [1]), ([2], [2]), ([], []), ([], []), ([5], [5]), ([6], [6]), ([4, 7], [4, 7]), ([3, 8], [3, 8])])
def resamp_Sampler_Run.B29 : List Nat := [0, 1, 3, 7, 0, 0, 32, 96, 240, 511]
theorem resamp_Sampler_Run.tab29 : rtab .any (opsOf Try.f10 29) = resamp_Sampler_Run.T29 := by kernel_rfl
theorem resamp_Sampler_Run.bits29 : waitsOk resamp_Sampler_Run.T29.2 resamp_Sampler_Run.B29 = true := by kernel_rfl
set_option maxHeartbeats 8000000 in
set_option maxRecDepth 100000 in
theorem resamp_Sampler_Run.walk (k : Nat) (a0 : Int) (a1 : Int) (g : Nat) (l2 : List Int) (A3 : Option Addr) (c3 : Nat) (l3 : List Int) (r1 : List Int) (r2 : Int) (r3 : List Int) (w : World) (hS : SAt w g a0 a1 l2) (hr3 : Kd.C (Kd.int .i64) w A3 l3.length l3) (hc3 : l3.length ≤ c3) (h : resamp_Sampler_Run.f k a0 a1 l2 l3 = some (r1, r2, r3)) :
  Calls Try.prog 10 #[.pointer (some ⟨g, 0, none⟩), .slice A3 l3.length c3] w fun e w' => ∃ v0_ : Value, e = .returned (.tuple #[v0_, .int .i64 r2]) ∧ Kd.R (Kd.int .i64) 2 w' w.heap.size (fun _ => True) v0_ r1 ∧ RunPost g a0 a1 r2 r3 w w' := by
 have hl2 := hS.1
 have hr2 := hS.row
 have hc2 : 16 ≤ 16 := Nat.le_refl _
 have hlt : g < w.heap.size := hS.lt
 have hs0 : w.cell? ⟨g, 0, none⟩ = some (.int .i64 a0) := by simp [World.cell?, hS.2, cellsS]
 have hs1 : w.cell? ⟨g, 1, none⟩ = some (.int .i64 a1) := by simp [World.cell?, hS.2, cellsS]
 have GB := Aside0.mk hlt; have G0 := Aside0.mk hs0; have G1 := Aside0.mk hs1; have GH := Aside0.mk hS; have HL2 := Aside0.mk hl2; clear hS hlt hs0 hs1 hl2
 have HR2 := Aside0.mk hr2; have HC2 := Aside0.mk hc2; clear hr2 hc2; have HR3 := Aside0.mk hr3; have HC3 := Aside0.mk hc3; clear hr3 hc3
 have HB := Aside0.mk (Below.refl w.heap.size w)
 have H : ((resamp_parts.f k a0 a1).bind fun bt160 => (if (l3.length : Int) > 4800 then (resamp_Sampler_Run.j0 k a0 a1 l2 l3 bt160.1 bt160.2 ([] : List Int) true) else (if bt160.2 = 0 then (none) else (resamp_Sampler_Run.j0 k a0 a1 l2 l3 bt160.1 bt160.2 ([] : List Int) (((l3.length : Int) % bt160.2) != 0))))) = some (r1, r2, r3) := h
 clear h; replace H := Option.bind_eq_some_iff.mp H; obtain ⟨⟨t160, t161⟩, A50, H⟩ := H
 replace H : (if (l3.length : Int) > 4800 then (resamp_Sampler_Run.j0 k a0 a1 l2 l3 t160 t161 ([] : List Int) true) else (if t161 = 0 then (none) else (resamp_Sampler_Run.j0 k a0 a1 l2 l3 t160 t161 ([] : List Int) (((l3.length : Int) % t161) != 0)))) = some (r1, r2, r3) := H
 have A5 := Aside0.mk A50; clear A50; have HC6 := Aside0.mk H; clear H
 go_enter Try.func10, Try.ntmps10
 try go_wp2
 have n0_ := Aside0.mk (below_drew1 HB.out)
 clear HB
 have HB := n0_
 clear n0_
 refine start_ (n := 14) (S := fun w' => w'.cell? ⟨g, 0, none⟩ = some (.int .i64 a0) ∧ w'.cell? ⟨g, 1, none⟩ = some (.int .i64 a1)) (ds := []) #[false, false, false, false, false, false, false, false, false, false, false, false, false, false] (by kernel_rfl) rfl rfl ⟨(HB.out.cell GB.out).trans G0.out, (HB.out.cell GB.out).trans G1.out⟩ (fun hHeld => ?_); refine with_tabW resamp_Sampler_Run.tab1 resamp_Sampler_Run.bits1 (fun HT_ HW_ => ?_)
 generalize w.drew = w7 at HB hHeld ⊢
 refine pure_ (i := 0) (N := some 21) (v := ?_) (a' := ?_) #[true, false, false, false, false, false, false, false, false, false, false, false, false, false] rfl rfl (any_of HT_.out (by kernel_rfl)) (fun _ _ _ h => h) (Or.inl ⟨by rfl, ?_⟩) ?_ ?_
 rotate_left
 ·
  intro w'
  go_simp
  with_reducible rfl
 rotate_left
 ·
  simp only [Act.put, List.setIfInBounds_toArray, List.set_cons_zero, List.set_cons_succ, i64_w, i32_w]
  rfl
 refine pure_ (i := 1) (N := some 22) (v := ?_) (a' := ?_) #[true, true, false, false, false, false, false, false, false, false, false, false, false, false] rfl rfl (any_of HT_.out (by kernel_rfl)) (fun _ _ _ h => h) (Or.inl ⟨by rfl, ?_⟩) ?_ ?_
 rotate_left
 ·
  intro w'
  go_simp
  with_reducible rfl
 rotate_left
 ·
  simp only [Act.put, List.setIfInBounds_toArray, List.set_cons_zero, List.set_cons_succ, i64_w, i32_w]
  rfl
 refine pure_ (i := 2) (N := some 23) (v := ?_) (a' := ?_) #[true, true, true, false, false, false, false, false, false, false, false, false, false, false] rfl rfl (any_of HT_.out (by kernel_rfl)) (fun _ _ _ h => h) (Or.inl ⟨by rfl, ?_⟩) ?_ ?_
 rotate_left
 ·
  intro w'
  go_simp
  with_reducible rfl
 rotate_left
 ·
  simp only [Act.put, List.setIfInBounds_toArray, List.set_cons_zero, List.set_cons_succ, i64_w, i32_w]
  rfl
 refine take_ (i := 3) (N := some 24) (v := ?_) (a' := ?_) #[true, true, true, true, false, false, false, false, false, false, false, false, false, false] rfl rfl (take_ofW HT_.out HW_.out (by kernel_rfl)) (fun _ _ _ h => h) (Or.inl ⟨by rfl, ?_⟩) hHeld ?_ ?_
 rotate_left
 ·
  rintro w' ⟨s0, s1⟩
  go_simp
  with_reducible rfl
 rotate_left
 ·
  simp only [Act.put, List.setIfInBounds_toArray, List.set_cons_zero, List.set_cons_succ, i64_w, i32_w]
  rfl
 refine pure_ (i := 4) (N := some 25) (v := ?_) (a' := ?_) #[true, true, true, true, true, false, false, false, false, false, false, false, false, false] rfl rfl (any_of HT_.out (by kernel_rfl)) (fun _ _ _ h => h) (Or.inl ⟨by rfl, ?_⟩) ?_ ?_
 rotate_left
 ·
  intro w'
  go_simp
  with_reducible rfl
 rotate_left
 ·
  simp only [Act.put, List.setIfInBounds_toArray, List.set_cons_zero, List.set_cons_succ, i64_w, i32_w]
  rfl
 refine pure_ (i := 5) (N := some 26) (v := ?_) (a' := ?_) #[true, true, true, true, true, true, false, false, false, false, false, false, false, false] rfl rfl (any_of HT_.out (by kernel_rfl)) (fun _ _ _ h => h) (Or.inl ⟨by rfl, ?_⟩) ?_ ?_
 rotate_left
 ·
  intro w'
  go_simp
  with_reducible rfl
 rotate_left
 ·
  simp only [Act.put, List.setIfInBounds_toArray, List.set_cons_zero, List.set_cons_succ, i64_w, i32_w]
  rfl
 refine pure_ (i := 6) (N := some 27) (v := ?_) (a' := ?_) #[true, true, true, true, true, true, true, false, false, false, false, false, false, false] rfl rfl (any_of HT_.out (by kernel_rfl)) (fun _ _ _ h => h) (Or.inl ⟨by rfl, ?_⟩) ?_ ?_
 rotate_left
 ·
  intro w'
  go_simp
  with_reducible rfl
 rotate_left
 ·
  simp only [Act.put, List.setIfInBounds_toArray, List.set_cons_zero, List.set_cons_succ, i64_w, i32_w]
  rfl
 refine take_ (i := 7) (N := some 28) (v := ?_) (a' := ?_) #[true, true, true, true, true, true, true, true, false, false, false, false, false, false] rfl rfl (take_ofW HT_.out HW_.out (by kernel_rfl)) (fun _ _ _ h => h) (Or.inl ⟨by rfl, ?_⟩) hHeld ?_ ?_
 rotate_left
 ·
  rintro w' ⟨s0, s1⟩
  go_simp
  with_reducible rfl
 rotate_left
 ·
  simp only [Act.put, List.setIfInBounds_toArray, List.set_cons_zero, List.set_cons_succ, i64_w, i32_w]
  rfl
 refine one_ (i := 8) (N := some 29) #[true, true, true, true, true, true, true, true, true, false, false, false, false, false] rfl rfl (one_of HT_.out (by kernel_rfl)) (by decide) (fun K hK => ?_)
 refine goes_ Try.func22 (by kernel_rfl) rfl #[.int .i64 a0, .int .i64 a1] (by rfl) rfl rfl (by (try simp only [List.map_toArray, List.map_cons, List.map_nil]); first | done | rfl | (simp only [List.length_drop, List.length_take]; rfl)) ?_
 with_reducible refine (resamp_parts.calls k a0 a1 t160 t161 _ A5.out).mono ?_
 rintro e w' ⟨rfl, ⟨nd, rfl⟩⟩
 refine ⟨_, rfl, ?_⟩
 refine hK.out _ _ hHeld (fun hHeld => ?_)
 clear hK K
 refine norm_ (a' := ?_) ?_ ?_
 rotate_left
 ·
  show Act.put _ (some 29) _ = _
  simp only [Act.put, List.setIfInBounds_toArray, List.set_cons_zero, List.set_cons_succ, i64_w, i32_w]
  rfl
 refine pure_ (i := 9) (N := some 20) (v := ?_) (a' := ?_) #[true, true, true, true, true, true, true, true, true, true, false, false, false, false] rfl rfl (any_of HT_.out (by kernel_rfl)) (fun _ _ _ h => h) (Or.inl ⟨by rfl, ?_⟩) ?_ ?_
 rotate_left
 ·
  intro w'
  go_simp
  with_reducible rfl
 rotate_left
 ·
  simp only [Act.put, List.setIfInBounds_toArray, List.set_cons_zero, List.set_cons_succ, i64_w, i32_w]
  rfl
 refine pure_ (i := 10) (N := some 30) (v := ?_) (a' := ?_) #[true, true, true, true, true, true, true, true, true, true, true, false, false, false] rfl rfl (any_of HT_.out (by kernel_rfl)) (fun _ _ _ h => h) (Or.inl ⟨by rfl, ?_⟩) ?_ ?_
 rotate_left
 ·
  intro w'
  go_simp
  with_reducible rfl
 rotate_left
 ·
  simp only [Act.put, List.setIfInBounds_toArray, List.set_cons_zero, List.set_cons_succ, i64_w, i32_w]
  rfl
 refine pure_ (i := 11) (N := some 31) (v := ?_) (a' := ?_) #[true, true, true, true, true, true, true, true, true, true, true, true, false, false] rfl rfl (any_of HT_.out (by kernel_rfl)) (fun _ _ _ h => h) (Or.inl ⟨by rfl, ?_⟩) ?_ ?_
 rotate_left
 ·
  intro w'
  go_simp
  with_reducible rfl
 rotate_left
 ·
  simp only [Act.put, List.setIfInBounds_toArray, List.set_cons_zero, List.set_cons_succ, i64_w, i32_w]
  rfl
 refine pure_ (i := 12) (N := some 6) (v := ?_) (a' := ?_) #[true, true, true, true, true, true, true, true, true, true, true, true, true, false] rfl rfl (any_of HT_.out (by kernel_rfl)) (fun _ _ _ h => h) (Or.inl ⟨by rfl, ?_⟩) ?_ ?_
 rotate_left
 ·
  intro w'
  go_simp
  with_reducible rfl
 rotate_left
 ·
  simp only [Act.put, List.setIfInBounds_toArray, List.set_cons_zero, List.set_cons_succ, i64_w, i32_w]
  rfl
 refine pure_ (i := 13) (N := some 7) (v := ?_) (a' := ?_) #[true, true, true, true, true, true, true, true, true, true, true, true, true, true] rfl rfl (any_of HT_.out (by kernel_rfl)) (fun _ _ _ h => h) (Or.inl ⟨by rfl, ?_⟩) ?_ ?_
 rotate_left
 ·
  intro w'
  go_simp
  with_reducible rfl
 rotate_left
 ·
  simp only [Act.put, List.setIfInBounds_toArray, List.set_cons_zero, List.set_cons_succ, i64_w, i32_w]
  rfl
 refine done_ (done_of HT_.out (by kernel_rfl)) ?_
 go_upto_region 2 with (fail)
 go_cut [41] (fun v41 wc => ∃ (kq : Nat) (x41_5 : Bool), v41 = .bool x41_5 ∧ Aside0 (resamp_Sampler_Run.j0 kq a0 a1 l2 l3 t160 t161 ([] : List Int) x41_5 = some (r1, r2, r3)) ∧ Aside0 (kq ≤ k) ∧ Aside0 (Kd.R (Kd.int .i64) 2 wc w.heap.size (fun _ => True) (.slice none 0 0) ([] : List Int)) ∧ Aside0 (Below w.heap.size w wc))
 case first =>
  have H := HC6.out; clear HC6
  by_cases c8 : (l3.length : Int) > 4800
  ·
   rw [if_pos c8] at H; have c8b0 : decide (4800 < (l3.length : Int)) = true := decide_eq_true c8; have c8b1 : decide (4800 < l3.length) = true := decide_eq_true (by omega); clear c8
   (first | rw [c8b0] | (simp only [i64_w, i32_w]; rw [c8b0]) | skip)
   have H' := Aside0.mk H; clear H
   go_wp2
   go_meet
   case rel => exact ⟨_, (true), (by first | rfl | (simp; done) | (simp [*]; done)), H', ⟨by first | omega | exact Nat.le_refl _⟩, ⟨by first | exact Kd.R_nil _ _ _ _ _ | exact Kd.N_nil _ _ _ _ _ | exact Kd.V_nil _ _ _ _ _ | exact Kd.Q_nil _ _ _ _ _ | exact Kd.S_nil _ _ _ _ _⟩, ⟨by repeat (with_reducible first | exact HB.out | apply below_alloc | apply pw_below_drewN | apply below_drew1)⟩⟩
  ·
   rw [if_neg c8] at H; have c8b0 : decide (4800 < (l3.length : Int)) = false := decide_eq_false c8; have c8b1 : decide (4800 < l3.length) = false := decide_eq_false (by omega); clear c8
   (first | rw [c8b0] | (simp only [i64_w, i32_w]; rw [c8b0]) | skip)
   by_cases c9 : t161 = 0
   ·
    rw [if_pos c9] at H; exact absurd H (by simp)
   ·
    rw [if_neg c9] at H; have c9b0 : (t161 == 0) = false := beq_eq_false_iff_ne.mpr c9; have c9b1 : (t161 != 0) = true := bne_iff_ne.mpr c9; have H' := Aside0.mk H; clear H
    go_wp2
    go_meet
    case rel => exact ⟨_, ((((l3.length : Int) % t161) != 0)), (by first | rfl | (simp; done) | (simp [*]; done)), H', ⟨by first | omega | exact Nat.le_refl _⟩, ⟨by first | exact Kd.R_nil _ _ _ _ _ | exact Kd.N_nil _ _ _ _ _ | exact Kd.V_nil _ _ _ _ _ | exact Kd.Q_nil _ _ _ _ _ | exact Kd.S_nil _ _ _ _ _⟩, ⟨by repeat (with_reducible first | exact HB.out | apply below_alloc | apply pw_below_drewN | apply below_drew1)⟩⟩
 case rest =>
  clear HC6; (try clear c1); (try clear c2); (try clear p2); (try clear c3); (try clear c8); (try clear c8b0); (try clear c8b0z0); (try clear c8b1); (try clear c8b1z0); (try clear c9); (try clear c9b0); (try clear c9b0z0); (try clear c9b1); (try clear c9b1z0)
  obtain ⟨kq, x41_5, rfl, HA, HJ5, HO_8, HB⟩ := hcut
  cases kq with
  | zero => exact absurd HA.out (by simp [resamp_Sampler_Run.j0])
  | succ kj5 =>
   have H := HA.out; clear HA
   simp only [resamp_Sampler_Run.j0] at H
   by_cases c10 : x41_5 = true
   ·
    subst c10
    have H1 : (some (([] : List Int), 1, ([] : List Int))) = some (r1, r2, r3) := by rw [if_pos rfl] at H; exact H
    clear H; have H := H1; clear H1
    simp only [Option.some.injEq, Prod.mk.injEq] at H
    obtain ⟨rfl, rfl, rfl⟩ := H
    go_wp2
    go_ret2
    exact ⟨_, rfl, by first | exact Kd.R_nil _ _ _ _ _, ⟨Keeps.of_below (by repeat (with_reducible first | exact HB.out | apply below_alloc | apply pw_below_drewN | apply below_drew1)), fun _ => (by repeat (with_reducible first | exact HB.out | apply below_alloc | apply pw_below_drewN | apply below_drew1)), fun h_ => absurd h_ (by decide)⟩⟩
   ·
    replace c10 := Bool.eq_false_iff.mpr c10
    subst c10
    have H1 : ((some (([] : List Int) : List Int)).bind fun y162 => (if y162.length + l2.length < 17592186044416 then (resamp_Sampler_Run.l0 kj5 a0 a1 l3 t160 t161 (y162 ++ l2) l3 (l3.length : Int) 0) else (none))) = some (r1, r2, r3) := by rw [if_neg (show ¬ (false = true) by decide)] at H; exact H
    clear H; have H := H1; clear H1
    obtain ⟨y162, hy162⟩ : ∃ y_ : List Int, y_ = (([] : List Int)) := ⟨_, rfl⟩
    replace H : (if y162.length + l2.length < 17592186044416 then (resamp_Sampler_Run.l0 kj5 a0 a1 l3 t160 t161 (y162 ++ l2) l3 (l3.length : Int) 0) else (none)) = some (r1, r2, r3) := by first | (rw [hy162]; with_reducible exact H) | (have H2_ := (Option.bind_some _ _).symm.trans H; rw [hy162]; with_reducible exact H2_) | (have H2_ := (Option.bind_some _ _).symm.trans H; with_reducible exact H2_) | with_reducible exact H | (rw [hy162]; exact H) | exact H
    have Ny162 := Aside0.mk hy162; clear hy162
    by_cases c11 : y162.length + l2.length < 17592186044416; rotate_left
    · rw [if_neg c11] at H; exact absurd H (by simp)
    rw [if_pos c11] at H; have LMc11 := Aside0.mk c11; clear c11
    obtain ⟨y165, hy165⟩ : ∃ y_ : List Int, y_ = (y162 ++ l2) := ⟨_, rfl⟩
    replace H : (resamp_Sampler_Run.l0 kj5 a0 a1 l3 t160 t161 y165 l3 (l3.length : Int) 0) = some (r1, r2, r3) := by first | (rw [hy165]; with_reducible exact H) | (have H2_ := (Option.bind_some _ _).symm.trans H; rw [hy165]; with_reducible exact H2_) | (have H2_ := (Option.bind_some _ _).symm.trans H; with_reducible exact H2_) | with_reducible exact H | (rw [hy165]; exact H) | exact H
    have Ny165 := Aside0.mk hy165; clear hy165; have H' := Aside0.mk H; clear H
    go_wp2_with (first | ((with_reducible refine gate_dst (N := 42) rfl ?_); (try (refine gate_guard (by rfl) ?_; dsimp only)); refine Kd.R_lit (Kd.int .i64) _ 2 ?hg (N := 42) ?hd (xs := ([] : List Int)) (inner := []) (ok := fun _ => True) (okp := fun _ => True) ?hr ?hp (fun _ hk => hk) trivial (Below.refl _ _) (Nat.le_refl _) (by simp) ?_; (case hd => rfl); (case hg => rfl); (case hr => first | (go_simp; done) | (go_simp; rfl)); (case hp => exact (Reps.none _ _)); intro v163 w12 ho13 hb hg_ hnew_; clear hg_ hnew_; (first | rw [← Ny162.out] at ho13 | (simp only [Int.reduceToNat] at ho13; rw [← Ny162.out] at ho13)); have n0_ := Aside0.mk (Kd.R_elder' (by (with_reducible repeat first | apply Kd.R_alloc | apply Kd.R_drewN | apply Kd.R_drew); exact HO_8.out) (Kd.R_base ho13) hb); have n1_ := Aside0.mk (Kd.R_lower (Kd.R_new' ho13 (Kd.R_lt (by (with_reducible repeat first | apply Kd.R_alloc | apply Kd.R_drewN | apply Kd.R_drew); exact HO_8.out))) (below_size (by repeat (with_reducible first | exact HB.out | apply below_alloc | apply pw_below_drewN | apply below_drew1)))); have n2_ := Aside0.mk (below_step (by repeat (with_reducible first | exact HB.out | apply below_alloc | apply pw_below_drewN | apply below_drew1)) hb); clear HO_8; clear HB; have HO_8 := n0_; have HO164 := n1_; have HB := n2_; clear n0_ n1_ n2_; clear hb ho13) | ((with_reducible refine gate_builtin (b := .append) (xs := #[.tmp 42, .tmp 46]) rfl ?_); (try (refine gate_guard (by rfl) ?_; dsimp only)); at_builtin; refine Kd.R_append_rows (Kd.int .i64) (w0 := w) w.heap.size rfl (.tmp 42) (.tmp 46) 27 2 (.int .i64 0) 8 rfl Try.underlying27 info2 rfl (by decide) (by omega) v163 y162 l2 _ _ _ (fun k_ => some k_ ≠ (.slice none 0 0 : Value).ownBlock) (fun _ => False) rfl rfl ?aO ?aR (fun _ _ h => h) (fun _ h => h.elim) ?aF ?aB ?aS ?aL ?_; (case aR => repeat (first | exact (Kd.C_below HR2.out HB.out) | (with_reducible refine Kd.C_alloc ?_ _) | (with_reducible refine Kd.C_drewN ?_ _) | (with_reducible refine Kd.C_drew ?_))); (case aB => exact (by repeat (with_reducible first | exact HB.out | apply below_alloc | apply pw_below_drewN | apply below_drew1))); (case aF => exact (fun k_ hk => Kd.fresh' (Kd.R_lt (by (with_reducible repeat first | apply Kd.R_alloc | apply Kd.R_drewN | apply Kd.R_drew); exact HO_8.out)) k_ hk)); (case aO => exact (by (with_reducible repeat first | apply Kd.R_alloc | apply Kd.R_drewN | apply Kd.R_drew); exact Kd.R_mono HO164.out (fun _ hk => hk.2))); (case aS => exact (below_size (by repeat (with_reducible first | exact HB.out | apply below_alloc | apply pw_below_drewN | apply below_drew1)))); (case aL => have := LMc11.out; have := HL2.out; omega); intro v166 w14 ho hb hg hat; rw [← Ny165.out] at ho; have n0_ := Aside0.mk (Kd.R_after (ok := (fun _ => True)) (by (with_reducible repeat first | apply Kd.R_alloc | apply Kd.R_drewN | apply Kd.R_drew); exact HO_8.out) hg hat); have n1_ := Aside0.mk (hb); have n2_ := Aside0.mk (ho); clear HO_8; clear HB; clear HO164; have HO_8 := n0_; have HB := n1_; have HO167 := n2_; clear n0_ n1_ n2_; clear ho hb hg hat))
    go_loopg [8, 50] kj5 (fun kq v8 v50 w' => ∃ (x8_2 : List Int) (x50_2 : Int), v50 = .int .i64 x50_2 ∧ Aside0 (resamp_Sampler_Run.l0 kq a0 a1 l3 t160 t161 x8_2 l3 (l3.length : Int) x50_2 = some (r1, r2, r3)) ∧ Aside0 (kq ≤ kj5) ∧ Aside0 (Kd.R (Kd.int .i64) 2 w' w.heap.size (fun _ => True) v8 x8_2) ∧ Aside0 (Below w.heap.size w w'))
    case atStart => exact ⟨(y165), (0), (by first | rfl | (simp; done) | (simp [*]; done)), H', ⟨Nat.le_refl _⟩, ⟨by (with_reducible repeat first | apply Kd.R_alloc | apply Kd.R_drewN | apply Kd.R_drew); exact Kd.R_mono HO167.out (fun _ hk => trivial)⟩, ⟨by repeat (with_reducible first | exact HB.out | apply below_alloc | apply pw_below_drewN | apply below_drew1)⟩⟩
    case round =>
     clear H'
     (try clear c1); (try clear c2); (try clear p2); (try clear c3); (try clear c8); (try clear c8b0); (try clear c8b0z0); (try clear c8b1); (try clear c8b1z0); (try clear c9); (try clear c9b0); (try clear c9b0z0); (try clear c9b1); (try clear c9b1z0); (try clear c10); (try clear c11); (try clear p2)
     obtain ⟨x8_2, x50_2, rfl, HA, HK2, HO_8, HB⟩ := hrel
     cases gk with
     | zero => exact absurd HA.out (by simp [resamp_Sampler_Run.l0])
     | succ k2 =>
      have H := HA.out; clear HA
      simp only [resamp_Sampler_Run.l0] at H
      by_cases c15 : x50_2 < (l3.length : Int)
      ·
       rw [if_pos c15] at H; have c15b0 : decide (x50_2 < (l3.length : Int)) = true := decide_eq_true c15; clear c15
       by_cases c16 : 0 ≤ x50_2; rotate_left
       · rw [if_neg c16] at H; exact absurd H (by simp)
       rw [if_pos c16] at H; have c16b0 : decide (0 ≤ x50_2) = true := decide_eq_true c16; clear c16
       by_cases c17 : x50_2 < (l3.length : Int); rotate_left
       · rw [if_neg c17] at H; exact absurd H (by simp)
       rw [if_pos c17] at H; have c17b0 : decide (x50_2 < (l3.length : Int)) = true := decide_eq_true c17; clear c17; replace H := Option.bind_eq_some_iff.mp H; obtain ⟨t169, A180, H⟩ := H
       replace H : (if x8_2.length < 17592186044416 then (resamp_Sampler_Run.l0 k2 a0 a1 l3 t160 t161 (x8_2 ++ [t169]) l3 (l3.length : Int) (wrap64 (x50_2 + 1))) else (none)) = some (r1, r2, r3) := H
       have A18 := Aside0.mk A180; clear A180
       by_cases c19 : x8_2.length < 17592186044416; rotate_left
       · rw [if_neg c19] at H; exact absurd H (by simp)
       rw [if_pos c19] at H; have LMc19 := Aside0.mk c19; clear c19
       obtain ⟨y170, hy170⟩ : ∃ y_ : List Int, y_ = (x8_2 ++ [t169]) := ⟨_, rfl⟩
       replace H : (resamp_Sampler_Run.l0 k2 a0 a1 l3 t160 t161 y170 l3 (l3.length : Int) (wrap64 (x50_2 + 1))) = some (r1, r2, r3) := by first | (rw [hy170]; with_reducible exact H) | (have H2_ := (Option.bind_some _ _).symm.trans H; rw [hy170]; with_reducible exact H2_) | (have H2_ := (Option.bind_some _ _).symm.trans H; with_reducible exact H2_) | with_reducible exact H | (rw [hy170]; exact H) | exact H
       have Ny170 := Aside0.mk hy170; clear hy170; have H' := Aside0.mk H; clear H; have p168 : 0 ≤ (x50_2 : Int) := of_decide_eq_true (by first | (with_reducible assumption) | assumption); have q168 : x50_2 < (l3.length : Int) := of_decide_eq_true (by first | (with_reducible assumption) | assumption)
       obtain ⟨ad168, e168, hx168_0⟩ := Kd.at_int HR3.out x50_2 p168 q168
       cases e168
       replace hx168_0 := (HB.out.cell (World.block_lt_of_cell? w _ hx168_0)).trans hx168_0
       replace p168 := eq_true p168; replace q168 := eq_true q168
       go_wp2_with (first | ((with_reducible refine gate_callee (f := 23) rfl ?_); refine goesL_ (some 56) rfl rfl Try.func23 (by kernel_rfl) rfl #[.int .i64 (rd l3 x50_2)] rfl (by (try simp only [List.map_toArray, List.map_cons, List.map_nil]); first | done | rfl | (simp only [List.length_drop, List.length_take]; rfl)) ?_; (with_reducible refine (fix_Sat16.calls k2 (rd l3 x50_2) t169 _ A18.out).mono ?_); rintro e w' ⟨rfl, ⟨nd, rfl⟩⟩; refine ⟨_, rfl, ?_⟩) | ((with_reducible refine gate_builtin (b := .append) (xs := #[.tmp 54, .tmp 57]) rfl ?_); (try (refine gate_guard (by rfl) ?_; dsimp only)); at_builtin; refine Kd.R_append (Kd.int .i64) (w0 := w) w.heap.size rfl (.tmp 54) (.tmp 57) 27 2 (.int .i64 0) 8 rfl Try.underlying27 info2 rfl (by decide) (by omega) u8 x8_2 t169 [.int .i64 t169] (fun _ => True) (fun _ => False) rfl rfl ?aP (fun _ hk => hk.elim) ?aF ?aO ?aB ?aS ?aL ?_; (case aP => exact rfl); (case aB => exact (by repeat (with_reducible first | exact HB.out | apply below_alloc | apply pw_below_drewN | apply below_drew1))); (case aF => exact (fun _ _ => trivial)); (case aO => exact (by (with_reducible repeat first | apply Kd.R_alloc | apply Kd.R_drewN | apply Kd.R_drew); exact HO_8.out)); (case aS => exact (below_size (by repeat (with_reducible first | exact HB.out | apply below_alloc | apply pw_below_drewN | apply below_drew1)))); (case aL => have := LMc19.out; omega); intro v171 w20 ho hb hg hat; rw [← Ny170.out] at ho; have n0_ := Aside0.mk (hb); have n1_ := Aside0.mk (ho); clear HB; clear HO_8; have HB := n0_; have HO172 := n1_; clear n0_ n1_; clear ho hb hg hat))
       go_roundg k2
       case measure => have := HJ5.out; have := HK2.out; omega
       case rel => exact ⟨(y170), (wrap64 (x50_2 + 1)), (by first | rfl | (simp; done) | (simp [*]; done)), H', ⟨by have := HJ5.out; have := HK2.out; omega⟩, ⟨by (with_reducible repeat first | apply Kd.R_alloc | apply Kd.R_drewN | apply Kd.R_drew); exact HO172.out⟩, ⟨by repeat (with_reducible first | exact HB.out | apply below_alloc | apply pw_below_drewN | apply below_drew1)⟩⟩
      ·
       rw [if_neg c15] at H; have c15b0 : decide (x50_2 < (l3.length : Int)) = false := decide_eq_false c15; clear c15
       by_cases c21 : 0 ≤ t160; rotate_left
       · rw [if_neg c21] at H; exact absurd H (by simp)
       rw [if_pos c21] at H; have c21b0 := eq_true c21; have c21b1 : decide (0 ≤ t160) = true := decide_eq_true c21; clear c21
       by_cases c22 : (t160 : Int).toNat ≤ 11728124029610; rotate_left
       · rw [if_neg c22] at H; exact absurd H (by simp)
       rw [if_pos c22] at H; have c22b0 := eq_true c22; have c22b1 : decide ((t160 : Int).toNat ≤ 11728124029610) = true := decide_eq_true c22; clear c22
       obtain ⟨y173, hy173⟩ : ∃ y_ : List (List Int), y_ = (List.replicate (t160 : Int).toNat []) := ⟨_, rfl⟩
       replace H : (resamp_Sampler_Run.l1 k2 a0 a1 l3 t160 t161 x8_2 y173 (y173.length : Int) 0) = some (r1, r2, r3) := by first | (rw [hy173]; with_reducible exact H) | (have H2_ := (Option.bind_some _ _).symm.trans H; rw [hy173]; with_reducible exact H2_) | (have H2_ := (Option.bind_some _ _).symm.trans H; with_reducible exact H2_) | with_reducible exact H | (rw [hy173]; exact H) | exact H
       have Ny173 := Aside0.mk hy173; clear hy173; have H' := Aside0.mk H; clear H
       go_wp2_with (first | ((with_reducible refine gate_dst (N := 61) rfl ?_); (try (refine gate_guard (by rfl) ?_; dsimp only)); refine Kd.N_make (Kd.slice 2 (Kd.int .i64)) _ 27 rfl (N' := 61) rfl 47 _ _ rfl t160 rfl rfl Try.underlying47 (.slice none 0 0) 24 info27 rfl (by decide) (by omega) [] (ok := fun k_ => wr.heap.size ≤ k_) (okp := fun _ => False) (Kd.FK_slice_mk (Nat.le_refl _) (Kd.F_nil _ _ _)) (fun _ hk => hk.elim) (Nat.le_refl _) (of_decide_eq_true (by first | (with_reducible assumption) | assumption)) (Nat.le_trans (Nat.mul_le_mul_right _ (of_decide_eq_true (by first | (with_reducible assumption) | assumption) : t160.toNat ≤ 11728124029610)) (by omega)) (Below.refl _ _) (Nat.le_refl _) ?_; intro v174 w23 ho24 hb hg_ hnew_; clear hg_ hnew_; (first | rw [← Ny173.out] at ho24 | (simp only [Int.reduceToNat] at ho24; rw [← Ny173.out] at ho24)); have n0_ := Aside0.mk (Kd.R_below (by (with_reducible repeat first | apply Kd.R_alloc | apply Kd.R_drewN | apply Kd.R_drew); exact HO_8.out) hb); have n1_ := Aside0.mk (Kd.N_lower (Kd.N_mono (ok' := fun k_ => some k_ ≠ (u8 : Value).ownBlock) ho24 (fun k_ hk_ => (Kd.fresh' (Kd.R_lt (by (with_reducible repeat first | apply Kd.R_alloc | apply Kd.R_drewN | apply Kd.R_drew); exact HO_8.out)) k_ hk_))) (below_size (by repeat (with_reducible first | exact HB.out | apply below_alloc | apply pw_below_drewN | apply below_drew1)))); have n2_ := Aside0.mk (below_step (by repeat (with_reducible first | exact HB.out | apply below_alloc | apply pw_below_drewN | apply below_drew1)) hb); clear HO_8; clear HB; have HO_8 := n0_; have HO175 := n1_; have HB := n2_; clear n0_ n1_ n2_; clear hb ho24; obtain ⟨Ao25, co25, eo25⟩ := Kd.N_slice HO175.out; subst eo25))
       go_loopg [64] k2 (fun kq v64 w' => ∃ (x11_3 : List (List Int)) (x64_3 : Int), v64 = .int .i64 x64_3 ∧ Aside0 (resamp_Sampler_Run.l1 kq a0 a1 l3 t160 t161 x8_2 x11_3 (y173.length : Int) x64_3 = some (r1, r2, r3)) ∧ Aside0 (kq ≤ k2) ∧ Aside0 (Kd.R (Kd.int .i64) 2 w' w.heap.size (fun _ => True) u8 x8_2) ∧ Aside0 (Kd.N (Kd.slice 2 (Kd.int .i64)) 27 w' w.heap.size (fun k_ => some k_ ≠ (u8 : Value).ownBlock) (.slice Ao25 y173.length co25) x11_3) ∧ Aside0 (Below w.heap.size w w'))
       case atStart => exact ⟨(y173), (0), (by first | rfl | (simp; done) | (simp [*]; done)), H', ⟨Nat.le_refl _⟩, ⟨by (with_reducible repeat first | apply Kd.R_alloc | apply Kd.R_drewN | apply Kd.R_drew); exact HO_8.out⟩, ⟨by (with_reducible repeat (first | apply Kd.N_alloc | apply Kd.N_drewN | apply Kd.N_drew)); exact HO175.out⟩, ⟨by repeat (with_reducible first | exact HB.out | apply below_alloc | apply pw_below_drewN | apply below_drew1)⟩⟩
       case round =>
        clear H'
        (try clear c1); (try clear p1); (try clear q1); (try clear hx1); (try clear c2); (try clear p2); (try clear c3); (try clear p6); (try clear c8); (try clear c8b0); (try clear c8b0z0); (try clear c8b1); (try clear c8b1z0); (try clear c9); (try clear c9b0); (try clear c9b0z0); (try clear c9b1); (try clear c9b1z0); (try clear c10); (try clear c11); (try clear c15); (try clear c15b0); (try clear c15b0z0); (try clear c16); (try clear c16b0); (try clear c16b0z0); (try clear p16); (try clear q16); (try clear hx16); (try clear c17); (try clear c17b0); (try clear c17b0z0); (try clear c19); (try clear c21); (try clear c21b0); (try clear c21b0z0); (try clear c21b1); (try clear c21b1z0); (try clear c22); (try clear c22b0); (try clear c22b0z0); (try clear c22b1); (try clear c22b1z0); (try clear c23); (try clear hx168_0); (try clear p168); (try clear p2); (try clear q168)
        obtain ⟨x11_3, x64_3, rfl, HA, HK3, HO_8, HO_11, HB⟩ := hrel
        have hl11_3 := (Kd.N_reads' HO_11.out).1
        rw [hl11_3] at HO_11; (try simp only [hl11_3]); (try simp only [hl11_3] at HO_8)
        cases gk with
        | zero => exact absurd HA.out (by simp [resamp_Sampler_Run.l1])
        | succ k3 =>
         have H := HA.out; clear HA
         simp only [resamp_Sampler_Run.l1] at H
         by_cases c26 : x64_3 < (y173.length : Int)
         ·
          rw [if_pos c26] at H; have c26b0 : decide (x64_3 < (y173.length : Int)) = true := decide_eq_true c26; have c26z0 : decide (x64_3 < (x11_3.length : Int)) = true := (by rw [← hl11_3]; exact c26b0); clear c26; replace H := Option.bind_eq_some_iff.mp H; obtain ⟨t176, A270, H⟩ := H
          replace H : (if 0 ≤ x64_3 then (if x64_3 < (x11_3.length : Int) then (resamp_Sampler_Run.l1 k3 a0 a1 l3 t160 t161 x8_2 (x11_3.set (x64_3 : Int).toNat t176) (y173.length : Int) (wrap64 (x64_3 + 1))) else (none)) else (none)) = some (r1, r2, r3) := H
          have A27 := Aside0.mk A270; clear A270
          by_cases c28 : 0 ≤ x64_3; rotate_left
          · rw [if_neg c28] at H; exact absurd H (by simp)
          rw [if_pos c28] at H; have c28b0 : decide (0 ≤ x64_3) = true := decide_eq_true c28; clear c28
          by_cases c29 : x64_3 < (x11_3.length : Int); rotate_left
          · rw [if_neg c29] at H; exact absurd H (by simp)
          rw [if_pos c29] at H; have c29b0 : decide (x64_3 < (x11_3.length : Int)) = true := decide_eq_true c29; clear c29
          obtain ⟨y179, hy179⟩ : ∃ y_ : List (List Int), y_ = (x11_3.set (x64_3 : Int).toNat t176) := ⟨_, rfl⟩
          replace H : (resamp_Sampler_Run.l1 k3 a0 a1 l3 t160 t161 x8_2 y179 (y173.length : Int) (wrap64 (x64_3 + 1))) = some (r1, r2, r3) := by first | (rw [hy179]; with_reducible exact H) | (have H2_ := (Option.bind_some _ _).symm.trans H; rw [hy179]; with_reducible exact H2_) | (have H2_ := (Option.bind_some _ _).symm.trans H; with_reducible exact H2_) | with_reducible exact H | (rw [hy179]; exact H) | exact H
          have Ny179 := Aside0.mk hy179; clear hy179; have H' := Aside0.mk H; clear H
          try go_wp2
          have n0_ := Aside0.mk (Kd.R_drew HO_8.out)
          have n1_ := Aside0.mk (Kd.N_drew HO_11.out)
          have n2_ := Aside0.mk (below_drew1 HB.out)
          clear HO_8; clear HO_11; clear HB
          have HO_8 := n0_
          have HO_11 := n1_
          have HB := n2_
          clear n0_ n1_ n2_
          refine start_ (n := 14) (S := fun w' => w'.cell? ⟨g, 0, none⟩ = some (.int .i64 a0) ∧ w'.cell? ⟨g, 1, none⟩ = some (.int .i64 a1)) (ds := [13]) #[false, false, false, false, false, false, false, false, false, false, false, false, false, false] (by kernel_rfl) rfl rfl ⟨(HB.out.cell GB.out).trans G0.out, (HB.out.cell GB.out).trans G1.out⟩ (fun hHeld => ?_); refine with_tabW resamp_Sampler_Run.tab14 resamp_Sampler_Run.bits14 (fun HT_ HW_ => ?_)
          generalize wr.drew = w31 at HO_8 HO_11 HB hHeld ⊢
          refine pure_ (i := 0) (N := some 67) (v := ?_) (a' := ?_) #[true, false, false, false, false, false, false, false, false, false, false, false, false, false] rfl rfl (any_of HT_.out (by kernel_rfl)) (fun _ _ _ h => h) (Or.inl ⟨by rfl, ?_⟩) ?_ ?_
          rotate_left
          ·
           intro w'
           go_simp
           with_reducible rfl
          rotate_left
          ·
           simp only [Act.put, List.setIfInBounds_toArray, List.set_cons_zero, List.set_cons_succ, i64_w, i32_w]
           rfl
          refine pure_ (i := 1) (N := some 68) (v := ?_) (a' := ?_) #[true, true, false, false, false, false, false, false, false, false, false, false, false, false] rfl rfl (any_of HT_.out (by kernel_rfl)) (fun _ _ _ h => h) (Or.inl ⟨by rfl, ?_⟩) ?_ ?_
          rotate_left
          ·
           intro w'
           go_simp
           with_reducible rfl
          rotate_left
          ·
           simp only [Act.put, List.setIfInBounds_toArray, List.set_cons_zero, List.set_cons_succ, i64_w, i32_w]
           rfl
          refine pure_ (i := 2) (N := some 69) (v := ?_) (a' := ?_) #[true, true, true, false, false, false, false, false, false, false, false, false, false, false] rfl rfl (any_of HT_.out (by kernel_rfl)) (fun _ _ _ h => h) (Or.inl ⟨by rfl, ?_⟩) ?_ ?_
          rotate_left
          ·
           intro w'
           go_simp
           with_reducible rfl
          rotate_left
          ·
           simp only [Act.put, List.setIfInBounds_toArray, List.set_cons_zero, List.set_cons_succ, i64_w, i32_w]
           rfl
          refine pure_ (i := 3) (N := some 70) (v := ?_) (a' := ?_) #[true, true, true, true, false, false, false, false, false, false, false, false, false, false] rfl rfl (any_of HT_.out (by kernel_rfl)) (fun _ _ _ h => h) (Or.inl ⟨by rfl, ?_⟩) ?_ ?_
          rotate_left
          ·
           intro w'
           go_simp
           with_reducible rfl
          rotate_left
          ·
           simp only [Act.put, List.setIfInBounds_toArray, List.set_cons_zero, List.set_cons_succ, i64_w, i32_w]
           rfl
          refine pure_ (i := 4) (N := some 71) (v := ?_) (a' := ?_) #[true, true, true, true, true, false, false, false, false, false, false, false, false, false] rfl rfl (any_of HT_.out (by kernel_rfl)) (fun _ _ _ h => h) (Or.inl ⟨by rfl, ?_⟩) ?_ ?_
          rotate_left
          ·
           intro w'
           go_simp
           with_reducible rfl
          rotate_left
          ·
           simp only [Act.put, List.setIfInBounds_toArray, List.set_cons_zero, List.set_cons_succ, i64_w, i32_w]
           rfl
          refine take_ (i := 5) (N := some 72) (v := ?_) (a' := ?_) #[true, true, true, true, true, true, false, false, false, false, false, false, false, false] rfl rfl (take_ofW HT_.out HW_.out (by kernel_rfl)) (fun _ _ _ h => h) (Or.inl ⟨by rfl, ?_⟩) hHeld ?_ ?_
          rotate_left
          ·
           rintro w' ⟨s0, s1⟩
           go_simp
           with_reducible rfl
          rotate_left
          ·
           simp only [Act.put, List.setIfInBounds_toArray, List.set_cons_zero, List.set_cons_succ, i64_w, i32_w]
           rfl
          refine pure_ (i := 6) (N := some 73) (v := ?_) (a' := ?_) #[true, true, true, true, true, true, true, false, false, false, false, false, false, false] rfl rfl (any_of HT_.out (by kernel_rfl)) (fun _ _ _ h => h) (Or.inl ⟨by rfl, ?_⟩) ?_ ?_
          rotate_left
          ·
           intro w'
           go_simp
           with_reducible rfl
          rotate_left
          ·
           simp only [Act.put, List.setIfInBounds_toArray, List.set_cons_zero, List.set_cons_succ, i64_w, i32_w]
           rfl
          refine pure_ (i := 7) (N := some 74) (v := ?_) (a' := ?_) #[true, true, true, true, true, true, true, true, false, false, false, false, false, false] rfl rfl (any_of HT_.out (by kernel_rfl)) (fun _ _ _ h => h) (Or.inl ⟨by rfl, ?_⟩) ?_ ?_
          rotate_left
          ·
           intro w'
           go_simp
           with_reducible rfl
          rotate_left
          ·
           simp only [Act.put, List.setIfInBounds_toArray, List.set_cons_zero, List.set_cons_succ, i64_w, i32_w]
           rfl
          refine pure_ (i := 8) (N := some 75) (v := ?_) (a' := ?_) #[true, true, true, true, true, true, true, true, true, false, false, false, false, false] rfl rfl (any_of HT_.out (by kernel_rfl)) (fun _ _ _ h => h) (Or.inl ⟨by rfl, ?_⟩) ?_ ?_
          rotate_left
          ·
           intro w'
           go_simp
           with_reducible rfl
          rotate_left
          ·
           simp only [Act.put, List.setIfInBounds_toArray, List.set_cons_zero, List.set_cons_succ, i64_w, i32_w]
           rfl
          refine take_ (i := 9) (N := some 76) (v := ?_) (a' := ?_) #[true, true, true, true, true, true, true, true, true, true, false, false, false, false] rfl rfl (take_ofW HT_.out HW_.out (by kernel_rfl)) (fun _ _ _ h => h) (Or.inl ⟨by rfl, ?_⟩) hHeld ?_ ?_
          rotate_left
          ·
           rintro w' ⟨s0, s1⟩
           go_simp
           with_reducible rfl
          rotate_left
          ·
           simp only [Act.put, List.setIfInBounds_toArray, List.set_cons_zero, List.set_cons_succ, i64_w, i32_w]
           rfl
          refine pure_ (i := 10) (N := some 77) (v := ?_) (a' := ?_) #[true, true, true, true, true, true, true, true, true, true, true, false, false, false] rfl rfl (any_of HT_.out (by kernel_rfl)) (fun _ _ _ h => h) (Or.inl ⟨by rfl, ?_⟩) ?_ ?_
          rotate_left
          ·
           intro w'
           go_simp
           with_reducible rfl
          rotate_left
          ·
           simp only [Act.put, List.setIfInBounds_toArray, List.set_cons_zero, List.set_cons_succ, i64_w, i32_w]
           rfl
          refine one_ (i := 11) (N := some 78) #[true, true, true, true, true, true, true, true, true, true, true, true, false, false] rfl rfl (one_of HT_.out (by kernel_rfl)) (by decide) (fun K hK => ?_)
          refine goes_ Try.func11 (by kernel_rfl) rfl #[.int .i64 a0, .int .i64 a1, .int .i64 x64_3] (by rfl) rfl rfl (by (try simp only [List.map_toArray, List.map_cons, List.map_nil]); first | done | rfl | (simp only [List.length_drop, List.length_take]; rfl)) ?_
          with_reducible refine (resamp_Filter.calls k3 a0 a1 x64_3 t176 _ A27.out).mono ?_
          rintro e w32 ⟨v177, rfl, ho0, hb⟩
          refine ⟨_, rfl, ?_⟩
          have n0_ := Aside0.mk (Kd.R_elder' (by (with_reducible repeat first | apply Kd.R_alloc | apply Kd.R_drewN | apply Kd.R_drew); exact HO_8.out) (Kd.R_base ho0) hb)
          have n1_ := Aside0.mk (Kd.N_elder' (by (with_reducible repeat (first | apply Kd.N_alloc | apply Kd.N_drewN | apply Kd.N_drew)); exact HO_11.out) (Kd.R_base ho0) hb)
          have n2_ := Aside0.mk (Kd.R_lower (Kd.R_new' ho0 (Kd.R_lt (by (with_reducible repeat first | apply Kd.R_alloc | apply Kd.R_drewN | apply Kd.R_drew); exact HO_8.out))) (below_size (by repeat (with_reducible first | exact HB.out | apply below_alloc | apply pw_below_drewN | apply below_drew1))))
          have n3_ := Aside0.mk (below_step (by repeat (with_reducible first | exact HB.out | apply below_alloc | apply pw_below_drewN | apply below_drew1)) hb)
          clear HO_8; clear HO_11; clear HB
          have HO_8 := n0_
          have HO_11 := n1_
          have HO178 := n2_
          have HB := n3_
          clear n0_ n1_ n2_ n3_; (try clear hb); (try clear hb2); (try clear hk); (try clear hi); (try clear ho0); have p30 : 0 ≤ (x64_3 : Int) := of_decide_eq_true (by first | (with_reducible assumption) | assumption); have q30 : (x64_3 : Int) < ((x11_3.length : Int) : Int) := of_decide_eq_true (by first | (with_reducible assumption) | assumption)
          obtain ⟨Ao178, co178, eo178⟩ := Kd.R_slice HO178.out
          subst eo178
          obtain ⟨go30, co30, eo30, gb30, gl30, cl30, HG30⟩ := Kd.N_form HO_11.out (by omega)
          (first | cases eo30 | (injection eo30 with ea_ en_ ec_; (first | subst ea_ | (injection ea_ with ea_; subst ea_)); subst ec_; clear en_))
          have GB30 := Aside0.mk gb30; have GG30 := Aside0.mk HG30; clear gb30 gl30 HG30
          obtain ⟨ce30, hcl30, hM30, hcc30, hfr30⟩ := Kd.N_elem HO_11.out [] (x64_3 : Int) p30 q30
          obtain ⟨ua30_0, uc30_0, rfl, ul30_0, ge30_0⟩ := Kd.FK_slice_open hM30
          have hx30_0 := hcc30 0 _ rfl
          have hf30_0 := hfr30 0
          (try simp only [show ((Kd.slice 2 (Kd.int .i64))).sz = 1 from rfl, Nat.mul_one, Nat.add_zero] at hx30_0); (try simp only [show ((Kd.slice 2 (Kd.int .i64))).sz = 1 from rfl, Nat.mul_one, Nat.add_zero] at hf30_0); clear hcl30 hcc30 hfr30 hM30; replace p30 := eq_true p30; replace q30 := eq_true q30
          have HX33 := Aside0.mk (show Kd.N (Kd.slice 2 (Kd.int .i64)) 27 _ w.heap.size (fun k_ => some k_ ≠ (u8 : Value).ownBlock ∧ some k_ ≠ ((Value.slice Ao178 t176.length co178) : Value).ownBlock) (.slice (some ⟨go30, 0, none⟩) x11_3.length co25) x11_3 from (Kd.N_mono (HO_11.out) (fun k_ hk => ⟨hk.1, hk.2⟩)))
          replace HX33 := Aside0.mk (show Kd.N (Kd.slice 2 (Kd.int .i64)) 27 _ w.heap.size (fun k_ => some k_ ≠ (u8 : Value).ownBlock) (.slice (some ⟨go30, 0, none⟩) x11_3.length co25) x11_3 from Kd.N_mono HX33.out (fun k_ hk => hk.1))
          obtain ⟨ce33, hcl33, hM33, hcc33, hfr33⟩ := Kd.N_elem HX33.out [] (x64_3 : Int) (of_decide_eq_true (by first | (with_reducible assumption) | assumption)) (by have h_ : (x64_3 : Int) < ((x11_3.length : Int) : Int) := of_decide_eq_true (by first | (with_reducible assumption) | assumption); first | exact h_ | (have e_ := (Kd.N_reads' HO_11.out).1; omega) | simpa using h_)
          obtain ⟨ua33_0, uc33_0, rfl, ul33_0, ge33_0⟩ := Kd.FK_slice_open hM33
          have HP33 := (Kd.N_seg HX33.out (x64_3 : Int) (of_decide_eq_true (by first | (with_reducible assumption) | assumption)) (by have h_ : (x64_3 : Int) < ((x11_3.length : Int) : Int) := of_decide_eq_true (by first | (with_reducible assumption) | assumption); first | exact h_ | (have e_ := (Kd.N_reads' HO_11.out).1; omega) | simpa using h_) (seg := [(Value.slice Ao178 t176.length co178)]) (j := 0) hcl33 hcc33 (show 1 ≤ 1 from by decide) (x' := t176) (Kd.FK_slice_mk (Kd.R_reads' (Kd.R_mono (ok' := (fun k_ => ((fun k_ => some k_ ≠ (u8 : Value).ownBlock)) k_ ∧ k_ ≠ go30)) (Kd.R_apart' (HO178.out) (Kd.N_typed HO_11.out) (by decide)) (fun k_ hk => ⟨hk.1.2, fun e_ => (hk.2) (by rw [e_]; rfl)⟩))).2.1 (Kd.R_F (Kd.R_mono (ok' := (fun k_ => ((fun k_ => some k_ ≠ (u8 : Value).ownBlock)) k_ ∧ k_ ≠ go30)) (Kd.R_apart' (HO178.out) (Kd.N_typed HO_11.out) (by decide)) (fun k_ hk => ⟨hk.1.2, fun e_ => (hk.2) (by rw [e_]; rfl)⟩)))) (fun _ hk => hk)).1
          (try simp only [show ((Kd.slice 2 (Kd.int .i64))).sz = 1 from rfl, Nat.mul_one, Nat.add_zero] at HP33); rw [← Ny179.out] at HP33; have HQ33 := Aside0.mk HP33; clear hcl33 hcc33 hfr33 hM33 HP33
          refine hK.out _ _ ⟨(HB.out.cell GB.out).trans G0.out, (HB.out.cell GB.out).trans G1.out⟩ (fun hHeld => ?_)
          clear hK K
          refine norm_ (a' := ?_) ?_ ?_
          rotate_left
          ·
           show Act.put _ (some 78) _ = _
           simp only [Act.put, List.setIfInBounds_toArray, List.set_cons_zero, List.set_cons_succ, i64_w, i32_w]
           rfl
          refine pure_ (i := 12) (N := some 79) (v := ?_) (a' := ?_) #[true, true, true, true, true, true, true, true, true, true, true, true, true, false] rfl rfl (any_of HT_.out (by kernel_rfl)) (fun _ _ _ h => h) (Or.inl ⟨by rfl, ?_⟩) ?_ ?_
          rotate_left
          ·
           intro w'
           go_simp
           with_reducible rfl
          rotate_left
          ·
           simp only [Act.put, List.setIfInBounds_toArray, List.set_cons_zero, List.set_cons_succ, i64_w, i32_w]
           rfl
          refine last_ (i := 13) (N := none) #[true, true, true, true, true, true, true, true, true, true, true, true, true, true] rfl rfl (one_of HT_.out (by kernel_rfl)) (by decide) (fun K hK => ?_)
          refine skip_ (w1 := ?_) (by rfl) rfl ?_ ?_
          rotate_left
          ·
           go_simp
           rfl
          refine hK.out _ _ ?_
          clear hK K
          refine done_ (done_of HT_.out (by kernel_rfl)) ?_
          try go_wp2
          (try simp only [← hl11_3])
          go_roundg k3
          case measure => have := HJ5.out; have := HK2.out; have := HK3.out; omega
          case rel => exact ⟨(y179), (wrap64 (x64_3 + 1)), (by first | rfl | (simp; done) | (simp [*]; done)), H', ⟨by have := HJ5.out; have := HK2.out; have := HK3.out; omega⟩, ⟨by (try simp only [hl11_3]); (with_reducible repeat first | apply Kd.R_alloc | apply Kd.R_drewN | apply Kd.R_drew); exact Kd.R_mono (Kd.R_far (p := ⟨go30, (x64_3 : Int).toNat, none⟩) (Kd.R_types HO_8.out GG30.out (by decide)) (fun _ hk => hk.2) ((Value.slice Ao178 t176.length co178))) (fun _ hk => trivial)⟩, ⟨by (try simp only [hl11_3]); (with_reducible repeat (first | apply Kd.N_alloc | apply Kd.N_drewN | apply Kd.N_drew)); exact HQ33.out⟩, ⟨by repeat (first | (with_reducible first | exact HB.out | apply below_alloc | apply pw_below_drewN | apply below_drew1 | refine below_set ?_ GB30.out) | exact HB.out)⟩⟩
         ·
          rw [if_neg c26] at H; have c26b0 : decide (x64_3 < (y173.length : Int)) = false := decide_eq_false c26; have c26z0 : decide (x64_3 < (x11_3.length : Int)) = false := (by rw [← hl11_3]; exact c26b0); clear c26
          by_cases c34 : t161 = 0
          ·
           rw [if_pos c34] at H; exact absurd H (by simp)
          ·
           rw [if_neg c34] at H; have c34b0 : (t161 == 0) = false := beq_eq_false_iff_ne.mpr c34; have c34b1 : (t161 != 0) = true := bne_iff_ne.mpr c34
           obtain ⟨ji35, hji35⟩ : ∃ j_ : Int, (wrap64 (Int.tdiv (wrap64 (t160 * (l3.length : Int))) t161)) = j_ := ⟨_, rfl⟩
           replace H : (if 0 ≤ (ji35) then (if (ji35 : Int).toNat ≤ 35184372088832 then ((some (List.replicate (ji35 : Int).toNat 0 : List Int)).bind fun y180 => (resamp_Sampler_Run.l2 k3 t160 t161 x8_2 x11_3 y180 (y180.length : Int) 0)) else (none)) else (none)) = some (r1, r2, r3) := by first | (rw [hji35] at H; exact H) | (simp only [hji35] at H ⊢; exact H)
           have hji35w : (IntKind.i64.wrap (Int.tdiv (wrap64 (t160 * (l3.length : Int))) t161)) = ji35 := (i64_w _).trans hji35
           by_cases c36 : 0 ≤ (ji35); rotate_left
           · rw [if_neg c36] at H; exact absurd H (by simp)
           rw [if_pos c36] at H; have c36b0 := eq_true c36; have c36b1 : decide (0 ≤ (ji35)) = true := decide_eq_true c36; clear c36
           by_cases c37 : (ji35 : Int).toNat ≤ 35184372088832; rotate_left
           · rw [if_neg c37] at H; exact absurd H (by simp)
           rw [if_pos c37] at H; have c37b0 := eq_true c37; have c37b1 : decide ((ji35 : Int).toNat ≤ 35184372088832) = true := decide_eq_true c37; clear c37
           obtain ⟨y180, hy180⟩ : ∃ y_ : List Int, y_ = (List.replicate (ji35 : Int).toNat 0) := ⟨_, rfl⟩
           replace H : (resamp_Sampler_Run.l2 k3 t160 t161 x8_2 x11_3 y180 (y180.length : Int) 0) = some (r1, r2, r3) := by first | (rw [hy180]; with_reducible exact H) | (have H2_ := (Option.bind_some _ _).symm.trans H; rw [hy180]; with_reducible exact H2_) | (have H2_ := (Option.bind_some _ _).symm.trans H; with_reducible exact H2_) | with_reducible exact H | (rw [hy180]; exact H) | exact H
           have Ny180 := Aside0.mk hy180; clear hy180; have H' := Aside0.mk H; clear H
           go_wp2_with (first | ((with_reducible refine gate_dst (N := 87) rfl ?_); (try (refine gate_guard (by rfl) ?_; dsimp only)); refine Kd.R_make (Kd.int .i64) _ 2 rfl (N := 87) rfl 27 _ _ rfl ji35 rfl rfl Try.underlying27 (.int .i64 0) 8 info2 rfl (by decide) (by omega) 0 (ok := fun _ => True) (okp := fun _ => True) rfl (fun _ hk => hk) trivial (of_decide_eq_true (by first | (with_reducible assumption) | assumption)) (Nat.le_trans (Nat.mul_le_mul_right _ (of_decide_eq_true (by first | (with_reducible assumption) | assumption) : ji35.toNat ≤ 35184372088832)) (by omega)) (Below.refl _ _) (Nat.le_refl _) ?_; intro v181 w38 ho39 hb hg_ hnew_; clear hg_ hnew_; (first | rw [← Ny180.out] at ho39 | (simp only [Int.reduceToNat] at ho39; rw [← Ny180.out] at ho39)); have n0_ := Aside0.mk (Kd.R_elder' (by (with_reducible repeat first | apply Kd.R_alloc | apply Kd.R_drewN | apply Kd.R_drew); exact HO_8.out) (Kd.R_base ho39) hb); have n1_ := Aside0.mk (Kd.N_elder' (by (with_reducible repeat (first | apply Kd.N_alloc | apply Kd.N_drewN | apply Kd.N_drew)); exact HO_11.out) (Kd.R_base ho39) hb); have n2_ := Aside0.mk (Kd.R_lower (Kd.R_new' ho39 (Kd.R_lt (by (with_reducible repeat first | apply Kd.R_alloc | apply Kd.R_drewN | apply Kd.R_drew); exact HO_8.out))) (below_size (by repeat (with_reducible first | exact HB.out | apply below_alloc | apply pw_below_drewN | apply below_drew1)))); have n3_ := Aside0.mk (below_step (by repeat (with_reducible first | exact HB.out | apply below_alloc | apply pw_below_drewN | apply below_drew1)) hb); clear HO_8; clear HO_11; clear HB; have HO_8 := n0_; have HO_11 := n1_; have HO182 := n2_; have HB := n3_; clear n0_ n1_ n2_ n3_; clear hb ho39; obtain ⟨Ao40, co40, eo40⟩ := Kd.R_slice HO182.out; subst eo40))
           go_loopg [90] k3 (fun kq v90 w' => ∃ (x13_4 : List Int) (x90_4 : Int), v90 = .int .i64 x90_4 ∧ Aside0 (resamp_Sampler_Run.l2 kq t160 t161 x8_2 x11_3 x13_4 (y180.length : Int) x90_4 = some (r1, r2, r3)) ∧ Aside0 (kq ≤ k3) ∧ Aside0 (Kd.R (Kd.int .i64) 2 w' w.heap.size (fun k_ => some k_ ≠ ((.slice Ao40 y180.length co40) : Value).ownBlock) u8 x8_2) ∧ Aside0 (Kd.N (Kd.slice 2 (Kd.int .i64)) 27 w' w.heap.size (fun k_ => some k_ ≠ (u8 : Value).ownBlock ∧ some k_ ≠ ((.slice Ao40 y180.length co40) : Value).ownBlock) (.slice Ao25 x11_3.length co25) x11_3) ∧ Aside0 (Kd.R (Kd.int .i64) 2 w' w.heap.size (fun k_ => some k_ ≠ (u8 : Value).ownBlock) (.slice Ao40 y180.length co40) x13_4) ∧ Aside0 (Below w.heap.size w w'))
           case atStart => exact ⟨(y180), (0), (by first | rfl | (simp; done) | (simp [*]; done)), H', ⟨Nat.le_refl _⟩, ⟨by (try simp only [hl11_3]); (with_reducible repeat first | apply Kd.R_alloc | apply Kd.R_drewN | apply Kd.R_drew); exact Kd.R_mono HO_8.out (fun _ hk => hk.2)⟩, ⟨by (try simp only [hl11_3]); (with_reducible repeat (first | apply Kd.N_alloc | apply Kd.N_drewN | apply Kd.N_drew)); exact HO_11.out⟩, ⟨by (try simp only [hl11_3]); (with_reducible repeat first | apply Kd.R_alloc | apply Kd.R_drewN | apply Kd.R_drew); exact Kd.R_mono HO182.out (fun _ hk => hk.2)⟩, ⟨by repeat (with_reducible first | exact HB.out | apply below_alloc | apply pw_below_drewN | apply below_drew1)⟩⟩
           case round =>
            clear H'
            (try clear c1); (try clear p1); (try clear q1); (try clear hx1); (try clear c2); (try clear p2); (try clear c3); (try clear p3); (try clear q3); (try clear hx3); (try clear p6); (try clear c8); (try clear c8b0); (try clear c8b0z0); (try clear c8b1); (try clear c8b1z0); (try clear c9); (try clear c9b0); (try clear c9b0z0); (try clear c9b1); (try clear c9b1z0); (try clear c10); (try clear c11); (try clear c15); (try clear c15b0); (try clear c15b0z0); (try clear c16); (try clear c16b0); (try clear c16b0z0); (try clear p16); (try clear q16); (try clear hx16); (try clear c17); (try clear c17b0); (try clear c17b0z0); (try clear c19); (try clear c21); (try clear c21b0); (try clear c21b0z0); (try clear c21b1); (try clear c21b1z0); (try clear c22); (try clear c22b0); (try clear c22b0z0); (try clear c22b1); (try clear c22b1z0); (try clear c23); (try clear c26); (try clear c26b0); (try clear c26b0z0); (try clear c28); (try clear c28b0); (try clear c28b0z0); (try clear c29); (try clear c29b0); (try clear c29b0z0); (try clear c30); (try clear p30); (try clear q30); (try clear hx30); (try clear hf30); (try clear c33); (try clear c34); (try clear c34b0); (try clear c34b0z0); (try clear c34b1); (try clear c34b1z0); (try clear c36); (try clear c36b0); (try clear c36b0z0); (try clear c36b1); (try clear c36b1z0); (try clear c37); (try clear c37b0); (try clear c37b0z0); (try clear c37b1); (try clear c37b1z0); (try clear hx168_0); (try clear hx30_0); (try clear p1); (try clear p16); (try clear p168); (try clear p2); (try clear p30); (try clear p6); (try clear q1); (try clear q16); (try clear q168); (try clear q30)
            obtain ⟨x13_4, x90_4, rfl, HA, HK4, HO_8, HO_11, HO_13, HB⟩ := hrel
            have hl13_4 := (Kd.R_reads' HO_13.out).1
            rw [hl13_4] at HO_13; (try simp only [hl13_4]); (try simp only [hl13_4] at HO_8); (try simp only [hl13_4] at HO_11)
            cases gk with
            | zero => exact absurd HA.out (by simp [resamp_Sampler_Run.l2])
            | succ k4 =>
             have H := HA.out; clear HA
             simp only [resamp_Sampler_Run.l2] at H
             by_cases c41 : x90_4 < (y180.length : Int)
             ·
              rw [if_pos c41] at H; have c41b0 : decide (x90_4 < (y180.length : Int)) = true := decide_eq_true c41
              (try (have c41b0z0 := c41b0; rw [hl13_4] at c41b0z0))
              clear c41
              by_cases c42 : t160 = 0
              ·
               rw [if_pos c42] at H; exact absurd H (by simp)
              ·
               rw [if_neg c42] at H; have c42b0 : (t160 == 0) = false := beq_eq_false_iff_ne.mpr c42; have c42b1 : (t160 != 0) = true := bne_iff_ne.mpr c42
               obtain ⟨ji43, hji43⟩ : ∃ j_ : Int, (Int.tmod (wrap64 (x90_4 * t161)) t160) = j_ := ⟨_, rfl⟩
               replace H : (if 0 ≤ (ji43) then (if (ji43) < (x11_3.length : Int) then (resamp_Sampler_Run.l3 k4 t160 t161 x8_2 x11_3 x13_4 x90_4 (wrap64 (Int.tdiv (wrap64 (x90_4 * t161)) t160)) 16384 (y180.length : Int) x90_4 (rd_L1 x11_3 (ji43)) ((rd_L1 x11_3 (ji43)).length : Int) 0) else (none)) else (none)) = some (r1, r2, r3) := by first | (rw [hji43] at H; exact H) | (simp only [hji43] at H ⊢; exact H)
               by_cases c44 : 0 ≤ (ji43); rotate_left
               · rw [if_neg c44] at H; exact absurd H (by simp)
               rw [if_pos c44] at H; have c44b0 : decide (0 ≤ (ji43)) = true := decide_eq_true c44; clear c44
               by_cases c45 : (ji43) < (x11_3.length : Int); rotate_left
               · rw [if_neg c45] at H; exact absurd H (by simp)
               rw [if_pos c45] at H; have c45b0 : decide ((ji43) < (x11_3.length : Int)) = true := decide_eq_true c45
               (try (have c45b0z0 := c45b0; rw [hl13_4] at c45b0z0))
               clear c45; have H' := Aside0.mk H; clear H
               try go_wp2
               have n0_ := Aside0.mk (Kd.R_drew HO_8.out)
               have n1_ := Aside0.mk (Kd.N_drew HO_11.out)
               have n2_ := Aside0.mk (Kd.R_drew HO_13.out)
               have n3_ := Aside0.mk (below_drew1 HB.out)
               clear HO_8; clear HO_11; clear HO_13; clear HB
               have HO_8 := n0_
               have HO_11 := n1_
               have HO_13 := n2_
               have HB := n3_
               clear n0_ n1_ n2_ n3_
               refine start_ (n := 12) (S := fun w' => True) (ds := []) #[false, false, false, false, false, false, false, false, false, false, false, false] (by kernel_rfl) rfl rfl trivial (fun hHeld => ?_); refine with_tabW resamp_Sampler_Run.tab20 resamp_Sampler_Run.bits20 (fun HT_ HW_ => ?_)
               generalize wr.drew = w46 at HO_8 HO_11 HO_13 HB hHeld ⊢
               refine pure_ (i := 0) (N := some 93) (v := ?_) (a' := ?_) #[true, false, false, false, false, false, false, false, false, false, false, false] rfl rfl (any_of HT_.out (by kernel_rfl)) (fun _ _ _ h => h) (Or.inl ⟨by rfl, ?_⟩) ?_ ?_
               rotate_left
               ·
                intro w'
                go_simp
                with_reducible rfl
               rotate_left
               ·
                simp only [Act.put, List.setIfInBounds_toArray, List.set_cons_zero, List.set_cons_succ, i64_w, i32_w]
                rfl
               refine pure_ (i := 1) (N := some 94) (v := ?_) (a' := ?_) #[true, true, false, false, false, false, false, false, false, false, false, false] rfl rfl (any_of HT_.out (by kernel_rfl)) (fun _ _ _ h => h) (Or.inl ⟨by rfl, ?_⟩) ?_ ?_
               rotate_left
               ·
                intro w'
                go_simp
                with_reducible rfl
               rotate_left
               ·
                simp only [Act.put, List.setIfInBounds_toArray, List.set_cons_zero, List.set_cons_succ, i64_w, i32_w]
                rfl
               refine pure_ (i := 2) (N := some 95) (v := ?_) (a' := ?_) #[true, true, true, false, false, false, false, false, false, false, false, false] rfl rfl (any_of HT_.out (by kernel_rfl)) (fun _ _ _ h => h) (Or.inl ⟨by rfl, ?_⟩) ?_ ?_
               rotate_left
               ·
                intro w'
                go_simp
                with_reducible rfl
               rotate_left
               ·
                simp only [Act.put, List.setIfInBounds_toArray, List.set_cons_zero, List.set_cons_succ, i64_w, i32_w]
                rfl
               refine pure_ (i := 3) (N := some 96) (v := ?_) (a' := ?_) #[true, true, true, true, false, false, false, false, false, false, false, false] rfl rfl (any_of HT_.out (by kernel_rfl)) (fun _ _ _ h => h) (Or.inl ⟨by rfl, ?_⟩) ?_ ?_
               rotate_left
               ·
                intro w'
                go_simp
                with_reducible rfl
               rotate_left
               ·
                simp only [Act.put, List.setIfInBounds_toArray, List.set_cons_zero, List.set_cons_succ, i64_w, i32_w]
                rfl
               refine pure_ (i := 4) (N := some 97) (v := ?_) (a' := ?_) #[true, true, true, true, true, false, false, false, false, false, false, false] rfl rfl (any_of HT_.out (by kernel_rfl)) (fun _ _ _ h => h) (Or.inl ⟨by rfl, ?_⟩) ?_ ?_
               rotate_left
               ·
                intro w'
                go_simp
                with_reducible rfl
               rotate_left
               ·
                simp only [Act.put, List.setIfInBounds_toArray, List.set_cons_zero, List.set_cons_succ, i64_w, i32_w]
                rfl
               refine pure_ (i := 5) (N := some 98) (v := ?_) (a' := ?_) #[true, true, true, true, true, true, false, false, false, false, false, false] rfl rfl (any_of HT_.out (by kernel_rfl)) (fun _ _ _ h => h) (Or.inl ⟨by rfl, ?_⟩) ?_ ?_
               rotate_left
               ·
                intro w'
                go_simp
                with_reducible rfl
               rotate_left
               ·
                simp only [Act.put, List.setIfInBounds_toArray, List.set_cons_zero, List.set_cons_succ, i64_w, i32_w]
                rfl
               refine pure_ (i := 6) (N := some 99) (v := ?_) (a' := ?_) #[true, true, true, true, true, true, true, false, false, false, false, false] rfl rfl (any_of HT_.out (by kernel_rfl)) (fun _ _ _ h => h) (Or.inl ⟨by rfl, ?_⟩) ?_ ?_
               rotate_left
               ·
                intro w'
                go_simp
                with_reducible rfl
               rotate_left
               ·
                simp only [Act.put, List.setIfInBounds_toArray, List.set_cons_zero, List.set_cons_succ, i64_w, i32_w]
                rfl
               refine pure_ (i := 7) (N := some 100) (v := ?_) (a' := ?_) #[true, true, true, true, true, true, true, true, false, false, false, false] rfl rfl (any_of HT_.out (by kernel_rfl)) (fun _ _ _ h => h) (Or.inl ⟨by rfl, ?_⟩) ?_ ?_
               rotate_left
               ·
                intro w'
                go_simp
                with_reducible rfl
               rotate_left
               ·
                simp only [Act.put, List.setIfInBounds_toArray, List.set_cons_zero, List.set_cons_succ, i64_w, i32_w]
                rfl
               refine pure_ (i := 8) (N := some 101) (v := ?_) (a' := ?_) #[true, true, true, true, true, true, true, true, true, false, false, false] rfl rfl (any_of HT_.out (by kernel_rfl)) (fun _ _ _ h => h) (Or.inl ⟨by rfl, ?_⟩) ?_ ?_
               rotate_left
               ·
                intro w'
                go_simp
                with_reducible rfl
               rotate_left
               ·
                simp only [Act.put, List.setIfInBounds_toArray, List.set_cons_zero, List.set_cons_succ, i64_w, i32_w]
                rfl
               refine pure_ (i := 9) (N := some 102) (v := ?_) (a' := ?_) #[true, true, true, true, true, true, true, true, true, true, false, false] rfl rfl (any_of HT_.out (by kernel_rfl)) (fun _ _ _ h => h) (Or.inl ⟨by rfl, ?_⟩) ?_ ?_
               rotate_left
               ·
                intro w'
                go_simp
                with_reducible rfl
               rotate_left
               ·
                simp only [Act.put, List.setIfInBounds_toArray, List.set_cons_zero, List.set_cons_succ, i64_w, i32_w]
                rfl
               refine pure_ (i := 10) (N := some 15) (v := ?_) (a' := ?_) #[true, true, true, true, true, true, true, true, true, true, true, false] rfl rfl (any_of HT_.out (by kernel_rfl)) (fun _ _ _ h => h) (Or.inl ⟨by rfl, ?_⟩) ?_ ?_
               rotate_left
               ·
                intro w'
                go_simp
                with_reducible rfl
               rotate_left
               ·
                simp only [Act.put, List.setIfInBounds_toArray, List.set_cons_zero, List.set_cons_succ, i64_w, i32_w]
                rfl
               refine pure_ (i := 11) (N := some 16) (v := ?_) (a' := ?_) #[true, true, true, true, true, true, true, true, true, true, true, true] rfl rfl (any_of HT_.out (by kernel_rfl)) (fun _ _ _ h => h) (Or.inl ⟨by rfl, ?_⟩) ?_ ?_
               rotate_left
               ·
                intro w'
                go_simp
                with_reducible rfl
               rotate_left
               ·
                simp only [Act.put, List.setIfInBounds_toArray, List.set_cons_zero, List.set_cons_succ, i64_w, i32_w]
                rfl
               refine done_ (done_of HT_.out (by kernel_rfl)) ?_
               have p188 : 0 ≤ ((ji43) : Int) := of_decide_eq_true (by first | (with_reducible assumption) | assumption); have q188 : (ji43) < (x11_3.length : Int) := of_decide_eq_true (by first | (with_reducible assumption) | assumption)
               obtain ⟨ad188, A188_0, c188_0, e188, hx188_0, hl188_0, hi188_0⟩ := at_L1 (Kd.N_reads' HO_11.out).2.2 (ji43) p188 q188
               cases e188
               obtain ⟨ce188, hce188, hMe188, hcc188⟩ := Kd.N_get HO_11.out [] (ji43) p188 (by first | exact q188 | exact of_decide_eq_true (by first | (with_reducible assumption) | assumption) | (have e_ := (Kd.N_reads' HO_11.out).1; omega))
               obtain ⟨ua188_0, uc188_0, rfl, ul188_0, ge188_0⟩ := Kd.FK_slice_open hMe188
               have hv188_0 := hcc188 0 _ rfl
               rw [Nat.add_zero, show ((Kd.slice 2 (Kd.int .i64))).sz = 1 from rfl, Nat.mul_one] at hv188_0
               replace hv188_0 := Option.some.inj (hv188_0.symm.trans hx188_0)
               injection hv188_0 with hva_ hvn_ hvc_
               rw [hva_] at ge188_0; rw [hvc_] at ul188_0
               have HL188_0 := Aside0.mk (show Kd.V (Kd.int .i64) 2 _ w.heap.size _ _ (rd_L1 x11_3 (ji43)) from Kd.V_mk ul188_0 ge188_0)
               clear hva_ hvn_ hvc_ ge188_0 ul188_0; clear hcc188 hce188; have HR188_0 := Aside0.mk hi188_0; have HC188_0 := Aside0.mk hl188_0; clear hi188_0 hl188_0; replace p188 := eq_true p188; replace q188 := eq_true q188
               try go_wp2
               go_loopg [17, 108] k4 (fun kq v17 v108 w' => ∃ (x17_5 : Int) (x108_5 : Int), v17 = .int .i64 x17_5 ∧ v108 = .int .i64 x108_5 ∧ Aside0 (resamp_Sampler_Run.l3 kq t160 t161 x8_2 x11_3 x13_4 x90_4 (wrap64 (Int.tdiv (wrap64 (x90_4 * t161)) t160)) x17_5 (y180.length : Int) x90_4 (rd_L1 x11_3 (ji43)) ((rd_L1 x11_3 (ji43)).length : Int) x108_5 = some (r1, r2, r3)) ∧ Aside0 (kq ≤ k4) ∧ Aside0 (Kd.R (Kd.int .i64) 2 w' w.heap.size (fun k_ => some k_ ≠ ((.slice Ao40 x13_4.length co40) : Value).ownBlock) u8 x8_2) ∧ Aside0 (Kd.N (Kd.slice 2 (Kd.int .i64)) 27 w' w.heap.size (fun k_ => some k_ ≠ (u8 : Value).ownBlock ∧ some k_ ≠ ((.slice Ao40 x13_4.length co40) : Value).ownBlock) (.slice (some ad188) x11_3.length co25) x11_3) ∧ Aside0 (Kd.R (Kd.int .i64) 2 w' w.heap.size (fun k_ => some k_ ≠ (u8 : Value).ownBlock) (.slice Ao40 x13_4.length co40) x13_4) ∧ Aside0 (Kd.C (Kd.int .i64) w' A188_0 (rd_L1 x11_3 (ji43)).length (rd_L1 x11_3 (ji43))) ∧ Aside0 (Below w.heap.size w w'))
               case atStart => exact ⟨(16384), (0), (by first | rfl | (simp; done) | (simp [*]; done)), (by first | rfl | (simp; done) | (simp [*]; done)), H', ⟨Nat.le_refl _⟩, ⟨by (try simp only [hl11_3]); (try simp only [hl13_4]); (with_reducible repeat first | apply Kd.R_alloc | apply Kd.R_drewN | apply Kd.R_drew); exact HO_8.out⟩, ⟨by (try simp only [hl11_3]); (try simp only [hl13_4]); (with_reducible repeat (first | apply Kd.N_alloc | apply Kd.N_drewN | apply Kd.N_drew)); exact HO_11.out⟩, ⟨by (try simp only [hl11_3]); (try simp only [hl13_4]); (with_reducible repeat first | apply Kd.R_alloc | apply Kd.R_drewN | apply Kd.R_drew); exact HO_13.out⟩, ⟨by repeat (first | (with_reducible exact HR188_0.out) | (with_reducible refine Kd.C_alloc ?_ _) | (with_reducible refine Kd.C_drewN ?_ _) | (with_reducible refine Kd.C_drew ?_) | exact HR188_0.out)⟩, ⟨by repeat (with_reducible first | exact HB.out | apply below_alloc | apply pw_below_drewN | apply below_drew1)⟩⟩
               case round =>
                clear H'
                (try clear c1); (try clear p1); (try clear q1); (try clear hx1); (try clear c2); (try clear p2); (try clear c3); (try clear p3); (try clear q3); (try clear hx3); (try clear c4); (try clear p6); (try clear c8); (try clear c8b0); (try clear c8b0z0); (try clear c8b1); (try clear c8b1z0); (try clear c9); (try clear c9b0); (try clear c9b0z0); (try clear c9b1); (try clear c9b1z0); (try clear c10); (try clear c11); (try clear c15); (try clear c15b0); (try clear c15b0z0); (try clear c16); (try clear c16b0); (try clear c16b0z0); (try clear p16); (try clear q16); (try clear hx16); (try clear c17); (try clear c17b0); (try clear c17b0z0); (try clear c18); (try clear p18); (try clear q18); (try clear hx18); (try clear c19); (try clear c21); (try clear c21b0); (try clear c21b0z0); (try clear c21b1); (try clear c21b1z0); (try clear c22); (try clear c22b0); (try clear c22b0z0); (try clear c22b1); (try clear c22b1z0); (try clear c23); (try clear c26); (try clear c26b0); (try clear c26b0z0); (try clear c28); (try clear c28b0); (try clear c28b0z0); (try clear c29); (try clear c29b0); (try clear c29b0z0); (try clear c30); (try clear p30); (try clear q30); (try clear hx30); (try clear hf30); (try clear c33); (try clear c34); (try clear c34b0); (try clear c34b0z0); (try clear c34b1); (try clear c34b1z0); (try clear c36); (try clear c36b0); (try clear c36b0z0); (try clear c36b1); (try clear c36b1z0); (try clear c37); (try clear c37b0); (try clear c37b0z0); (try clear c37b1); (try clear c37b1z0); (try clear c41); (try clear c41b0); (try clear c41b0z0); (try clear c42); (try clear c42b0); (try clear c42b0z0); (try clear c42b1); (try clear c42b1z0); (try clear c44); (try clear c44b0); (try clear c44b0z0); (try clear c45); (try clear c45b0); (try clear c45b0z0); (try clear hx168_0); (try clear hx188_0); (try clear hx30_0); (try clear p1); (try clear p16); (try clear p168); (try clear p188); (try clear p2); (try clear p3); (try clear p30); (try clear p6); (try clear q1); (try clear q16); (try clear q168); (try clear q188); (try clear q3); (try clear q30)
                obtain ⟨x17_5, x108_5, rfl, rfl, HA, HK5, HO_8, HO_11, HO_13, HR188_0, HB⟩ := hrel
                cases gk with
                | zero => exact absurd HA.out (by simp [resamp_Sampler_Run.l3])
                | succ k5 =>
                 have H := HA.out; clear HA
                 simp only [resamp_Sampler_Run.l3] at H
                 by_cases c47 : x108_5 < ((rd_L1 x11_3 (ji43)).length : Int)
                 ·
                  rw [if_pos c47] at H; have c47b0 : decide (x108_5 < ((rd_L1 x11_3 (ji43)).length : Int)) = true := decide_eq_true c47
                  (try (have c47b0z0 := c47b0; rw [hl13_4] at c47b0z0))
                  clear c47
                  by_cases c48 : 0 ≤ x108_5; rotate_left
                  · rw [if_neg c48] at H; exact absurd H (by simp)
                  rw [if_pos c48] at H; have c48b0 : decide (0 ≤ x108_5) = true := decide_eq_true c48; clear c48
                  by_cases c49 : x108_5 < ((rd_L1 x11_3 (ji43)).length : Int); rotate_left
                  · rw [if_neg c49] at H; exact absurd H (by simp)
                  rw [if_pos c49] at H; have c49b0 : decide (x108_5 < ((rd_L1 x11_3 (ji43)).length : Int)) = true := decide_eq_true c49
                  (try (have c49b0z0 := c49b0; rw [hl13_4] at c49b0z0))
                  clear c49
                  obtain ⟨ji50, hji50⟩ : ∃ j_ : Int, (wrap64 ((wrap64 ((wrap64 ((wrap64 (Int.tdiv (wrap64 (x90_4 * t161)) t160)) + 8)) + x108_5)) - 7)) = j_ := ⟨_, rfl⟩
                  replace H : (if 0 ≤ (ji50) then (if (ji50) < (x8_2.length : Int) then (resamp_Sampler_Run.l3 k5 t160 t161 x8_2 x11_3 x13_4 x90_4 (wrap64 (Int.tdiv (wrap64 (x90_4 * t161)) t160)) (wrap64 (x17_5 + (wrap64 ((rd (rd_L1 x11_3 (ji43)) x108_5) * (rd x8_2 (ji50)))))) (y180.length : Int) x90_4 (rd_L1 x11_3 (ji43)) ((rd_L1 x11_3 (ji43)).length : Int) (wrap64 (x108_5 + 1))) else (none)) else (none)) = some (r1, r2, r3) := by first | (rw [hji50] at H; exact H) | (simp only [hji50] at H ⊢; exact H)
                  have hji50w : (IntKind.i64.wrap ((wrap64 ((wrap64 ((wrap64 (Int.tdiv (wrap64 (x90_4 * t161)) t160)) + 8)) + x108_5)) - 7)) = ji50 := (i64_w _).trans hji50
                  by_cases c51 : 0 ≤ (ji50); rotate_left
                  · rw [if_neg c51] at H; exact absurd H (by simp)
                  rw [if_pos c51] at H; have c51b0 : decide (0 ≤ (ji50)) = true := decide_eq_true c51; clear c51
                  by_cases c52 : (ji50) < (x8_2.length : Int); rotate_left
                  · rw [if_neg c52] at H; exact absurd H (by simp)
                  rw [if_pos c52] at H; have c52b0 : decide ((ji50) < (x8_2.length : Int)) = true := decide_eq_true c52
                  (try (have c52b0z0 := c52b0; rw [hl13_4] at c52b0z0))
                  clear c52; have H' := Aside0.mk H; clear H; have p189 : 0 ≤ (x108_5 : Int) := of_decide_eq_true (by first | (with_reducible assumption) | assumption); have q189 : x108_5 < ((rd_L1 x11_3 (ji43)).length : Int) := of_decide_eq_true (by first | (with_reducible assumption) | assumption)
                  obtain ⟨ad189, e189, hx189_0⟩ := Kd.at_int HR188_0.out x108_5 p189 q189
                  cases e189
                  replace p189 := eq_true p189; replace q189 := eq_true q189
                  obtain ⟨Ao53, co53, eo53⟩ := Kd.R_slice HO_8.out
                  subst eo53; have p190 : 0 ≤ ((ji50) : Int) := of_decide_eq_true (by first | (with_reducible assumption) | assumption); have q190 : (ji50) < (x8_2.length : Int) := of_decide_eq_true (by first | (with_reducible assumption) | assumption)
                  obtain ⟨ad190, e190, hx190_0⟩ := Kd.at_int (Kd.R_reads' HO_8.out).2.2 (ji50) p190 q190
                  cases e190; replace p190 := eq_true p190; replace q190 := eq_true q190
                  go_wp2
                  go_roundg k5
                  case measure => have := HJ5.out; have := HK2.out; have := HK3.out; have := HK4.out; have := HK5.out; omega
                  case rel => exact ⟨(wrap64 (x17_5 + (wrap64 ((rd (rd_L1 x11_3 (ji43)) x108_5) * (rd x8_2 (ji50)))))), (wrap64 (x108_5 + 1)), (by first | rfl | (simp; done) | (simp only [← hji43, ← hji50] <;> (first | rfl | simp)) | (simp [*]; done)), (by first | rfl | (simp; done) | (simp [*]; done)), H', ⟨by have := HJ5.out; have := HK2.out; have := HK3.out; have := HK4.out; have := HK5.out; omega⟩, ⟨by (try simp only [hl11_3]); (try simp only [hl13_4]); (with_reducible repeat first | apply Kd.R_alloc | apply Kd.R_drewN | apply Kd.R_drew); exact HO_8.out⟩, ⟨by (try simp only [hl11_3]); (try simp only [hl13_4]); (with_reducible repeat (first | apply Kd.N_alloc | apply Kd.N_drewN | apply Kd.N_drew)); exact HO_11.out⟩, ⟨by (try simp only [hl11_3]); (try simp only [hl13_4]); (with_reducible repeat first | apply Kd.R_alloc | apply Kd.R_drewN | apply Kd.R_drew); exact HO_13.out⟩, ⟨by repeat (first | (with_reducible exact HR188_0.out) | (with_reducible refine Kd.C_alloc ?_ _) | (with_reducible refine Kd.C_drewN ?_ _) | (with_reducible refine Kd.C_drew ?_) | exact HR188_0.out)⟩, ⟨by repeat (with_reducible first | exact HB.out | apply below_alloc | apply pw_below_drewN | apply below_drew1)⟩⟩
                 ·
                  rw [if_neg c47] at H; have c47b0 : decide (x108_5 < ((rd_L1 x11_3 (ji43)).length : Int)) = false := decide_eq_false c47
                  (try (have c47b0z0 := c47b0; rw [hl13_4] at c47b0z0))
                  clear c47; replace H := Option.bind_eq_some_iff.mp H; obtain ⟨t191, A540, H⟩ := H
                  replace H : (if 0 ≤ x90_4 then (if x90_4 < (x13_4.length : Int) then (resamp_Sampler_Run.l2 k5 t160 t161 x8_2 x11_3 (x13_4.set (x90_4 : Int).toNat t191) (y180.length : Int) (wrap64 (x90_4 + 1))) else (none)) else (none)) = some (r1, r2, r3) := H
                  have A54 := Aside0.mk A540; clear A540
                  by_cases c55 : 0 ≤ x90_4; rotate_left
                  · rw [if_neg c55] at H; exact absurd H (by simp)
                  rw [if_pos c55] at H; have c55b0 : decide (0 ≤ x90_4) = true := decide_eq_true c55; clear c55
                  by_cases c56 : x90_4 < (x13_4.length : Int); rotate_left
                  · rw [if_neg c56] at H; exact absurd H (by simp)
                  rw [if_pos c56] at H; have c56b0 : decide (x90_4 < (x13_4.length : Int)) = true := decide_eq_true c56
                  (try (have c56b0z0 := c56b0; rw [hl13_4] at c56b0z0))
                  clear c56
                  obtain ⟨y192, hy192⟩ : ∃ y_ : List Int, y_ = (x13_4.set (x90_4 : Int).toNat t191) := ⟨_, rfl⟩
                  replace H : (resamp_Sampler_Run.l2 k5 t160 t161 x8_2 x11_3 y192 (y180.length : Int) (wrap64 (x90_4 + 1))) = some (r1, r2, r3) := by first | (rw [hy192]; with_reducible exact H) | (have H2_ := (Option.bind_some _ _).symm.trans H; rw [hy192]; with_reducible exact H2_) | (have H2_ := (Option.bind_some _ _).symm.trans H; with_reducible exact H2_) | with_reducible exact H | (rw [hy192]; exact H) | exact H
                  have Ny192 := Aside0.mk hy192; clear hy192; have H' := Aside0.mk H; clear H
                  go_wp2_with (first | ((with_reducible refine gate_callee (f := 23) rfl ?_); refine goesL_ (some 130) rfl rfl Try.func23 (by kernel_rfl) rfl #[.int .i64 (x17_5 / 32768)] rfl (by (try simp only [List.map_toArray, List.map_cons, List.map_nil]); first | done | rfl | (simp only [List.length_drop, List.length_take]; rfl)) ?_; (with_reducible refine (fix_Sat16.calls k5 (x17_5 / 32768) t191 _ A54.out).mono ?_); rintro e w' ⟨rfl, ⟨nd, rfl⟩⟩; refine ⟨_, rfl, ?_⟩; (try (rw [drewN_self wr]; generalize hq_ : World.drewN wr _ = wr; have n0_ : Aside0 (Kd.N (Kd.slice 2 (Kd.int .i64)) 27 wr w.heap.size (fun k_ => some k_ ≠ (.slice Ao40 x13_4.length co40 : Value).ownBlock ∧ some k_ ≠ (u8 : Value).ownBlock) (.slice (some ad188) x11_3.length co25) x11_3) := ⟨by rw [← hq_]; exact (by (with_reducible repeat (first | apply Kd.N_alloc | apply Kd.N_drewN | apply Kd.N_drew)); exact Kd.N_mono HO_11.out (fun _ hk => ⟨hk.2, hk.1⟩))⟩; have n1_ : Aside0 (Kd.R (Kd.int .i64) 2 wr w.heap.size (fun k_ => some k_ ≠ (u8 : Value).ownBlock) (.slice Ao40 x13_4.length co40) x13_4) := ⟨by rw [← hq_]; exact (by (with_reducible repeat first | apply Kd.R_alloc | apply Kd.R_drewN | apply Kd.R_drew); exact HO_13.out)⟩; have n2_ : Aside0 (Kd.R (Kd.int .i64) 2 wr w.heap.size (fun k_ => some k_ ≠ (.slice Ao40 x13_4.length co40 : Value).ownBlock) u8 x8_2) := ⟨by rw [← hq_]; exact (by (with_reducible repeat first | apply Kd.R_alloc | apply Kd.R_drewN | apply Kd.R_drew); exact HO_8.out)⟩; have n3_ : Aside0 (Below w.heap.size w wr) := ⟨by rw [← hq_]; exact (by repeat (with_reducible first | exact HB.out | apply below_alloc | apply pw_below_drewN | apply below_drew1))⟩; have n4_ : Aside0 (Kd.C (Kd.int .i64) wr A188_0 (rd_L1 x11_3 (ji43)).length (rd_L1 x11_3 (ji43))) := ⟨by rw [← hq_]; exact (by repeat (first | (with_reducible exact HR188_0.out) | (with_reducible refine Kd.C_alloc ?_ _) | (with_reducible refine Kd.C_drewN ?_ _) | (with_reducible refine Kd.C_drew ?_) | exact HR188_0.out))⟩; clear HO_11 HO_13 HO_8 HB HR188_0 hq_; have HO_11 := n0_; have HO_13 := n1_; have HO_8 := n2_; have HB := n3_; have HR188_0 := n4_; clear n0_ n1_ n2_ n3_ n4_)); have p57 : 0 ≤ (x90_4 : Int) := of_decide_eq_true (by first | (with_reducible assumption) | assumption); have q57 : (x90_4 : Int) < ((x13_4.length : Int) : Int) := of_decide_eq_true (by first | (with_reducible assumption) | assumption); obtain ⟨go57, co57, eo57, gb57, gl57, cl57, HG57⟩ := Kd.R_form HO_13.out (by omega); (first | cases eo57 | (injection eo57 with ea_ en_ ec_; (first | subst ea_ | (injection ea_ with ea_; subst ea_)); subst ec_; clear en_)); have GB57 := Aside0.mk gb57; have GG57 := Aside0.mk HG57; clear gb57 gl57 HG57; obtain ⟨hx57_0, hf57_0⟩ := Kd.R_celln 0 HO_13.out (x90_4 : Int) p57 q57; replace p57 := eq_true p57; replace q57 := eq_true q57; obtain ⟨hy58_, hz58_⟩ := Kd.R_celln 0 HO_13.out (x90_4 : Int) (of_decide_eq_true (by first | (with_reducible assumption) | assumption)) (of_decide_eq_true (by first | (with_reducible assumption) | assumption)); have HP58 := Kd.R_putg HO_13.out (x90_4 : Int) t191) | ((with_reducible refine gate_store (t := 2) (p := 131) rfl ?_); refine store_event (t := 2) (p := 131) (v := ?vo_w59) (w1 := (wr.setCell ⟨go57, (x90_4 : Int).toNat, none⟩ (.int .i64 t191))) ?hg ?ho ?hn ?hr ?_; (case ho => rfl); (case hg => rfl); (case hn => rfl); (case hr => first | (go_simp; done) | (go_simp; rfl)); intro w59 hw; have hg : wr.grownBy w59 (some go57) := (by rw [hw]; exact HP58.2); have hp_ : Kd.R (Kd.int .i64) 2 w59 w.heap.size (fun k_ => some k_ ≠ (u8 : Value).ownBlock) (.slice (some ⟨go57, 0, none⟩) x13_4.length co40) y192 := (by rw [hw, Ny192.out]; exact HP58.1); clear HP58; have n0_ := Aside0.mk (Kd.R_after (v := (.slice (some ⟨go57, 0, none⟩) x13_4.length co40)) (v1 := (.slice (some ⟨go57, 0, none⟩) x13_4.length co40)) (ok := (fun _ => True)) (by (with_reducible repeat first | apply Kd.R_alloc | apply Kd.R_drewN | apply Kd.R_drew); exact Kd.R_mono HO_8.out (fun _ hk => ⟨trivial, hk⟩)) hg (.inl rfl)); have n1_ := Aside0.mk (Kd.N_afterv (v := (.slice (some ⟨go57, 0, none⟩) x13_4.length co40)) (v1 := (.slice (some ⟨go57, 0, none⟩) x13_4.length co40)) (ok := (fun k_ => some k_ ≠ (u8 : Value).ownBlock)) (by (with_reducible repeat (first | apply Kd.N_alloc | apply Kd.N_drewN | apply Kd.N_drew)); first | exact HO_11.out | exact Kd.N_mono HO_11.out (fun _ hk => ⟨hk.2, hk.1⟩)) hg (.inl rfl)); have n2_ := Aside0.mk (hp_); have n3_ := Aside0.mk ((by rw [hw]; exact below_set (HB.out) GB57.out : Below w.heap.size w w59)); clear HO_8; clear HO_11; clear HO_13; clear HB; have HO_8 := n0_; have HO_11 := n1_; have HO_13 := n2_; have HB := n3_; clear n0_ n1_ n2_ n3_; clear hg hw hp_))
                  (try simp only [← hl13_4])
                  go_roundg k5
                  case measure => have := HJ5.out; have := HK2.out; have := HK3.out; have := HK4.out; have := HK5.out; omega
                  case rel => exact ⟨(y192), (wrap64 (x90_4 + 1)), (by first | rfl | (simp; done) | (simp [*]; done)), H', ⟨by have := HJ5.out; have := HK2.out; have := HK3.out; have := HK4.out; have := HK5.out; omega⟩, ⟨by (try simp only [hl11_3]); (try simp only [hl13_4]); (with_reducible repeat first | apply Kd.R_alloc | apply Kd.R_drewN | apply Kd.R_drew); exact Kd.R_mono HO_8.out (fun _ hk => hk.2)⟩, ⟨by (try simp only [hl11_3]); (try simp only [hl13_4]); (with_reducible repeat (first | apply Kd.N_alloc | apply Kd.N_drewN | apply Kd.N_drew)); exact HO_11.out⟩, ⟨by (try simp only [hl11_3]); (try simp only [hl13_4]); (with_reducible repeat first | apply Kd.R_alloc | apply Kd.R_drewN | apply Kd.R_drew); exact HO_13.out⟩, ⟨by repeat (with_reducible first | exact HB.out | apply below_alloc | apply pw_below_drewN | apply below_drew1)⟩⟩
             ·
              rw [if_neg c41] at H; have c41b0 : decide (x90_4 < (y180.length : Int)) = false := decide_eq_false c41
              (try (have c41b0z0 := c41b0; rw [hl13_4] at c41b0z0))
              clear c41
              obtain ⟨ji60, hji60⟩ : ∃ j_ : Int, (wrap64 ((x8_2.length : Int) - 16)) = j_ := ⟨_, rfl⟩
              replace H : (if 0 ≤ (ji60) then (if (ji60) ≤ (x8_2.length : Int) then (some (x13_4, 0, x8_2)) else (none)) else (none)) = some (r1, r2, r3) := by first | (rw [hji60] at H; exact H) | (simp only [hji60] at H ⊢; exact H)
              have hji60w : (IntKind.i64.wrap ((x8_2.length : Int) - 16)) = ji60 := (i64_w _).trans hji60
              by_cases c61 : 0 ≤ (ji60); rotate_left
              · rw [if_neg c61] at H; exact absurd H (by simp)
              rw [if_pos c61] at H; have c61b0 := eq_true c61; have c61b1 : decide (0 ≤ (ji60)) = true := decide_eq_true c61; clear c61
              by_cases c62 : (ji60) ≤ (x8_2.length : Int); rotate_left
              · rw [if_neg c62] at H; exact absurd H (by simp)
              rw [if_pos c62] at H; have c62b0 := eq_true c62; have c62b1 : decide ((ji60) ≤ (x8_2.length : Int)) = true := decide_eq_true c62
              (try (have c62b1z0 := c62b1; rw [hl13_4] at c62b1z0))
              clear c62
              obtain ⟨y183, hy183⟩ : ∃ y_ : List Int, y_ = (x8_2.drop ((ji60) : Int).toNat) := ⟨_, rfl⟩
              replace H : (some (x13_4, 0, x8_2)) = some (r1, r2, r3) := by first | (rw [hy183]; with_reducible exact H) | (have H2_ := (Option.bind_some _ _).symm.trans H; rw [hy183]; with_reducible exact H2_) | (have H2_ := (Option.bind_some _ _).symm.trans H; with_reducible exact H2_) | with_reducible exact H | (rw [hy183]; exact H) | exact H
              have Ny183 := Aside0.mk hy183; clear hy183
              simp only [Option.some.injEq, Prod.mk.injEq] at H
              obtain ⟨rfl, rfl, rfl⟩ := H
              try go_wp2
              have n0_ := Aside0.mk (Kd.R_drew HO_8.out)
              have n1_ := Aside0.mk (Kd.N_drew HO_11.out)
              have n2_ := Aside0.mk (Kd.R_drew HO_13.out)
              have n3_ := Aside0.mk (below_drew1 HB.out)
              clear HO_8; clear HO_11; clear HO_13; clear HB
              have HO_8 := n0_
              have HO_11 := n1_
              have HO_13 := n2_
              have HB := n3_
              clear n0_ n1_ n2_ n3_
              obtain ⟨Ao64, co64, eo64⟩ := Kd.R_slice HO_8.out
              (first | subst eo64 | (injection eo64 with f1_ f2_ f3_; have f4_ := f1_.symm; have f5_ := f3_.symm; clear f1_ f2_ f3_; subst f4_; subst f5_))
              have q65 : ((ji60) : Int) ≤ ((x8_2.length : Int) : Int) := of_decide_eq_true (by first | (with_reducible assumption) | assumption)
              obtain ⟨i065, hi065, _, hsz65, _⟩ := info_parts info2
              have hroom65 : x8_2.length ≤ co64 := (Kd.R_reads' HO_8.out).2.1
              have hC65 : Kd.F (Kd.int .i64) _ _ Ao64 x8_2.length x8_2 := (Kd.V_at (base := w.heap.size) (Kd.R_V (Kd.R_apart' (HO_8.out) (Kd.N_typed HO_11.out) (by decide)))).2.2
              have q065 : (0 : Int) ≤ ((ji60) : Int) := of_decide_eq_true (by first | (with_reducible assumption) | assumption)
              have hcut65 := cut_from (P := Try.prog) 27 2 .i64 Try.underlying27 hi065 1 hsz65 Ao64 x8_2.length co64 (ji60) q065 q65
              have hr65 := Kd.F_cut (m := ((ji60) : Int).toNat) (c := co64) hC65 (by omega) hroom65
              obtain ⟨A65, hA65⟩ : ∃ A1, A1 = (if co64 = ((ji60) : Int).toNat then Ao64 else (Ao64 : Option Addr).map (·.add (((ji60) : Int).toNat * 1))) := ⟨_, rfl⟩
              obtain ⟨c65, hc65⟩ : ∃ c1, c1 = co64 - ((ji60) : Int).toNat := ⟨_, rfl⟩
              have hy65 : y183.length = x8_2.length - ((ji60) : Int).toNat := (by rw [Ny183.out, List.length_drop] <;> omega)
              rw [show (x8_2).drop ((ji60) : Int).toNat = y183 from Ny183.out.symm] at hr65
              replace hr65 : Kd.F (Kd.int .i64) _ _ A65 y183.length y183 := (by rw [hA65]; exact hr65)
              rw [← hy65, ← hA65, ← hc65] at hcut65
              have HO187 := Aside0.mk (show Kd.V (Kd.int .i64) 2 _ w.heap.size _ (.slice A65 y183.length c65) y183 from Kd.V_mk (by rw [hy65, hc65]; exact Nat.sub_le_sub_right hroom65 _) hr65)
              have HC187 := Aside0.mk (show y183.length ≤ c65 from by rw [hy65, hc65]; exact Nat.sub_le_sub_right hroom65 _)
              clear hr65 hC65 hroom65 hi065 hsz65 hc65; have KY65 := Aside0.mk hy65; have KA65 := Aside0.mk hA65; clear hy65 hA65; replace q65 := eq_true q65
              refine start_ (n := 10) (S := fun w' => True) (ds := [9]) #[false, false, false, false, false, false, false, false, false, false] (by kernel_rfl) rfl rfl trivial (fun hHeld => ?_); refine with_tabW resamp_Sampler_Run.tab29 resamp_Sampler_Run.bits29 (fun HT_ HW_ => ?_)
              generalize wr.drew = w63 at HO_8 HO_11 HO_13 HB HO187 hHeld ⊢
              refine pure_ (i := 0) (N := some 133) (v := ?_) (a' := ?_) #[true, false, false, false, false, false, false, false, false, false] rfl rfl (any_of HT_.out (by kernel_rfl)) (fun _ _ _ h => h) (Or.inl ⟨by rfl, ?_⟩) ?_ ?_
              rotate_left
              ·
               intro w'
               go_simp
               with_reducible rfl
              rotate_left
              ·
               simp only [Act.put, List.setIfInBounds_toArray, List.set_cons_zero, List.set_cons_succ, i64_w, i32_w]
               rfl
              refine pure_ (i := 1) (N := some 134) (v := ?_) (a' := ?_) #[true, true, false, false, false, false, false, false, false, false] rfl rfl (any_of HT_.out (by kernel_rfl)) (fun _ _ _ h => h) (Or.inl ⟨by rfl, ?_⟩) ?_ ?_
              rotate_left
              ·
               intro w'
               go_simp
               with_reducible rfl
              rotate_left
              ·
               simp only [Act.put, List.setIfInBounds_toArray, List.set_cons_zero, List.set_cons_succ, i64_w, i32_w]
               rfl
              refine pure_ (i := 2) (N := some 135) (v := ?_) (a' := ?_) #[true, true, true, false, false, false, false, false, false, false] rfl rfl (any_of HT_.out (by kernel_rfl)) (fun _ _ _ h => h) (Or.inl ⟨by rfl, ?_⟩) ?_ ?_
              rotate_left
              ·
               intro w'
               go_simp
               with_reducible rfl
              rotate_left
              ·
               simp only [Act.put, List.setIfInBounds_toArray, List.set_cons_zero, List.set_cons_succ, i64_w, i32_w]
               rfl
              refine pure_ (i := 3) (N := some 136) (v := ?_) (a' := ?_) #[true, true, true, true, false, false, false, false, false, false] rfl rfl (any_of HT_.out (by kernel_rfl)) (fun _ _ _ h => h) (Or.inl ⟨by rfl, ?_⟩) ?_ ?_
              rotate_left
              ·
               intro w'
               go_simp
               with_reducible rfl
              rotate_left
              ·
               simp only [Act.put, List.setIfInBounds_toArray, List.set_cons_zero, List.set_cons_succ, i64_w, i32_w]
               rfl
              refine pure_ (i := 4) (N := some 137) (v := ?_) (a' := ?_) #[true, true, true, true, true, false, false, false, false, false] rfl rfl (any_of HT_.out (by kernel_rfl)) (fun _ _ _ h => h) (Or.inl ⟨by rfl, ?_⟩) ?_ ?_
              rotate_left
              ·
               intro w'
               go_simp
               with_reducible rfl
              rotate_left
              ·
               simp only [Act.put, List.setIfInBounds_toArray, List.set_cons_zero, List.set_cons_succ, i64_w, i32_w]
               rfl
              refine pure_ (i := 5) (N := some 138) (v := ?_) (a' := ?_) #[true, true, true, true, true, true, false, false, false, false] rfl rfl (any_of HT_.out (by kernel_rfl)) (fun _ _ _ h => h) (Or.inl ⟨by rfl, ?_⟩) ?_ ?_
              rotate_left
              ·
               intro w'
               go_simp
               with_reducible rfl
              rotate_left
              ·
               simp only [Act.put, List.setIfInBounds_toArray, List.set_cons_zero, List.set_cons_succ, i64_w, i32_w]
               rfl
              refine pure_ (i := 6) (N := some 139) (v := ?_) (a' := ?_) #[true, true, true, true, true, true, true, false, false, false] rfl rfl (any_of HT_.out (by kernel_rfl)) (fun _ _ _ h => h) (Or.inl ⟨by rfl, ?_⟩) ?_ ?_
              rotate_left
              ·
               intro w'
               go_simp
               with_reducible rfl
              rotate_left
              ·
               simp only [Act.put, List.setIfInBounds_toArray, List.set_cons_zero, List.set_cons_succ, i64_w, i32_w]
               rfl
              refine pure_ (i := 7) (N := some 140) (v := ?_) (a' := ?_) #[true, true, true, true, true, true, true, true, false, false] rfl rfl (any_of HT_.out (by kernel_rfl)) (fun _ _ _ h => h) (Or.inl ⟨by rfl, ?_⟩) ?_ ?_
              rotate_left
              ·
               intro w'
               go_simp
               with_reducible rfl
              rotate_left
              ·
               simp only [Act.put, List.setIfInBounds_toArray, List.set_cons_zero, List.set_cons_succ, i64_w, i32_w]
               rfl
              refine pure_ (i := 8) (N := some 141) (v := ?_) (a' := ?_) #[true, true, true, true, true, true, true, true, true, false] rfl rfl (any_of HT_.out (by kernel_rfl)) (fun _ _ _ h => h) (Or.inl ⟨by rfl, ?_⟩) ?_ ?_
              rotate_left
              ·
               intro w'
               go_simp
               with_reducible rfl
              rotate_left
              ·
               simp only [Act.put, List.setIfInBounds_toArray, List.set_cons_zero, List.set_cons_succ, i64_w, i32_w]
               rfl
              refine last_ (i := 9) (N := some 142) #[true, true, true, true, true, true, true, true, true, true] rfl rfl (one_of HT_.out (by kernel_rfl)) (by decide) (fun K hK => ?_)
              have hlen : y183.length = 16 := run_len HO_8.out KY65.out hji60 (of_eq_true c61b0)
              have hC := Kd.C_drop (m := (ji60 : Int).toNat) (c := co64) (Kd.R_reads' HO_8.out).2.2 (by have := KY65.out; have := of_eq_true c62b0; omega) (Kd.R_reads' HO_8.out).2.1
              rw [show x8_2.drop (ji60 : Int).toNat = y183 from Ny183.out.symm] at hC
              have hA : (if co64 = (ji60 : Int).toNat then Ao64 else (Ao64 : Option Addr).map (·.add ((ji60 : Int).toNat * (Kd.int IntKind.i64).sz))) = A65 := KA65.out.symm
              rw [hA] at hC
              obtain ⟨adz, eadz, hsrc⟩ := cells_of hC (by omega)
              have hgx : w63.heap[g]? = some (.cells (cellsS a0 a1 l2) 46 (0, 0)) := (HB.out.block g GB.out).trans GH.out.2
              subst eadz
              refine value_ (w1 := w63.setRow g ((cellsS a0 a1 l2).toList.take 2 ++ y183.map (Value.int .i64) ++ (cellsS a0 a1 l2).toList.drop (2 + (y183.map (Value.int .i64)).length)).toArray) (v := goInt (y183.map (Value.int .i64)).length) (by rfl) rfl ?_ ?_
              ·
               have hrun := run_copy_row (P := Try.prog) w63 27 27 3 2 g 2 16 16 adz y183.length c65 (cellsS a0 a1 l2) 46 (y183.map (Value.int .i64)) Try.underlying27 (by kernel_rfl) hgx (by rw [List.length_map, hlen]; rfl) hsrc (by have := HL2.out; simp [cellsS, hlen]; omega) (by simp [Value.oneCell'])
               exact run_copy_event hrun rfl rfl rfl
              refine hK.out _ _ ?_
              clear hK K
              refine norm_ (a' := ?_) ?_ ?_
              rotate_left
              ·
               show Act.put _ (some 142) _ = _
               simp only [Act.put, List.setIfInBounds_toArray, List.set_cons_zero, List.set_cons_succ, i64_w, i32_w]
               rfl
              refine done_ (done_of HT_.out (by kernel_rfl)) ?_
              try go_wp2
              go_ret2
              have hk : Keeps w63 (w63.setRow g ((cellsS a0 a1 l2).toList.take 2 ++ y183.map (Value.int .i64) ++ (cellsS a0 a1 l2).toList.drop (2 + (y183.map (Value.int .i64)).length)).toArray) g := Keeps.of_row _
              refine ⟨_, rfl, R_keeps HO_13.out hk (fun k_ hk_ => by have := Kd.R_base HO_13.out k_ hk_; have := GB.out; omega), ⟨Keeps.trans HB.out hk, fun h_ => absurd h_ (by decide), fun _ => ⟨?_, ?_⟩⟩⟩
              · rw [← run_drop HO_8.out KY65.out hji60 (of_eq_true c61b0) Ny183.out]; exact hlen
              · rw [← run_drop HO_8.out KY65.out hji60 (of_eq_true c61b0) Ny183.out]
                refine (setRow_heap w63 g _ _ 46 _ hgx).trans ?_
                rw [cells_splice a0 a1 l2 y183 HL2.out hlen]

end Go.Proofs.Ytocnpnpedmapbaa.MA
