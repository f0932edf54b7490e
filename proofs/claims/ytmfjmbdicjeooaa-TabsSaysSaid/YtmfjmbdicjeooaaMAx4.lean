/- Functions of the program as plain Lean functions, and that the code comes to their answers. No condition. -/
import Derived.Test.YtmfjmbdicjeooaaMAx0
import Derived.Test.YtmfjmbdicjeooaaMAx2
import Derived.Test.YtmfjmbdicjeooaaMAx3
namespace Go.Proofs.Ytmfjmbdicjeooaa.MA
open Go.RowKit Go.Proofs.YtmfjmbdicjeooaaW.PrintWords Go.Proofs.YtmfjmbdicjeooaaW.PrintLast Go.Proofs.YtmfjmbdicjeooaaW.PrintMore
attribute [local go_sem] max2_int min2_int max_two min_two max_three min_three max_four min_four
set_option linter.unusedVariables false
set_option linter.unusedSimpArgs false

/-! ### tabs_Good: function 22 -/
mutual
def tabs_Good.j0 : Nat → List Int → Bool → Option (Bool)
 | 0, _, _ => none
 | k + 1, x0, x26 => if x26 = true then (some false) else (tabs_Good.l0 k x0 1)
def tabs_Good.l0 : Nat → List Int → Int → Option (Bool)
 | 0, _, _ => none
 | k + 1, x0, x3 => if x3 < (x0.length : Int) then (if 0 ≤ x3 then (if 0 ≤ (wrap64 (x3 - 1)) then (if (wrap64 (x3 - 1)) < (x0.length : Int) then (if (rd x0 x3) ≥ (rd x0 (wrap64 (x3 - 1))) then (some false) else (tabs_Good.l0 k x0 (wrap64 (x3 + 1)))) else (none)) else (none)) else (none)) else (some true)
end
def tabs_Good.f (k : Nat) (l0 : List Int) : Option (Bool) := if (l0.length : Int) < 1 then (tabs_Good.j0 k l0 true) else (if (l0.length : Int) > 256 then (tabs_Good.j0 k l0 true) else (if 0 ≤ (wrap64 ((l0.length : Int) - 1)) then (if (wrap64 ((l0.length : Int) - 1)) < (l0.length : Int) then (if (rd l0 (wrap64 ((l0.length : Int) - 1))) = 0 then (if 0 < (l0.length : Int) then (tabs_Good.j0 k l0 (decide ((rd l0 0) ≥ 256))) else (none)) else (tabs_Good.j0 k l0 true)) else (none)) else (none)))
set_option maxHeartbeats 8000000 in
set_option maxRecDepth 100000 in
theorem tabs_Good.calls (k : Nat) (A0 : Option Addr) (c0 : Nat) (l0 : List Int) (r : Bool) (w : World) (hr0 : Kd.C (Kd.int .i64) w A0 l0.length l0) (hc0 : l0.length ≤ c0) (h : tabs_Good.f k l0 = some r) :
  Calls Try.prog 22 #[.slice A0 l0.length c0] w fun e w' => e = .returned (.bool r) ∧ Drawn0 w w' := by
 have HR0 := Aside0.mk hr0; have HC0 := Aside0.mk hc0; clear hr0 hc0
 have H : (if (l0.length : Int) < 1 then (tabs_Good.j0 k l0 true) else (if (l0.length : Int) > 256 then (tabs_Good.j0 k l0 true) else (if 0 ≤ (wrap64 ((l0.length : Int) - 1)) then (if (wrap64 ((l0.length : Int) - 1)) < (l0.length : Int) then (if (rd l0 (wrap64 ((l0.length : Int) - 1))) = 0 then (if 0 < (l0.length : Int) then (tabs_Good.j0 k l0 (decide ((rd l0 0) ≥ 256))) else (none)) else (tabs_Good.j0 k l0 true)) else (none)) else (none)))) = some r := h
 clear h; have HC2 := Aside0.mk H; clear H
 go_enter Try.func22, Try.ntmps22
 go_upto_region 1 with (fail)
 repeat (go_quiet (fail); go_upto_region 1 with (fail))
 go_cut [26] (fun v26 wc => ∃ (kq : Nat) (x26_1 : Bool), v26 = .bool x26_1 ∧ Aside0 (tabs_Good.j0 kq l0 x26_1 = some r) ∧ Aside0 (kq ≤ k) ∧ Drawn0 w wc)
 case first =>
  have H := HC2.out; clear HC2
  by_cases c3 : (l0.length : Int) < 1
  ·
   rw [if_pos c3] at H; have c3b0 : decide ((l0.length : Int) < 1) = true := decide_eq_true c3; have c3b1 : decide (l0.length < 1) = true := decide_eq_true (by omega); clear c3
   (first | rw [c3b0] | (simp only [i64_w, i32_w]; rw [c3b0]) | skip)
   have H' := Aside0.mk H; clear H
   go_wp2
   repeat (go_quiet (fail); try go_wp2)
   go_meet
   case rel => exact ⟨_, (true), (by first | rfl | (simp; done) | (simp [*]; done)), H', ⟨by first | omega | exact Nat.le_refl _⟩, by repeat (first | exact Drawn0.refl _ | apply Drawn0.step)⟩
  ·
   rw [if_neg c3] at H; have c3b0 : decide ((l0.length : Int) < 1) = false := decide_eq_false c3; have c3b1 : decide (l0.length < 1) = false := decide_eq_false (by omega); clear c3
   (first | rw [c3b0] | (simp only [i64_w, i32_w]; rw [c3b0]) | skip)
   by_cases c4 : (l0.length : Int) > 256
   ·
    rw [if_pos c4] at H; have c4b0 : decide (256 < (l0.length : Int)) = true := decide_eq_true c4; have c4b1 : decide (256 < l0.length) = true := decide_eq_true (by omega); clear c4; have H' := Aside0.mk H; clear H
    go_wp2
    repeat (go_quiet (fail); try go_wp2)
    go_meet
    case rel => exact ⟨_, (true), (by first | rfl | (simp; done) | (simp [*]; done)), H', ⟨by first | omega | exact Nat.le_refl _⟩, by repeat (first | exact Drawn0.refl _ | apply Drawn0.step)⟩
   ·
    rw [if_neg c4] at H; have c4b0 : decide (256 < (l0.length : Int)) = false := decide_eq_false c4; have c4b1 : decide (256 < l0.length) = false := decide_eq_false (by omega); clear c4
    obtain ⟨ji5, hji5⟩ : ∃ j_ : Int, (wrap64 ((l0.length : Int) - 1)) = j_ := ⟨_, rfl⟩
    replace H : (if 0 ≤ (ji5) then (if (ji5) < (l0.length : Int) then (if (rd l0 (ji5)) = 0 then (if 0 < (l0.length : Int) then (tabs_Good.j0 k l0 (decide ((rd l0 0) ≥ 256))) else (none)) else (tabs_Good.j0 k l0 true)) else (none)) else (none)) = some r := by first | (rw [hji5] at H; exact H) | (simp only [hji5] at H ⊢; exact H)
    have hji5w : (IntKind.i64.wrap ((l0.length : Int) - 1)) = ji5 := (i64_w _).trans hji5
    by_cases c6 : 0 ≤ (ji5); rotate_left
    · rw [if_neg c6] at H; exact absurd H (by simp)
    rw [if_pos c6] at H; have c6b0 : decide (0 ≤ (ji5)) = true := decide_eq_true c6; clear c6
    by_cases c7 : (ji5) < (l0.length : Int); rotate_left
    · rw [if_neg c7] at H; exact absurd H (by simp)
    rw [if_pos c7] at H; have c7b0 : decide ((ji5) < (l0.length : Int)) = true := decide_eq_true c7; clear c7
    by_cases c8 : (rd l0 (ji5)) = 0
    ·
     rw [if_pos c8] at H; have c8b0 : ((rd l0 (ji5)) == 0) = true := beq_iff_eq.mpr c8; have c8b1 : ((rd l0 (ji5)) != 0) = false := bne_eq_false_iff_eq.mpr c8; clear c8
     by_cases c9 : 0 < (l0.length : Int); rotate_left
     · rw [if_neg c9] at H; exact absurd H (by simp)
     rw [if_pos c9] at H; have c9b0 : decide (0 < (l0.length : Int)) = true := decide_eq_true c9; have c9b1 : decide (0 < l0.length) = true := decide_eq_true (by omega); clear c9; have H' := Aside0.mk H; clear H; have p194 : 0 ≤ ((ji5) : Int) := of_decide_eq_true (by first | (with_reducible assumption) | assumption); have q194 : (ji5) < (l0.length : Int) := of_decide_eq_true (by first | (with_reducible assumption) | assumption)
     obtain ⟨ad194, e194, hx194_0⟩ := Kd.at_int HR0.out (ji5) p194 q194
     cases e194; replace p194 := eq_true p194; replace q194 := eq_true q194
     have p195 : 0 ≤ (0 : Int) := (by omega)
     have q195 : 0 < (l0.length : Int) := of_decide_eq_true (by first | (with_reducible assumption) | assumption)
     obtain ⟨ad195, e195, hx195_0⟩ := Kd.at_int HR0.out 0 p195 q195
     obtain rfl : ad194 = ad195 := (by injection e195)
     have qi195 : (0 < l0.length) = True := eq_true (by omega)
     (try rw [show ((0 : Int)).toNat = 0 from rfl] at hx195_0); (try rw [Addr.add_zero'] at hx195_0); replace p195 := eq_true p195; replace q195 := eq_true q195
     go_wp2
     repeat (go_quiet (fail); try go_wp2)
     go_meet
     case rel => exact ⟨_, (decide ((rd l0 0) ≥ 256)), (by first | rfl | (simp; done) | (simp [*]; done)), H', ⟨by first | omega | exact Nat.le_refl _⟩, by repeat (first | exact Drawn0.refl _ | apply Drawn0.step)⟩
    ·
     rw [if_neg c8] at H; have c8b0 : ((rd l0 (ji5)) == 0) = false := beq_eq_false_iff_ne.mpr c8; have c8b1 : ((rd l0 (ji5)) != 0) = true := bne_iff_ne.mpr c8; have H' := Aside0.mk H; clear H; have p194 : 0 ≤ ((ji5) : Int) := of_decide_eq_true (by first | (with_reducible assumption) | assumption); have q194 : (ji5) < (l0.length : Int) := of_decide_eq_true (by first | (with_reducible assumption) | assumption)
     obtain ⟨ad194, e194, hx194_0⟩ := Kd.at_int HR0.out (ji5) p194 q194
     cases e194; replace p194 := eq_true p194; replace q194 := eq_true q194
     go_wp2
     repeat (go_quiet (fail); try go_wp2)
     go_meet
     case rel => exact ⟨_, (true), (by first | rfl | (simp; done) | (simp [*]; done)), H', ⟨by first | omega | exact Nat.le_refl _⟩, by repeat (first | exact Drawn0.refl _ | apply Drawn0.step)⟩
 case rest =>
  clear HC2; (try clear p1); (try clear q1); (try clear hx1); (try clear qi1); (try clear c2); (try clear p2); (try clear c3); (try clear c3b0); (try clear c3b0z0); (try clear c3b1); (try clear c3b1z0); (try clear c4); (try clear c4b0); (try clear c4b0z0); (try clear c4b1); (try clear c4b1z0); (try clear c6); (try clear c6b0); (try clear c6b0z0); (try clear p6); (try clear c7); (try clear c7b0); (try clear c7b0z0); (try clear c8); (try clear c8b0); (try clear c8b0z0); (try clear c8b1); (try clear c8b1z0); (try clear c9); (try clear c9b0); (try clear c9b0z0); (try clear c9b1); (try clear c9b1z0); (try clear hx194_0); (try clear hx195_0); (try clear p194); (try clear p195); (try clear q194); (try clear q195)
  obtain ⟨kq, x26_1, rfl, HA, HJ1, ⟨mc1, rfl⟩⟩ := hcut
  cases kq with
  | zero => exact absurd HA.out (by simp [tabs_Good.j0])
  | succ kj1 =>
   have H := HA.out; clear HA
   simp only [tabs_Good.j0] at H
   by_cases c10 : x26_1 = true
   ·
    subst c10
    have H1 : (some false) = some r := by rw [if_pos rfl] at H; exact H
    clear H; have H := H1; clear H1
    obtain rfl := Option.some.inj H
    go_wp2
    repeat (go_quiet (fail); try go_wp2)
    go_ret
    exact ⟨by first | rfl | (simp; done) | (simp [*]; done), by repeat (first | exact Drawn0.refl _ | apply Drawn0.step)⟩
   ·
    replace c10 := Bool.eq_false_iff.mpr c10
    subst c10
    have H1 : (tabs_Good.l0 kj1 l0 1) = some r := by rw [if_neg (show ¬ (false = true) by decide)] at H; exact H
    clear H; have H := H1; clear H1; have H' := Aside0.mk H; clear H
    go_wp2
    repeat (go_quiet (fail); try go_wp2)
    go_loopg [3] kj1 (fun kq v3 w' => ∃ (x3_2 : Int), v3 = .int .i64 x3_2 ∧ Aside0 (tabs_Good.l0 kq l0 x3_2 = some r) ∧ Aside0 (kq ≤ kj1) ∧ Drawn0 w w')
    case atStart => exact ⟨(1), (by first | rfl | (simp; done) | (simp [*]; done)), H', ⟨Nat.le_refl _⟩, by repeat (first | exact Drawn0.refl _ | apply Drawn0.step)⟩
    case round =>
     clear H'
     (try clear c1); (try clear p1); (try clear q1); (try clear hx1); (try clear qi1); (try clear c2); (try clear p2); (try clear c3); (try clear c3b0); (try clear c3b0z0); (try clear c3b1); (try clear c3b1z0); (try clear c4); (try clear c4b0); (try clear c4b0z0); (try clear c4b1); (try clear c4b1z0); (try clear c6); (try clear c6b0); (try clear c6b0z0); (try clear p6); (try clear c7); (try clear c7b0); (try clear c7b0z0); (try clear c8); (try clear c8b0); (try clear c8b0z0); (try clear c8b1); (try clear c8b1z0); (try clear c9); (try clear c9b0); (try clear c9b0z0); (try clear c9b1); (try clear c9b1z0); (try clear c10); (try clear hx194_0); (try clear hx195_0); (try clear p1); (try clear p194); (try clear p195); (try clear p2); (try clear p6); (try clear q1); (try clear q194); (try clear q195)
     obtain ⟨x3_2, rfl, HA, HK2, ⟨m2, rfl⟩⟩ := hrel
     cases gk with
     | zero => exact absurd HA.out (by simp [tabs_Good.l0])
     | succ k2 =>
      have H := HA.out; clear HA
      simp only [tabs_Good.l0] at H
      by_cases c11 : x3_2 < (l0.length : Int)
      ·
       rw [if_pos c11] at H; have c11b0 : decide (x3_2 < (l0.length : Int)) = true := decide_eq_true c11; clear c11
       by_cases c12 : 0 ≤ x3_2; rotate_left
       · rw [if_neg c12] at H; exact absurd H (by simp)
       rw [if_pos c12] at H; have c12b0 : decide (0 ≤ x3_2) = true := decide_eq_true c12; clear c12
       obtain ⟨ji13, hji13⟩ : ∃ j_ : Int, (wrap64 (x3_2 - 1)) = j_ := ⟨_, rfl⟩
       replace H : (if 0 ≤ (ji13) then (if (ji13) < (l0.length : Int) then (if (rd l0 x3_2) ≥ (rd l0 (ji13)) then (some false) else (tabs_Good.l0 k2 l0 (wrap64 (x3_2 + 1)))) else (none)) else (none)) = some r := by first | (rw [hji13] at H; exact H) | (simp only [hji13] at H ⊢; exact H)
       have hji13w : (IntKind.i64.wrap (x3_2 - 1)) = ji13 := (i64_w _).trans hji13
       by_cases c14 : 0 ≤ (ji13); rotate_left
       · rw [if_neg c14] at H; exact absurd H (by simp)
       rw [if_pos c14] at H; have c14b0 : decide (0 ≤ (ji13)) = true := decide_eq_true c14; clear c14
       by_cases c15 : (ji13) < (l0.length : Int); rotate_left
       · rw [if_neg c15] at H; exact absurd H (by simp)
       rw [if_pos c15] at H; have c15b0 : decide ((ji13) < (l0.length : Int)) = true := decide_eq_true c15; clear c15
       by_cases c16 : (rd l0 x3_2) ≥ (rd l0 (ji13))
       ·
        rw [if_pos c16] at H; have c16b0 : decide ((rd l0 (ji13)) ≤ (rd l0 x3_2)) = true := decide_eq_true c16; clear c16
        obtain rfl := Option.some.inj H
        have p196 : 0 ≤ (x3_2 : Int) := of_decide_eq_true (by first | (with_reducible assumption) | assumption); have q196 : x3_2 < (l0.length : Int) := of_decide_eq_true (by first | (with_reducible assumption) | assumption)
        obtain ⟨ad196, e196, hx196_0⟩ := Kd.at_int HR0.out x3_2 p196 q196
        cases e196; replace p196 := eq_true p196; replace q196 := eq_true q196; have p197 : 0 ≤ ((ji13) : Int) := of_decide_eq_true (by first | (with_reducible assumption) | assumption); have q197 : (ji13) < (l0.length : Int) := of_decide_eq_true (by first | (with_reducible assumption) | assumption)
        obtain ⟨ad197, e197, hx197_0⟩ := Kd.at_int HR0.out (ji13) p197 q197
        obtain rfl : ad196 = ad197 := (by injection e197)
        replace p197 := eq_true p197; replace q197 := eq_true q197
        go_wp2
        repeat (go_quiet (fail); try go_wp2)
        go_ret
        exact ⟨by first | rfl | (simp; done) | (simp only [← hji13] <;> (first | rfl | simp)) | (simp [*]; done), by repeat (first | exact Drawn0.refl _ | apply Drawn0.step)⟩
       ·
        rw [if_neg c16] at H; have c16b0 : decide ((rd l0 (ji13)) ≤ (rd l0 x3_2)) = false := decide_eq_false c16; clear c16; have H' := Aside0.mk H; clear H; have p196 : 0 ≤ (x3_2 : Int) := of_decide_eq_true (by first | (with_reducible assumption) | assumption); have q196 : x3_2 < (l0.length : Int) := of_decide_eq_true (by first | (with_reducible assumption) | assumption)
        obtain ⟨ad196, e196, hx196_0⟩ := Kd.at_int HR0.out x3_2 p196 q196
        cases e196; replace p196 := eq_true p196; replace q196 := eq_true q196; have p197 : 0 ≤ ((ji13) : Int) := of_decide_eq_true (by first | (with_reducible assumption) | assumption); have q197 : (ji13) < (l0.length : Int) := of_decide_eq_true (by first | (with_reducible assumption) | assumption)
        obtain ⟨ad197, e197, hx197_0⟩ := Kd.at_int HR0.out (ji13) p197 q197
        obtain rfl : ad196 = ad197 := (by injection e197)
        replace p197 := eq_true p197; replace q197 := eq_true q197
        go_wp2
        repeat (go_quiet (fail); try go_wp2)
        go_roundg k2
        case measure => have := HJ1.out; have := HK2.out; omega
        case rel => exact ⟨(wrap64 (x3_2 + 1)), (by first | rfl | (simp; done) | (simp [*]; done)), H', ⟨by have := HJ1.out; have := HK2.out; omega⟩, by repeat (first | exact Drawn0.refl _ | apply Drawn0.step)⟩
      ·
       rw [if_neg c11] at H; have c11b0 : decide (x3_2 < (l0.length : Int)) = false := decide_eq_false c11; clear c11
       obtain rfl := Option.some.inj H
       go_wp2
       repeat (go_quiet (fail); try go_wp2)
       go_ret
       exact ⟨by first | rfl | (simp; done) | (simp [*]; done), by repeat (first | exact Drawn0.refl _ | apply Drawn0.step)⟩

/-! ### tabs_Filters: function 23 -/
def tabs_Filters.f  : Option (Int) := some 8
set_option maxHeartbeats 8000000 in
set_option maxRecDepth 100000 in
theorem tabs_Filters.calls  (r : Int) (w : World) (h : tabs_Filters.f  = some r) :
  Calls Try.prog 23 #[] w fun e w' => e = .returned (.int .i64 r) ∧ Drawn0 w w' := by
 have H : (some 8) = some r := h
 clear h
 obtain rfl := Option.some.inj H
 go_enter Try.func23, Try.ntmps23
 go_wp2
 go_ret
 exact ⟨by first | rfl | (simp; done) | (simp [*]; done), by repeat (first | exact Drawn0.refl _ | apply Drawn0.step)⟩

theorem arrIdx (w : World) (x0 x1 x2 x3 x4 : Int) : (Instr.index 33 (.agg #[.int .i64 x0, .int .i64 x1, .int .i64 x2, .int .i64 x3, .int .i64 x4]) (.int .i64 2)).run Try.prog w = .ok (.int .i64 x2) w := by
 simp only [Instr.index, Sem.run_bind, asIntOf, Sem.run_pure, Result.andThen_ok, run_underlying Try.underlying33]
 rw [if_pos (by decide)]
 go_simp
attribute [local go_sem high] arrIdx

/-! ### madrigallaw2_awake: function 4 -/
def madrigallaw2_awake0.f (k : Nat)  : Option (Bool) := (tabs_Icdf.f 0).bind fun t198 => ((tabs_Bins.f 8000 10 9).bind fun bt201 => (if (t198.length : Int) = 3 then (if 0 < (t198.length : Int) then (if (rd t198 0) = 192 then (if 1 < (t198.length : Int) then (if (rd t198 1) = 96 then ((tabs_Good.f k t198).bind fun t205 => (if t205 = true then ((tabs_Edges.f 8000).bind fun t206 => (if (t206.length : Int) = 14 then (if bt201.1 = 40 then (if bt201.2 = 48 then ((tabs_Order.f 16000).bind fun t209 => (if t209 = 16 then ((tabs_Rate.f 24000).bind fun t210 => (if t210 = true then ((tabs_Window.f k 20).bind fun t211 => (if (t211.length : Int) = 20 then ((tabs_Lsf.f k 10 0).bind fun t214 => (if (t214.length : Int) = 10 then ((tabs_Taps.f 0).bind fun bt217 => (if bt217.2.2.1 = 39 then ((tabs_Filters.f).bind fun t222 => (some (t222 == 8))) else (some false))) else (some false))) else (some false))) else (some false))) else (some false))) else (some false)) else (some false)) else (some false))) else (some false))) else (some false)) else (none)) else (some false)) else (none)) else (some false)))
set_option maxHeartbeats 8000000 in
set_option maxRecDepth 100000 in
theorem madrigallaw2_awake0.calls (k : Nat)  (r : Bool) (w : World) (hrt : r = true) (h : madrigallaw2_awake0.f k  = some r) :
  Calls Try.prog 4 #[] w fun e w' => e = .returned (.bool r) ∧ Below w.heap.size w w' := by
 have HRT := Aside0.mk hrt; clear hrt
 have HB := Aside0.mk (Below.refl w.heap.size w)
 have H : ((tabs_Icdf.f 0).bind fun t198 => ((tabs_Bins.f 8000 10 9).bind fun bt201 => (if (t198.length : Int) = 3 then (if 0 < (t198.length : Int) then (if (rd t198 0) = 192 then (if 1 < (t198.length : Int) then (if (rd t198 1) = 96 then ((tabs_Good.f k t198).bind fun t205 => (if t205 = true then ((tabs_Edges.f 8000).bind fun t206 => (if (t206.length : Int) = 14 then (if bt201.1 = 40 then (if bt201.2 = 48 then ((tabs_Order.f 16000).bind fun t209 => (if t209 = 16 then ((tabs_Rate.f 24000).bind fun t210 => (if t210 = true then ((tabs_Window.f k 20).bind fun t211 => (if (t211.length : Int) = 20 then ((tabs_Lsf.f k 10 0).bind fun t214 => (if (t214.length : Int) = 10 then ((tabs_Taps.f 0).bind fun bt217 => (if bt217.2.2.1 = 39 then ((tabs_Filters.f).bind fun t222 => (some (t222 == 8))) else (some false))) else (some false))) else (some false))) else (some false))) else (some false))) else (some false)) else (some false)) else (some false))) else (some false))) else (some false)) else (none)) else (some false)) else (none)) else (some false)))) = some r := h
 clear h; replace H := Option.bind_eq_some_iff.mp H; obtain ⟨t198, A10, H⟩ := H
 replace H : ((tabs_Bins.f 8000 10 9).bind fun bt201 => (if (t198.length : Int) = 3 then (if 0 < (t198.length : Int) then (if (rd t198 0) = 192 then (if 1 < (t198.length : Int) then (if (rd t198 1) = 96 then ((tabs_Good.f k t198).bind fun t205 => (if t205 = true then ((tabs_Edges.f 8000).bind fun t206 => (if (t206.length : Int) = 14 then (if bt201.1 = 40 then (if bt201.2 = 48 then ((tabs_Order.f 16000).bind fun t209 => (if t209 = 16 then ((tabs_Rate.f 24000).bind fun t210 => (if t210 = true then ((tabs_Window.f k 20).bind fun t211 => (if (t211.length : Int) = 20 then ((tabs_Lsf.f k 10 0).bind fun t214 => (if (t214.length : Int) = 10 then ((tabs_Taps.f 0).bind fun bt217 => (if bt217.2.2.1 = 39 then ((tabs_Filters.f).bind fun t222 => (some (t222 == 8))) else (some false))) else (some false))) else (some false))) else (some false))) else (some false))) else (some false)) else (some false)) else (some false))) else (some false))) else (some false)) else (none)) else (some false)) else (none)) else (some false))) = some r := H
 have A1 := Aside0.mk A10; clear A10; replace H := Option.bind_eq_some_iff.mp H; obtain ⟨⟨t201, t202⟩, A20, H⟩ := H
 replace H : (if (t198.length : Int) = 3 then (if 0 < (t198.length : Int) then (if (rd t198 0) = 192 then (if 1 < (t198.length : Int) then (if (rd t198 1) = 96 then ((tabs_Good.f k t198).bind fun t205 => (if t205 = true then ((tabs_Edges.f 8000).bind fun t206 => (if (t206.length : Int) = 14 then (if t201 = 40 then (if t202 = 48 then ((tabs_Order.f 16000).bind fun t209 => (if t209 = 16 then ((tabs_Rate.f 24000).bind fun t210 => (if t210 = true then ((tabs_Window.f k 20).bind fun t211 => (if (t211.length : Int) = 20 then ((tabs_Lsf.f k 10 0).bind fun t214 => (if (t214.length : Int) = 10 then ((tabs_Taps.f 0).bind fun bt217 => (if bt217.2.2.1 = 39 then ((tabs_Filters.f).bind fun t222 => (some (t222 == 8))) else (some false))) else (some false))) else (some false))) else (some false))) else (some false))) else (some false)) else (some false)) else (some false))) else (some false))) else (some false)) else (none)) else (some false)) else (none)) else (some false)) = some r := H
 have A2 := Aside0.mk A20; clear A20
 by_cases c3 : (t198.length : Int) = 3
 ·
  rw [if_pos c3] at H; have c3b0 : ((t198.length : Int) == 3) = true := beq_iff_eq.mpr c3; have c3b1 : ((t198.length : Int) != 3) = false := bne_eq_false_iff_eq.mpr c3; clear c3
  by_cases c4 : 0 < (t198.length : Int); rotate_left
  · rw [if_neg c4] at H; exact absurd H (by simp)
  rw [if_pos c4] at H; have c4b0 : decide (0 < (t198.length : Int)) = true := decide_eq_true c4; have c4b1 : decide (0 < t198.length) = true := decide_eq_true (by omega); clear c4
  by_cases c5 : (rd t198 0) = 192
  ·
   rw [if_pos c5] at H; have c5b0 : ((rd t198 0) == 192) = true := beq_iff_eq.mpr c5; have c5b1 : ((rd t198 0) != 192) = false := bne_eq_false_iff_eq.mpr c5; clear c5
   by_cases c6 : 1 < (t198.length : Int); rotate_left
   · rw [if_neg c6] at H; exact absurd H (by simp)
   rw [if_pos c6] at H; have c6b0 : decide (1 < (t198.length : Int)) = true := decide_eq_true c6; have c6b1 : decide (1 < t198.length) = true := decide_eq_true (by omega); clear c6
   by_cases c7 : (rd t198 1) = 96
   ·
    rw [if_pos c7] at H; have c7b0 : ((rd t198 1) == 96) = true := beq_iff_eq.mpr c7; have c7b1 : ((rd t198 1) != 96) = false := bne_eq_false_iff_eq.mpr c7; clear c7; replace H := Option.bind_eq_some_iff.mp H; obtain ⟨t205, A80, H⟩ := H
    replace H : (if t205 = true then ((tabs_Edges.f 8000).bind fun t206 => (if (t206.length : Int) = 14 then (if t201 = 40 then (if t202 = 48 then ((tabs_Order.f 16000).bind fun t209 => (if t209 = 16 then ((tabs_Rate.f 24000).bind fun t210 => (if t210 = true then ((tabs_Window.f k 20).bind fun t211 => (if (t211.length : Int) = 20 then ((tabs_Lsf.f k 10 0).bind fun t214 => (if (t214.length : Int) = 10 then ((tabs_Taps.f 0).bind fun bt217 => (if bt217.2.2.1 = 39 then ((tabs_Filters.f).bind fun t222 => (some (t222 == 8))) else (some false))) else (some false))) else (some false))) else (some false))) else (some false))) else (some false)) else (some false)) else (some false))) else (some false)) = some r := H
    have A8 := Aside0.mk A80; clear A80
    by_cases c9 : t205 = true
    ·
     subst c9
     have H1 : ((tabs_Edges.f 8000).bind fun t206 => (if (t206.length : Int) = 14 then (if t201 = 40 then (if t202 = 48 then ((tabs_Order.f 16000).bind fun t209 => (if t209 = 16 then ((tabs_Rate.f 24000).bind fun t210 => (if t210 = true then ((tabs_Window.f k 20).bind fun t211 => (if (t211.length : Int) = 20 then ((tabs_Lsf.f k 10 0).bind fun t214 => (if (t214.length : Int) = 10 then ((tabs_Taps.f 0).bind fun bt217 => (if bt217.2.2.1 = 39 then ((tabs_Filters.f).bind fun t222 => (some (t222 == 8))) else (some false))) else (some false))) else (some false))) else (some false))) else (some false))) else (some false)) else (some false)) else (some false))) = some r := by rw [if_pos rfl] at H; exact H
     clear H; have H := H1; clear H1; replace H := Option.bind_eq_some_iff.mp H; obtain ⟨t206, A100, H⟩ := H
     replace H : (if (t206.length : Int) = 14 then (if t201 = 40 then (if t202 = 48 then ((tabs_Order.f 16000).bind fun t209 => (if t209 = 16 then ((tabs_Rate.f 24000).bind fun t210 => (if t210 = true then ((tabs_Window.f k 20).bind fun t211 => (if (t211.length : Int) = 20 then ((tabs_Lsf.f k 10 0).bind fun t214 => (if (t214.length : Int) = 10 then ((tabs_Taps.f 0).bind fun bt217 => (if bt217.2.2.1 = 39 then ((tabs_Filters.f).bind fun t222 => (some (t222 == 8))) else (some false))) else (some false))) else (some false))) else (some false))) else (some false))) else (some false)) else (some false)) else (some false)) = some r := H
     have A10 := Aside0.mk A100; clear A100
     by_cases c11 : (t206.length : Int) = 14
     ·
      rw [if_pos c11] at H; have c11b0 : ((t206.length : Int) == 14) = true := beq_iff_eq.mpr c11; have c11b1 : ((t206.length : Int) != 14) = false := bne_eq_false_iff_eq.mpr c11; clear c11
      by_cases c12 : t201 = 40
      ·
       rw [if_pos c12] at H; have c12b0 : (t201 == 40) = true := beq_iff_eq.mpr c12; have c12b1 : (t201 != 40) = false := bne_eq_false_iff_eq.mpr c12; clear c12
       by_cases c13 : t202 = 48
       ·
        rw [if_pos c13] at H; have c13b0 : (t202 == 48) = true := beq_iff_eq.mpr c13; have c13b1 : (t202 != 48) = false := bne_eq_false_iff_eq.mpr c13; clear c13; replace H := Option.bind_eq_some_iff.mp H; obtain ⟨t209, A140, H⟩ := H
        replace H : (if t209 = 16 then ((tabs_Rate.f 24000).bind fun t210 => (if t210 = true then ((tabs_Window.f k 20).bind fun t211 => (if (t211.length : Int) = 20 then ((tabs_Lsf.f k 10 0).bind fun t214 => (if (t214.length : Int) = 10 then ((tabs_Taps.f 0).bind fun bt217 => (if bt217.2.2.1 = 39 then ((tabs_Filters.f).bind fun t222 => (some (t222 == 8))) else (some false))) else (some false))) else (some false))) else (some false))) else (some false)) = some r := H
        have A14 := Aside0.mk A140; clear A140
        by_cases c15 : t209 = 16
        ·
         rw [if_pos c15] at H; have c15b0 : (t209 == 16) = true := beq_iff_eq.mpr c15; have c15b1 : (t209 != 16) = false := bne_eq_false_iff_eq.mpr c15; clear c15; replace H := Option.bind_eq_some_iff.mp H; obtain ⟨t210, A160, H⟩ := H
         replace H : (if t210 = true then ((tabs_Window.f k 20).bind fun t211 => (if (t211.length : Int) = 20 then ((tabs_Lsf.f k 10 0).bind fun t214 => (if (t214.length : Int) = 10 then ((tabs_Taps.f 0).bind fun bt217 => (if bt217.2.2.1 = 39 then ((tabs_Filters.f).bind fun t222 => (some (t222 == 8))) else (some false))) else (some false))) else (some false))) else (some false)) = some r := H
         have A16 := Aside0.mk A160; clear A160
         by_cases c17 : t210 = true
         ·
          subst c17
          have H1 : ((tabs_Window.f k 20).bind fun t211 => (if (t211.length : Int) = 20 then ((tabs_Lsf.f k 10 0).bind fun t214 => (if (t214.length : Int) = 10 then ((tabs_Taps.f 0).bind fun bt217 => (if bt217.2.2.1 = 39 then ((tabs_Filters.f).bind fun t222 => (some (t222 == 8))) else (some false))) else (some false))) else (some false))) = some r := by rw [if_pos rfl] at H; exact H
          clear H; have H := H1; clear H1; replace H := Option.bind_eq_some_iff.mp H; obtain ⟨t211, A180, H⟩ := H
          replace H : (if (t211.length : Int) = 20 then ((tabs_Lsf.f k 10 0).bind fun t214 => (if (t214.length : Int) = 10 then ((tabs_Taps.f 0).bind fun bt217 => (if bt217.2.2.1 = 39 then ((tabs_Filters.f).bind fun t222 => (some (t222 == 8))) else (some false))) else (some false))) else (some false)) = some r := H
          have A18 := Aside0.mk A180; clear A180
          by_cases c19 : (t211.length : Int) = 20
          ·
           rw [if_pos c19] at H; have c19b0 : ((t211.length : Int) == 20) = true := beq_iff_eq.mpr c19; have c19b1 : ((t211.length : Int) != 20) = false := bne_eq_false_iff_eq.mpr c19; clear c19; replace H := Option.bind_eq_some_iff.mp H; obtain ⟨t214, A200, H⟩ := H
           replace H : (if (t214.length : Int) = 10 then ((tabs_Taps.f 0).bind fun bt217 => (if bt217.2.2.1 = 39 then ((tabs_Filters.f).bind fun t222 => (some (t222 == 8))) else (some false))) else (some false)) = some r := H
           have A20 := Aside0.mk A200; clear A200
           by_cases c21 : (t214.length : Int) = 10
           ·
            rw [if_pos c21] at H; have c21b0 : ((t214.length : Int) == 10) = true := beq_iff_eq.mpr c21; have c21b1 : ((t214.length : Int) != 10) = false := bne_eq_false_iff_eq.mpr c21; clear c21; replace H := Option.bind_eq_some_iff.mp H; obtain ⟨⟨t217, t218, t219, t220, t221⟩, A220, H⟩ := H
            replace H : (if t219 = 39 then ((tabs_Filters.f).bind fun t222 => (some (t222 == 8))) else (some false)) = some r := H
            have A22 := Aside0.mk A220; clear A220
            by_cases c23 : t219 = 39
            ·
             rw [if_pos c23] at H; have c23b0 : (t219 == 39) = true := beq_iff_eq.mpr c23; have c23b1 : (t219 != 39) = false := bne_eq_false_iff_eq.mpr c23; clear c23; replace H := Option.bind_eq_some_iff.mp H; obtain ⟨t222, A240, H⟩ := H
             replace H : (some (t222 == 8)) = some r := H
             have A24 := Aside0.mk A240; clear A240
             obtain rfl := Option.some.inj H
             go_enter Try.func4, Try.ntmps4
             go_wp2_with (first | ((with_reducible refine gate_callee (f := 5) rfl ?_); refine goesL_ (some 4) rfl rfl Try.func5 (by kernel_rfl) rfl #[.int .i64 0] rfl (by (try simp only [List.map_toArray, List.map_cons, List.map_nil]); first | done | rfl | (simp only [List.length_drop, List.length_take]; rfl)) ?_; (with_reducible refine (tabs_Icdf.calls 0 t198 _ A1.out).mono ?_); rintro e w25 ⟨v199, rfl, ho0, hb⟩; refine ⟨_, rfl, ?_⟩; have n0_ := Aside0.mk (Kd.R_lower ho0 (below_size (by repeat (with_reducible first | exact HB.out | apply below_alloc | apply pw_below_drewN | apply below_drew1)))); have n1_ := Aside0.mk (below_step (by repeat (with_reducible first | exact HB.out | apply below_alloc | apply pw_below_drewN | apply below_drew1)) hb); clear HB; have HO200 := n0_; have HB := n1_; clear n0_ n1_; (try clear hb); (try clear hb2); (try clear hk); (try clear hi); (try clear ho0)) | ((with_reducible refine gate_callee (f := 9) rfl ?_); refine goesL_ (some 6) rfl rfl Try.func9 (by kernel_rfl) rfl #[.int .i64 8000, .int .i64 10, .int .i64 9] rfl (by (try simp only [List.map_toArray, List.map_cons, List.map_nil]); first | done | rfl | (simp only [List.length_drop, List.length_take]; rfl)) ?_; (with_reducible refine (tabs_Bins.calls 8000 10 9 t201 t202 _ A2.out).mono ?_); rintro e w26 ⟨rfl, hb⟩; refine ⟨_, rfl, ?_⟩; have n0_ := Aside0.mk (Kd.R_below (by (with_reducible repeat first | apply Kd.R_alloc | apply Kd.R_drewN | apply Kd.R_drew); exact HO200.out) hb); have n1_ := Aside0.mk (below_step (by repeat (with_reducible first | exact HB.out | apply below_alloc | apply pw_below_drewN | apply below_drew1)) hb); clear HO200; clear HB; have HO200 := n0_; have HB := n1_; clear n0_ n1_; (try clear hb); (try clear hb2); (try clear hk); (try clear hi); obtain ⟨Ao27, co27, eo27⟩ := Kd.R_slice HO200.out; subst eo27; have p203 : 0 ≤ (0 : Int) := (by omega); have q203 : 0 < (t198.length : Int) := of_decide_eq_true (by first | (with_reducible assumption) | assumption); obtain ⟨ad203, e203, hx203_0⟩ := Kd.at_int (Kd.R_reads' HO200.out).2.2 0 p203 q203; cases e203; have qi203 : (0 < t198.length) = True := eq_true (by omega); (try rw [show ((0 : Int)).toNat = 0 from rfl] at hx203_0); (try rw [Addr.add_zero'] at hx203_0); replace p203 := eq_true p203; replace q203 := eq_true q203; have p204 : 0 ≤ (1 : Int) := (by omega); have q204 : 1 < (t198.length : Int) := of_decide_eq_true (by first | (with_reducible assumption) | assumption); obtain ⟨ad204, e204, hx204_0⟩ := Kd.at_int (Kd.R_reads' HO200.out).2.2 1 p204 q204; obtain rfl : ad203 = ad204 := (by injection e204); (try simp only [show (1 : Int).toNat = 1 from rfl, Nat.reduceMul, Nat.reduceEqDiff, Go.Addr.add, ↓reduceIte] at hx204_0); have qi204 : (1 < t198.length) = True := eq_true (by omega); (try rw [show ((1 : Int)).toNat = 1 from rfl] at hx204_0); replace p204 := eq_true p204; replace q204 := eq_true q204) | (go_at_call 22; (with_reducible refine (tabs_Good.calls k _ _ t198 true _ ?side1 ?side2 A8.out).mono ?_); (case side1 => repeat (first | exact (Kd.R_reads' HO200.out).2.2 | (with_reducible refine Kd.C_alloc ?_ _) | (with_reducible refine Kd.C_drewN ?_ _) | (with_reducible refine Kd.C_drew ?_))); (case side2 => exact (Kd.R_reads' HO200.out).2.1); rintro e w' ⟨rfl, ⟨nd, rfl⟩⟩) | (go_at_call 7; (with_reducible refine (tabs_Edges.calls 8000 t206 _ A10.out).mono ?_); rintro e w28 ⟨v207, rfl, ho0, hb⟩; have n0_ := Aside0.mk (Kd.R_elder' (by (with_reducible repeat first | apply Kd.R_alloc | apply Kd.R_drewN | apply Kd.R_drew); exact HO200.out) (Kd.R_base ho0) hb); have n1_ := Aside0.mk (Kd.R_lower (Kd.R_new' ho0 (Kd.R_lt (by (with_reducible repeat first | apply Kd.R_alloc | apply Kd.R_drewN | apply Kd.R_drew); exact HO200.out))) (below_size (by repeat (with_reducible first | exact HB.out | apply below_alloc | apply pw_below_drewN | apply below_drew1)))); have n2_ := Aside0.mk (below_step (by repeat (with_reducible first | exact HB.out | apply below_alloc | apply pw_below_drewN | apply below_drew1)) hb); clear HO200; clear HB; have HO200 := n0_; have HO208 := n1_; have HB := n2_; clear n0_ n1_ n2_; (try clear hb); (try clear hb2); (try clear hk); (try clear hi); (try clear ho0); obtain ⟨Ao29, co29, eo29⟩ := Kd.R_slice HO208.out; subst eo29) | (go_at_call 13; (with_reducible refine (tabs_Order.calls 16000 t209 _ A14.out).mono ?_); rintro e w' ⟨rfl, ⟨nd, rfl⟩⟩) | (go_at_call 11; (with_reducible refine (tabs_Rate.calls 24000 true _ A16.out).mono ?_); rintro e w' ⟨rfl, ⟨nd, rfl⟩⟩) | (go_at_call 16; (with_reducible refine (tabs_Window.calls k 20 t211 _ A18.out).mono ?_); rintro e w30 ⟨v212, rfl, ho0, hb⟩; have n0_ := Aside0.mk (Kd.R_below (by (with_reducible repeat first | apply Kd.R_alloc | apply Kd.R_drewN | apply Kd.R_drew); exact HO200.out) hb); have n1_ := Aside0.mk (Kd.R_below (by (with_reducible repeat first | apply Kd.R_alloc | apply Kd.R_drewN | apply Kd.R_drew); exact HO208.out) hb); have n2_ := Aside0.mk (Kd.R_lower ho0 (below_size (by repeat (with_reducible first | exact HB.out | apply below_alloc | apply pw_below_drewN | apply below_drew1)))); have n3_ := Aside0.mk (below_step (by repeat (with_reducible first | exact HB.out | apply below_alloc | apply pw_below_drewN | apply below_drew1)) hb); clear HO200; clear HO208; clear HB; have HO200 := n0_; have HO208 := n1_; have HO213 := n2_; have HB := n3_; clear n0_ n1_ n2_ n3_; (try clear hb); (try clear hb2); (try clear hk); (try clear hi); (try clear ho0); obtain ⟨Ao31, co31, eo31⟩ := Kd.R_slice HO213.out; subst eo31) | (go_at_call 18; (with_reducible refine (tabs_Lsf.calls k 10 0 t214 _ A20.out).mono ?_); rintro e w32 ⟨v215, rfl, ho0, hb⟩; have n0_ := Aside0.mk (Kd.R_below (by (with_reducible repeat first | apply Kd.R_alloc | apply Kd.R_drewN | apply Kd.R_drew); exact HO200.out) hb); have n1_ := Aside0.mk (Kd.R_below (by (with_reducible repeat first | apply Kd.R_alloc | apply Kd.R_drewN | apply Kd.R_drew); exact HO208.out) hb); have n2_ := Aside0.mk (Kd.R_elder' (by (with_reducible repeat first | apply Kd.R_alloc | apply Kd.R_drewN | apply Kd.R_drew); exact HO213.out) (Kd.R_base ho0) hb); have n3_ := Aside0.mk (Kd.R_lower (Kd.R_new' ho0 (Kd.R_lt (by (with_reducible repeat first | apply Kd.R_alloc | apply Kd.R_drewN | apply Kd.R_drew); exact HO213.out))) (below_size (by repeat (with_reducible first | exact HB.out | apply below_alloc | apply pw_below_drewN | apply below_drew1)))); have n4_ := Aside0.mk (below_step (by repeat (with_reducible first | exact HB.out | apply below_alloc | apply pw_below_drewN | apply below_drew1)) hb); clear HO200; clear HO208; clear HO213; clear HB; have HO200 := n0_; have HO208 := n1_; have HO213 := n2_; have HO216 := n3_; have HB := n4_; clear n0_ n1_ n2_ n3_ n4_; (try clear hb); (try clear hb2); (try clear hk); (try clear hi); (try clear ho0); obtain ⟨Ao33, co33, eo33⟩ := Kd.R_slice HO216.out; subst eo33) | (go_at_call 20; (with_reducible refine (tabs_Taps.calls 0 t217 t218 t219 t220 t221 _ A22.out).mono ?_); rintro e w34 ⟨rfl, hb⟩; have n0_ := Aside0.mk (Kd.R_below (by (with_reducible repeat first | apply Kd.R_alloc | apply Kd.R_drewN | apply Kd.R_drew); exact HO200.out) hb); have n1_ := Aside0.mk (Kd.R_below (by (with_reducible repeat first | apply Kd.R_alloc | apply Kd.R_drewN | apply Kd.R_drew); exact HO208.out) hb); have n2_ := Aside0.mk (Kd.R_below (by (with_reducible repeat first | apply Kd.R_alloc | apply Kd.R_drewN | apply Kd.R_drew); exact HO213.out) hb); have n3_ := Aside0.mk (Kd.R_below (by (with_reducible repeat first | apply Kd.R_alloc | apply Kd.R_drewN | apply Kd.R_drew); exact HO216.out) hb); have n4_ := Aside0.mk (below_step (by repeat (with_reducible first | exact HB.out | apply below_alloc | apply pw_below_drewN | apply below_drew1)) hb); clear HO200; clear HO208; clear HO213; clear HO216; clear HB; have HO200 := n0_; have HO208 := n1_; have HO213 := n2_; have HO216 := n3_; have HB := n4_; clear n0_ n1_ n2_ n3_ n4_; (try clear hb); (try clear hb2); (try clear hk); (try clear hi)) | (go_at_call 23; (with_reducible refine (tabs_Filters.calls  t222 _ A24.out).mono ?_); rintro e w' ⟨rfl, ⟨nd, rfl⟩⟩))
             go_ret
             exact ⟨by first | rfl | (simp [errW_none, errW_some] <;> rfl) | (simp [*, errW_none, errW_some] <;> rfl), by repeat (with_reducible first | exact HB.out | apply below_alloc | apply pw_below_drewN | apply below_drew1)⟩
            ·
             rw [if_neg c23] at H; have c23b0 : (t219 == 39) = false := beq_eq_false_iff_ne.mpr c23; have c23b1 : (t219 != 39) = true := bne_iff_ne.mpr c23
             exact absurd ((Option.some.inj H).trans HRT.out) (by simp)
           ·
            rw [if_neg c21] at H; have c21b0 : ((t214.length : Int) == 10) = false := beq_eq_false_iff_ne.mpr c21; have c21b1 : ((t214.length : Int) != 10) = true := bne_iff_ne.mpr c21
            exact absurd ((Option.some.inj H).trans HRT.out) (by simp)
          ·
           rw [if_neg c19] at H; have c19b0 : ((t211.length : Int) == 20) = false := beq_eq_false_iff_ne.mpr c19; have c19b1 : ((t211.length : Int) != 20) = true := bne_iff_ne.mpr c19
           exact absurd ((Option.some.inj H).trans HRT.out) (by simp)
         ·
          replace c17 := Bool.eq_false_iff.mpr c17
          subst c17
          have H1 : (some false) = some r := by rw [if_neg (show ¬ (false = true) by decide)] at H; exact H
          clear H; have H := H1; clear H1
          exact absurd ((Option.some.inj H).trans HRT.out) (by simp)
        ·
         rw [if_neg c15] at H; have c15b0 : (t209 == 16) = false := beq_eq_false_iff_ne.mpr c15; have c15b1 : (t209 != 16) = true := bne_iff_ne.mpr c15
         exact absurd ((Option.some.inj H).trans HRT.out) (by simp)
       ·
        rw [if_neg c13] at H; have c13b0 : (t202 == 48) = false := beq_eq_false_iff_ne.mpr c13; have c13b1 : (t202 != 48) = true := bne_iff_ne.mpr c13
        exact absurd ((Option.some.inj H).trans HRT.out) (by simp)
      ·
       rw [if_neg c12] at H; have c12b0 : (t201 == 40) = false := beq_eq_false_iff_ne.mpr c12; have c12b1 : (t201 != 40) = true := bne_iff_ne.mpr c12
       exact absurd ((Option.some.inj H).trans HRT.out) (by simp)
     ·
      rw [if_neg c11] at H; have c11b0 : ((t206.length : Int) == 14) = false := beq_eq_false_iff_ne.mpr c11; have c11b1 : ((t206.length : Int) != 14) = true := bne_iff_ne.mpr c11
      exact absurd ((Option.some.inj H).trans HRT.out) (by simp)
    ·
     replace c9 := Bool.eq_false_iff.mpr c9
     subst c9
     have H1 : (some false) = some r := by rw [if_neg (show ¬ (false = true) by decide)] at H; exact H
     clear H; have H := H1; clear H1
     exact absurd ((Option.some.inj H).trans HRT.out) (by simp)
   ·
    rw [if_neg c7] at H; have c7b0 : ((rd t198 1) == 96) = false := beq_eq_false_iff_ne.mpr c7; have c7b1 : ((rd t198 1) != 96) = true := bne_iff_ne.mpr c7
    exact absurd ((Option.some.inj H).trans HRT.out) (by simp)
  ·
   rw [if_neg c5] at H; have c5b0 : ((rd t198 0) == 192) = false := beq_eq_false_iff_ne.mpr c5; have c5b1 : ((rd t198 0) != 192) = true := bne_iff_ne.mpr c5
   exact absurd ((Option.some.inj H).trans HRT.out) (by simp)
 ·
  rw [if_neg c3] at H; have c3b0 : ((t198.length : Int) == 3) = false := beq_eq_false_iff_ne.mpr c3; have c3b1 : ((t198.length : Int) != 3) = true := bne_iff_ne.mpr c3
  exact absurd ((Option.some.inj H).trans HRT.out) (by simp)

set_option maxRecDepth 1000000 in
theorem madrigallaw2_awake0.answers : madrigallaw2_awake0.f 3000 = some true := by kernel_rfl
def madrigallaw2_awake.f : Option Bool := some true
theorem madrigallaw2_awake.calls (r : Bool) (w : World) (h : madrigallaw2_awake.f = some r) :
  Calls Try.prog 4 #[] w fun e w' => e = .returned (.bool r) ∧ Below w.heap.size w w' := by
 obtain rfl : r = true := (Option.some.inj h).symm
 exact madrigallaw2_awake0.calls 3000 true w rfl madrigallaw2_awake0.answers

/-! ### madrigalref1_Icdf: function 6 -/
def madrigalref1_Icdf.f (a0 : Int) : Option (List Int) := if a0 = 0 then (some (([192, 96, 0] : List Int))) else (if a0 = 1 then (some (([224, 192, 160, 128, 96, 64, 32, 0] : List Int))) else (if a0 = 2 then (some (([252, 247, 240, 230, 214, 190, 150, 106, 66, 42, 26, 16, 10, 6, 4, 2, 0] : List Int))) else (if a0 = 3 then (some (([240, 224, 208, 192, 176, 160, 144, 128, 112, 96, 80, 64, 48, 32, 16, 0] : List Int))) else (if a0 = 4 then (some (([253, 244, 222, 170, 86, 34, 12, 3, 0] : List Int))) else (if a0 = 5 then (some (([218, 180, 148, 122, 100, 82, 67, 54, 43, 34, 26, 19, 14, 10, 6, 3, 0] : List Int))) else (if a0 = 6 then (some (([205, 163, 128, 97, 70, 44, 20, 0] : List Int))) else (if a0 = 7 then (some (([231, 155, 38, 0] : List Int))) else (if a0 = 8 then (some (([192, 128, 64, 0] : List Int))) else (some ([] : List Int))))))))))
set_option maxHeartbeats 8000000 in
set_option maxRecDepth 100000 in
theorem madrigalref1_Icdf.calls (a0 : Int) (r : List Int) (w : World) (h : madrigalref1_Icdf.f a0 = some r) :
  Calls Try.prog 6 #[.int .i64 a0] w fun e w' => ∃ v0_ : Value, e = .returned (v0_) ∧ Kd.R (Kd.int .i64) 3 w' w.heap.size (fun _ => True) v0_ r ∧ Below w.heap.size w w' := by
 have HB := Aside0.mk (Below.refl w.heap.size w)
 have H : (if a0 = 0 then (some (([192, 96, 0] : List Int))) else (if a0 = 1 then (some (([224, 192, 160, 128, 96, 64, 32, 0] : List Int))) else (if a0 = 2 then (some (([252, 247, 240, 230, 214, 190, 150, 106, 66, 42, 26, 16, 10, 6, 4, 2, 0] : List Int))) else (if a0 = 3 then (some (([240, 224, 208, 192, 176, 160, 144, 128, 112, 96, 80, 64, 48, 32, 16, 0] : List Int))) else (if a0 = 4 then (some (([253, 244, 222, 170, 86, 34, 12, 3, 0] : List Int))) else (if a0 = 5 then (some (([218, 180, 148, 122, 100, 82, 67, 54, 43, 34, 26, 19, 14, 10, 6, 3, 0] : List Int))) else (if a0 = 6 then (some (([205, 163, 128, 97, 70, 44, 20, 0] : List Int))) else (if a0 = 7 then (some (([231, 155, 38, 0] : List Int))) else (if a0 = 8 then (some (([192, 128, 64, 0] : List Int))) else (some ([] : List Int))))))))))) = some r := h
 clear h
 by_cases c2 : a0 = 0
 ·
  rw [if_pos c2] at H; have c2b0 : (a0 == 0) = true := beq_iff_eq.mpr c2; have c2b1 : (a0 != 0) = false := bne_eq_false_iff_eq.mpr c2; clear c2
  obtain ⟨y223, hy223⟩ : ∃ y_ : List Int, y_ = (([192, 96, 0] : List Int)) := ⟨_, rfl⟩
  replace H : (some y223) = some r := by first | (rw [hy223]; with_reducible exact H) | (have H2_ := (Option.bind_some _ _).symm.trans H; rw [hy223]; with_reducible exact H2_) | (have H2_ := (Option.bind_some _ _).symm.trans H; with_reducible exact H2_) | with_reducible exact H | (rw [hy223]; exact H) | exact H
  have Ny223 := Aside0.mk hy223; clear hy223
  obtain rfl := Option.some.inj H
  go_enter Try.func6, Try.ntmps6
  go_wp2_with (first | ((with_reducible refine gate_dst (N := 6) rfl ?_); refine Kd.R_lit (Kd.int .i64) _ 3 ?hg (N := 6) ?hd (xs := ([192, 96, 0] : List Int)) (inner := [.int .i64 192, .int .i64 96, .int .i64 0]) (ok := fun _ => True) (okp := fun _ => True) ?hr ?hp (fun _ hk => hk) trivial (Below.refl _ _) (Nat.le_refl _) (by simp) ?_; (case hd => rfl); (case hg => rfl); (case hr => first | (go_simp; done) | (go_simp; rfl)); (case hp => exact (Reps.one (show Kd.M (Kd.int .i64) _ _ _ 192 [.int .i64 192] from rfl) (Reps.one (show Kd.M (Kd.int .i64) _ _ _ 96 [.int .i64 96] from rfl) (Reps.one (show Kd.M (Kd.int .i64) _ _ _ 0 [.int .i64 0] from rfl) (Reps.none _ _))))); intro v224 w3 ho4 hb hg_ hnew_; clear hg_ hnew_; (first | rw [← Ny223.out] at ho4 | (simp only [Int.reduceToNat] at ho4; rw [← Ny223.out] at ho4)); have n0_ := Aside0.mk (Kd.R_lower ho4 (below_size (by repeat (with_reducible first | exact HB.out | apply below_alloc | apply pw_below_drewN | apply below_drew1)))); have n1_ := Aside0.mk (below_step (by repeat (with_reducible first | exact HB.out | apply below_alloc | apply pw_below_drewN | apply below_drew1)) hb); clear HB; have HO225 := n0_; have HB := n1_; clear n0_ n1_; clear hb ho4))
  go_ret
  exact ⟨_, by first | rfl | (simp [errW_none, errW_some] <;> rfl) | (simp [*, errW_none, errW_some] <;> rfl), by (with_reducible repeat first | apply Kd.R_alloc | apply Kd.R_drewN | apply Kd.R_drew); exact HO225.out, by repeat (with_reducible first | exact HB.out | apply below_alloc | apply pw_below_drewN | apply below_drew1)⟩
 ·
  rw [if_neg c2] at H; have c2b0 : (a0 == 0) = false := beq_eq_false_iff_ne.mpr c2; have c2b1 : (a0 != 0) = true := bne_iff_ne.mpr c2
  by_cases c5 : a0 = 1
  ·
   rw [if_pos c5] at H; have c5b0 : (a0 == 1) = true := beq_iff_eq.mpr c5; have c5b1 : (a0 != 1) = false := bne_eq_false_iff_eq.mpr c5; clear c5
   obtain ⟨y226, hy226⟩ : ∃ y_ : List Int, y_ = (([224, 192, 160, 128, 96, 64, 32, 0] : List Int)) := ⟨_, rfl⟩
   replace H : (some y226) = some r := by first | (rw [hy226]; with_reducible exact H) | (have H2_ := (Option.bind_some _ _).symm.trans H; rw [hy226]; with_reducible exact H2_) | (have H2_ := (Option.bind_some _ _).symm.trans H; with_reducible exact H2_) | with_reducible exact H | (rw [hy226]; exact H) | exact H
   have Ny226 := Aside0.mk hy226; clear hy226
   obtain rfl := Option.some.inj H
   go_enter Try.func6, Try.ntmps6
   go_wp2_with (first | ((with_reducible refine gate_dst (N := 9) rfl ?_); refine Kd.R_lit (Kd.int .i64) _ 3 ?hg (N := 9) ?hd (xs := ([224, 192, 160, 128, 96, 64, 32, 0] : List Int)) (inner := [.int .i64 224, .int .i64 192, .int .i64 160, .int .i64 128, .int .i64 96, .int .i64 64, .int .i64 32, .int .i64 0]) (ok := fun _ => True) (okp := fun _ => True) ?hr ?hp (fun _ hk => hk) trivial (Below.refl _ _) (Nat.le_refl _) (by simp) ?_; (case hd => rfl); (case hg => rfl); (case hr => first | (go_simp; done) | (go_simp; rfl)); (case hp => exact (Reps.one (show Kd.M (Kd.int .i64) _ _ _ 224 [.int .i64 224] from rfl) (Reps.one (show Kd.M (Kd.int .i64) _ _ _ 192 [.int .i64 192] from rfl) (Reps.one (show Kd.M (Kd.int .i64) _ _ _ 160 [.int .i64 160] from rfl) (Reps.one (show Kd.M (Kd.int .i64) _ _ _ 128 [.int .i64 128] from rfl) (Reps.one (show Kd.M (Kd.int .i64) _ _ _ 96 [.int .i64 96] from rfl) (Reps.one (show Kd.M (Kd.int .i64) _ _ _ 64 [.int .i64 64] from rfl) (Reps.one (show Kd.M (Kd.int .i64) _ _ _ 32 [.int .i64 32] from rfl) (Reps.one (show Kd.M (Kd.int .i64) _ _ _ 0 [.int .i64 0] from rfl) (Reps.none _ _)))))))))); intro v227 w6 ho7 hb hg_ hnew_; clear hg_ hnew_; (first | rw [← Ny226.out] at ho7 | (simp only [Int.reduceToNat] at ho7; rw [← Ny226.out] at ho7)); have n0_ := Aside0.mk (Kd.R_lower ho7 (below_size (by repeat (with_reducible first | exact HB.out | apply below_alloc | apply pw_below_drewN | apply below_drew1)))); have n1_ := Aside0.mk (below_step (by repeat (with_reducible first | exact HB.out | apply below_alloc | apply pw_below_drewN | apply below_drew1)) hb); clear HB; have HO228 := n0_; have HB := n1_; clear n0_ n1_; clear hb ho7))
   go_ret
   exact ⟨_, by first | rfl | (simp [errW_none, errW_some] <;> rfl) | (simp [*, errW_none, errW_some] <;> rfl), by (with_reducible repeat first | apply Kd.R_alloc | apply Kd.R_drewN | apply Kd.R_drew); exact HO228.out, by repeat (with_reducible first | exact HB.out | apply below_alloc | apply pw_below_drewN | apply below_drew1)⟩
  ·
   rw [if_neg c5] at H; have c5b0 : (a0 == 1) = false := beq_eq_false_iff_ne.mpr c5; have c5b1 : (a0 != 1) = true := bne_iff_ne.mpr c5
   by_cases c8 : a0 = 2
   ·
    rw [if_pos c8] at H; have c8b0 : (a0 == 2) = true := beq_iff_eq.mpr c8; have c8b1 : (a0 != 2) = false := bne_eq_false_iff_eq.mpr c8; clear c8
    obtain ⟨y229, hy229⟩ : ∃ y_ : List Int, y_ = (([252, 247, 240, 230, 214, 190, 150, 106, 66, 42, 26, 16, 10, 6, 4, 2, 0] : List Int)) := ⟨_, rfl⟩
    replace H : (some y229) = some r := by first | (rw [hy229]; with_reducible exact H) | (have H2_ := (Option.bind_some _ _).symm.trans H; rw [hy229]; with_reducible exact H2_) | (have H2_ := (Option.bind_some _ _).symm.trans H; with_reducible exact H2_) | with_reducible exact H | (rw [hy229]; exact H) | exact H
    have Ny229 := Aside0.mk hy229; clear hy229
    obtain rfl := Option.some.inj H
    go_enter Try.func6, Try.ntmps6
    go_wp2_with (first | ((with_reducible refine gate_dst (N := 12) rfl ?_); refine Kd.R_lit (Kd.int .i64) _ 3 ?hg (N := 12) ?hd (xs := ([252, 247, 240, 230, 214, 190, 150, 106, 66, 42, 26, 16, 10, 6, 4, 2, 0] : List Int)) (inner := [.int .i64 252, .int .i64 247, .int .i64 240, .int .i64 230, .int .i64 214, .int .i64 190, .int .i64 150, .int .i64 106, .int .i64 66, .int .i64 42, .int .i64 26, .int .i64 16, .int .i64 10, .int .i64 6, .int .i64 4, .int .i64 2, .int .i64 0]) (ok := fun _ => True) (okp := fun _ => True) ?hr ?hp (fun _ hk => hk) trivial (Below.refl _ _) (Nat.le_refl _) (by simp) ?_; (case hd => rfl); (case hg => rfl); (case hr => first | (go_simp; done) | (go_simp; rfl)); (case hp => exact (Reps.one (show Kd.M (Kd.int .i64) _ _ _ 252 [.int .i64 252] from rfl) (Reps.one (show Kd.M (Kd.int .i64) _ _ _ 247 [.int .i64 247] from rfl) (Reps.one (show Kd.M (Kd.int .i64) _ _ _ 240 [.int .i64 240] from rfl) (Reps.one (show Kd.M (Kd.int .i64) _ _ _ 230 [.int .i64 230] from rfl) (Reps.one (show Kd.M (Kd.int .i64) _ _ _ 214 [.int .i64 214] from rfl) (Reps.one (show Kd.M (Kd.int .i64) _ _ _ 190 [.int .i64 190] from rfl) (Reps.one (show Kd.M (Kd.int .i64) _ _ _ 150 [.int .i64 150] from rfl) (Reps.one (show Kd.M (Kd.int .i64) _ _ _ 106 [.int .i64 106] from rfl) (Reps.one (show Kd.M (Kd.int .i64) _ _ _ 66 [.int .i64 66] from rfl) (Reps.one (show Kd.M (Kd.int .i64) _ _ _ 42 [.int .i64 42] from rfl) (Reps.one (show Kd.M (Kd.int .i64) _ _ _ 26 [.int .i64 26] from rfl) (Reps.one (show Kd.M (Kd.int .i64) _ _ _ 16 [.int .i64 16] from rfl) (Reps.one (show Kd.M (Kd.int .i64) _ _ _ 10 [.int .i64 10] from rfl) (Reps.one (show Kd.M (Kd.int .i64) _ _ _ 6 [.int .i64 6] from rfl) (Reps.one (show Kd.M (Kd.int .i64) _ _ _ 4 [.int .i64 4] from rfl) (Reps.one (show Kd.M (Kd.int .i64) _ _ _ 2 [.int .i64 2] from rfl) (Reps.one (show Kd.M (Kd.int .i64) _ _ _ 0 [.int .i64 0] from rfl) (Reps.none _ _))))))))))))))))))); intro v230 w9 ho10 hb hg_ hnew_; clear hg_ hnew_; (first | rw [← Ny229.out] at ho10 | (simp only [Int.reduceToNat] at ho10; rw [← Ny229.out] at ho10)); have n0_ := Aside0.mk (Kd.R_lower ho10 (below_size (by repeat (with_reducible first | exact HB.out | apply below_alloc | apply pw_below_drewN | apply below_drew1)))); have n1_ := Aside0.mk (below_step (by repeat (with_reducible first | exact HB.out | apply below_alloc | apply pw_below_drewN | apply below_drew1)) hb); clear HB; have HO231 := n0_; have HB := n1_; clear n0_ n1_; clear hb ho10))
    go_ret
    exact ⟨_, by first | rfl | (simp [errW_none, errW_some] <;> rfl) | (simp [*, errW_none, errW_some] <;> rfl), by (with_reducible repeat first | apply Kd.R_alloc | apply Kd.R_drewN | apply Kd.R_drew); exact HO231.out, by repeat (with_reducible first | exact HB.out | apply below_alloc | apply pw_below_drewN | apply below_drew1)⟩
   ·
    rw [if_neg c8] at H; have c8b0 : (a0 == 2) = false := beq_eq_false_iff_ne.mpr c8; have c8b1 : (a0 != 2) = true := bne_iff_ne.mpr c8
    by_cases c11 : a0 = 3
    ·
     rw [if_pos c11] at H; have c11b0 : (a0 == 3) = true := beq_iff_eq.mpr c11; have c11b1 : (a0 != 3) = false := bne_eq_false_iff_eq.mpr c11; clear c11
     obtain ⟨y232, hy232⟩ : ∃ y_ : List Int, y_ = (([240, 224, 208, 192, 176, 160, 144, 128, 112, 96, 80, 64, 48, 32, 16, 0] : List Int)) := ⟨_, rfl⟩
     replace H : (some y232) = some r := by first | (rw [hy232]; with_reducible exact H) | (have H2_ := (Option.bind_some _ _).symm.trans H; rw [hy232]; with_reducible exact H2_) | (have H2_ := (Option.bind_some _ _).symm.trans H; with_reducible exact H2_) | with_reducible exact H | (rw [hy232]; exact H) | exact H
     have Ny232 := Aside0.mk hy232; clear hy232
     obtain rfl := Option.some.inj H
     go_enter Try.func6, Try.ntmps6
     go_wp2_with (first | ((with_reducible refine gate_dst (N := 15) rfl ?_); refine Kd.R_lit (Kd.int .i64) _ 3 ?hg (N := 15) ?hd (xs := ([240, 224, 208, 192, 176, 160, 144, 128, 112, 96, 80, 64, 48, 32, 16, 0] : List Int)) (inner := [.int .i64 240, .int .i64 224, .int .i64 208, .int .i64 192, .int .i64 176, .int .i64 160, .int .i64 144, .int .i64 128, .int .i64 112, .int .i64 96, .int .i64 80, .int .i64 64, .int .i64 48, .int .i64 32, .int .i64 16, .int .i64 0]) (ok := fun _ => True) (okp := fun _ => True) ?hr ?hp (fun _ hk => hk) trivial (Below.refl _ _) (Nat.le_refl _) (by simp) ?_; (case hd => rfl); (case hg => rfl); (case hr => first | (go_simp; done) | (go_simp; rfl)); (case hp => exact (Reps.one (show Kd.M (Kd.int .i64) _ _ _ 240 [.int .i64 240] from rfl) (Reps.one (show Kd.M (Kd.int .i64) _ _ _ 224 [.int .i64 224] from rfl) (Reps.one (show Kd.M (Kd.int .i64) _ _ _ 208 [.int .i64 208] from rfl) (Reps.one (show Kd.M (Kd.int .i64) _ _ _ 192 [.int .i64 192] from rfl) (Reps.one (show Kd.M (Kd.int .i64) _ _ _ 176 [.int .i64 176] from rfl) (Reps.one (show Kd.M (Kd.int .i64) _ _ _ 160 [.int .i64 160] from rfl) (Reps.one (show Kd.M (Kd.int .i64) _ _ _ 144 [.int .i64 144] from rfl) (Reps.one (show Kd.M (Kd.int .i64) _ _ _ 128 [.int .i64 128] from rfl) (Reps.one (show Kd.M (Kd.int .i64) _ _ _ 112 [.int .i64 112] from rfl) (Reps.one (show Kd.M (Kd.int .i64) _ _ _ 96 [.int .i64 96] from rfl) (Reps.one (show Kd.M (Kd.int .i64) _ _ _ 80 [.int .i64 80] from rfl) (Reps.one (show Kd.M (Kd.int .i64) _ _ _ 64 [.int .i64 64] from rfl) (Reps.one (show Kd.M (Kd.int .i64) _ _ _ 48 [.int .i64 48] from rfl) (Reps.one (show Kd.M (Kd.int .i64) _ _ _ 32 [.int .i64 32] from rfl) (Reps.one (show Kd.M (Kd.int .i64) _ _ _ 16 [.int .i64 16] from rfl) (Reps.one (show Kd.M (Kd.int .i64) _ _ _ 0 [.int .i64 0] from rfl) (Reps.none _ _)))))))))))))))))); intro v233 w12 ho13 hb hg_ hnew_; clear hg_ hnew_; (first | rw [← Ny232.out] at ho13 | (simp only [Int.reduceToNat] at ho13; rw [← Ny232.out] at ho13)); have n0_ := Aside0.mk (Kd.R_lower ho13 (below_size (by repeat (with_reducible first | exact HB.out | apply below_alloc | apply pw_below_drewN | apply below_drew1)))); have n1_ := Aside0.mk (below_step (by repeat (with_reducible first | exact HB.out | apply below_alloc | apply pw_below_drewN | apply below_drew1)) hb); clear HB; have HO234 := n0_; have HB := n1_; clear n0_ n1_; clear hb ho13))
     go_ret
     exact ⟨_, by first | rfl | (simp [errW_none, errW_some] <;> rfl) | (simp [*, errW_none, errW_some] <;> rfl), by (with_reducible repeat first | apply Kd.R_alloc | apply Kd.R_drewN | apply Kd.R_drew); exact HO234.out, by repeat (with_reducible first | exact HB.out | apply below_alloc | apply pw_below_drewN | apply below_drew1)⟩
    ·
     rw [if_neg c11] at H; have c11b0 : (a0 == 3) = false := beq_eq_false_iff_ne.mpr c11; have c11b1 : (a0 != 3) = true := bne_iff_ne.mpr c11
     by_cases c14 : a0 = 4
     ·
      rw [if_pos c14] at H; have c14b0 : (a0 == 4) = true := beq_iff_eq.mpr c14; have c14b1 : (a0 != 4) = false := bne_eq_false_iff_eq.mpr c14; clear c14
      obtain ⟨y235, hy235⟩ : ∃ y_ : List Int, y_ = (([253, 244, 222, 170, 86, 34, 12, 3, 0] : List Int)) := ⟨_, rfl⟩
      replace H : (some y235) = some r := by first | (rw [hy235]; with_reducible exact H) | (have H2_ := (Option.bind_some _ _).symm.trans H; rw [hy235]; with_reducible exact H2_) | (have H2_ := (Option.bind_some _ _).symm.trans H; with_reducible exact H2_) | with_reducible exact H | (rw [hy235]; exact H) | exact H
      have Ny235 := Aside0.mk hy235; clear hy235
      obtain rfl := Option.some.inj H
      go_enter Try.func6, Try.ntmps6
      go_wp2_with (first | ((with_reducible refine gate_dst (N := 18) rfl ?_); refine Kd.R_lit (Kd.int .i64) _ 3 ?hg (N := 18) ?hd (xs := ([253, 244, 222, 170, 86, 34, 12, 3, 0] : List Int)) (inner := [.int .i64 253, .int .i64 244, .int .i64 222, .int .i64 170, .int .i64 86, .int .i64 34, .int .i64 12, .int .i64 3, .int .i64 0]) (ok := fun _ => True) (okp := fun _ => True) ?hr ?hp (fun _ hk => hk) trivial (Below.refl _ _) (Nat.le_refl _) (by simp) ?_; (case hd => rfl); (case hg => rfl); (case hr => first | (go_simp; done) | (go_simp; rfl)); (case hp => exact (Reps.one (show Kd.M (Kd.int .i64) _ _ _ 253 [.int .i64 253] from rfl) (Reps.one (show Kd.M (Kd.int .i64) _ _ _ 244 [.int .i64 244] from rfl) (Reps.one (show Kd.M (Kd.int .i64) _ _ _ 222 [.int .i64 222] from rfl) (Reps.one (show Kd.M (Kd.int .i64) _ _ _ 170 [.int .i64 170] from rfl) (Reps.one (show Kd.M (Kd.int .i64) _ _ _ 86 [.int .i64 86] from rfl) (Reps.one (show Kd.M (Kd.int .i64) _ _ _ 34 [.int .i64 34] from rfl) (Reps.one (show Kd.M (Kd.int .i64) _ _ _ 12 [.int .i64 12] from rfl) (Reps.one (show Kd.M (Kd.int .i64) _ _ _ 3 [.int .i64 3] from rfl) (Reps.one (show Kd.M (Kd.int .i64) _ _ _ 0 [.int .i64 0] from rfl) (Reps.none _ _))))))))))); intro v236 w15 ho16 hb hg_ hnew_; clear hg_ hnew_; (first | rw [← Ny235.out] at ho16 | (simp only [Int.reduceToNat] at ho16; rw [← Ny235.out] at ho16)); have n0_ := Aside0.mk (Kd.R_lower ho16 (below_size (by repeat (with_reducible first | exact HB.out | apply below_alloc | apply pw_below_drewN | apply below_drew1)))); have n1_ := Aside0.mk (below_step (by repeat (with_reducible first | exact HB.out | apply below_alloc | apply pw_below_drewN | apply below_drew1)) hb); clear HB; have HO237 := n0_; have HB := n1_; clear n0_ n1_; clear hb ho16))
      go_ret
      exact ⟨_, by first | rfl | (simp [errW_none, errW_some] <;> rfl) | (simp [*, errW_none, errW_some] <;> rfl), by (with_reducible repeat first | apply Kd.R_alloc | apply Kd.R_drewN | apply Kd.R_drew); exact HO237.out, by repeat (with_reducible first | exact HB.out | apply below_alloc | apply pw_below_drewN | apply below_drew1)⟩
     ·
      rw [if_neg c14] at H; have c14b0 : (a0 == 4) = false := beq_eq_false_iff_ne.mpr c14; have c14b1 : (a0 != 4) = true := bne_iff_ne.mpr c14
      by_cases c17 : a0 = 5
      ·
       rw [if_pos c17] at H; have c17b0 : (a0 == 5) = true := beq_iff_eq.mpr c17; have c17b1 : (a0 != 5) = false := bne_eq_false_iff_eq.mpr c17; clear c17
       obtain ⟨y238, hy238⟩ : ∃ y_ : List Int, y_ = (([218, 180, 148, 122, 100, 82, 67, 54, 43, 34, 26, 19, 14, 10, 6, 3, 0] : List Int)) := ⟨_, rfl⟩
       replace H : (some y238) = some r := by first | (rw [hy238]; with_reducible exact H) | (have H2_ := (Option.bind_some _ _).symm.trans H; rw [hy238]; with_reducible exact H2_) | (have H2_ := (Option.bind_some _ _).symm.trans H; with_reducible exact H2_) | with_reducible exact H | (rw [hy238]; exact H) | exact H
       have Ny238 := Aside0.mk hy238; clear hy238
       obtain rfl := Option.some.inj H
       go_enter Try.func6, Try.ntmps6
       go_wp2_with (first | ((with_reducible refine gate_dst (N := 21) rfl ?_); refine Kd.R_lit (Kd.int .i64) _ 3 ?hg (N := 21) ?hd (xs := ([218, 180, 148, 122, 100, 82, 67, 54, 43, 34, 26, 19, 14, 10, 6, 3, 0] : List Int)) (inner := [.int .i64 218, .int .i64 180, .int .i64 148, .int .i64 122, .int .i64 100, .int .i64 82, .int .i64 67, .int .i64 54, .int .i64 43, .int .i64 34, .int .i64 26, .int .i64 19, .int .i64 14, .int .i64 10, .int .i64 6, .int .i64 3, .int .i64 0]) (ok := fun _ => True) (okp := fun _ => True) ?hr ?hp (fun _ hk => hk) trivial (Below.refl _ _) (Nat.le_refl _) (by simp) ?_; (case hd => rfl); (case hg => rfl); (case hr => first | (go_simp; done) | (go_simp; rfl)); (case hp => exact (Reps.one (show Kd.M (Kd.int .i64) _ _ _ 218 [.int .i64 218] from rfl) (Reps.one (show Kd.M (Kd.int .i64) _ _ _ 180 [.int .i64 180] from rfl) (Reps.one (show Kd.M (Kd.int .i64) _ _ _ 148 [.int .i64 148] from rfl) (Reps.one (show Kd.M (Kd.int .i64) _ _ _ 122 [.int .i64 122] from rfl) (Reps.one (show Kd.M (Kd.int .i64) _ _ _ 100 [.int .i64 100] from rfl) (Reps.one (show Kd.M (Kd.int .i64) _ _ _ 82 [.int .i64 82] from rfl) (Reps.one (show Kd.M (Kd.int .i64) _ _ _ 67 [.int .i64 67] from rfl) (Reps.one (show Kd.M (Kd.int .i64) _ _ _ 54 [.int .i64 54] from rfl) (Reps.one (show Kd.M (Kd.int .i64) _ _ _ 43 [.int .i64 43] from rfl) (Reps.one (show Kd.M (Kd.int .i64) _ _ _ 34 [.int .i64 34] from rfl) (Reps.one (show Kd.M (Kd.int .i64) _ _ _ 26 [.int .i64 26] from rfl) (Reps.one (show Kd.M (Kd.int .i64) _ _ _ 19 [.int .i64 19] from rfl) (Reps.one (show Kd.M (Kd.int .i64) _ _ _ 14 [.int .i64 14] from rfl) (Reps.one (show Kd.M (Kd.int .i64) _ _ _ 10 [.int .i64 10] from rfl) (Reps.one (show Kd.M (Kd.int .i64) _ _ _ 6 [.int .i64 6] from rfl) (Reps.one (show Kd.M (Kd.int .i64) _ _ _ 3 [.int .i64 3] from rfl) (Reps.one (show Kd.M (Kd.int .i64) _ _ _ 0 [.int .i64 0] from rfl) (Reps.none _ _))))))))))))))))))); intro v239 w18 ho19 hb hg_ hnew_; clear hg_ hnew_; (first | rw [← Ny238.out] at ho19 | (simp only [Int.reduceToNat] at ho19; rw [← Ny238.out] at ho19)); have n0_ := Aside0.mk (Kd.R_lower ho19 (below_size (by repeat (with_reducible first | exact HB.out | apply below_alloc | apply pw_below_drewN | apply below_drew1)))); have n1_ := Aside0.mk (below_step (by repeat (with_reducible first | exact HB.out | apply below_alloc | apply pw_below_drewN | apply below_drew1)) hb); clear HB; have HO240 := n0_; have HB := n1_; clear n0_ n1_; clear hb ho19))
       go_ret
       exact ⟨_, by first | rfl | (simp [errW_none, errW_some] <;> rfl) | (simp [*, errW_none, errW_some] <;> rfl), by (with_reducible repeat first | apply Kd.R_alloc | apply Kd.R_drewN | apply Kd.R_drew); exact HO240.out, by repeat (with_reducible first | exact HB.out | apply below_alloc | apply pw_below_drewN | apply below_drew1)⟩
      ·
       rw [if_neg c17] at H; have c17b0 : (a0 == 5) = false := beq_eq_false_iff_ne.mpr c17; have c17b1 : (a0 != 5) = true := bne_iff_ne.mpr c17
       by_cases c20 : a0 = 6
       ·
        rw [if_pos c20] at H; have c20b0 : (a0 == 6) = true := beq_iff_eq.mpr c20; have c20b1 : (a0 != 6) = false := bne_eq_false_iff_eq.mpr c20; clear c20
        obtain ⟨y241, hy241⟩ : ∃ y_ : List Int, y_ = (([205, 163, 128, 97, 70, 44, 20, 0] : List Int)) := ⟨_, rfl⟩
        replace H : (some y241) = some r := by first | (rw [hy241]; with_reducible exact H) | (have H2_ := (Option.bind_some _ _).symm.trans H; rw [hy241]; with_reducible exact H2_) | (have H2_ := (Option.bind_some _ _).symm.trans H; with_reducible exact H2_) | with_reducible exact H | (rw [hy241]; exact H) | exact H
        have Ny241 := Aside0.mk hy241; clear hy241
        obtain rfl := Option.some.inj H
        go_enter Try.func6, Try.ntmps6
        go_wp2_with (first | ((with_reducible refine gate_dst (N := 24) rfl ?_); refine Kd.R_lit (Kd.int .i64) _ 3 ?hg (N := 24) ?hd (xs := ([205, 163, 128, 97, 70, 44, 20, 0] : List Int)) (inner := [.int .i64 205, .int .i64 163, .int .i64 128, .int .i64 97, .int .i64 70, .int .i64 44, .int .i64 20, .int .i64 0]) (ok := fun _ => True) (okp := fun _ => True) ?hr ?hp (fun _ hk => hk) trivial (Below.refl _ _) (Nat.le_refl _) (by simp) ?_; (case hd => rfl); (case hg => rfl); (case hr => first | (go_simp; done) | (go_simp; rfl)); (case hp => exact (Reps.one (show Kd.M (Kd.int .i64) _ _ _ 205 [.int .i64 205] from rfl) (Reps.one (show Kd.M (Kd.int .i64) _ _ _ 163 [.int .i64 163] from rfl) (Reps.one (show Kd.M (Kd.int .i64) _ _ _ 128 [.int .i64 128] from rfl) (Reps.one (show Kd.M (Kd.int .i64) _ _ _ 97 [.int .i64 97] from rfl) (Reps.one (show Kd.M (Kd.int .i64) _ _ _ 70 [.int .i64 70] from rfl) (Reps.one (show Kd.M (Kd.int .i64) _ _ _ 44 [.int .i64 44] from rfl) (Reps.one (show Kd.M (Kd.int .i64) _ _ _ 20 [.int .i64 20] from rfl) (Reps.one (show Kd.M (Kd.int .i64) _ _ _ 0 [.int .i64 0] from rfl) (Reps.none _ _)))))))))); intro v242 w21 ho22 hb hg_ hnew_; clear hg_ hnew_; (first | rw [← Ny241.out] at ho22 | (simp only [Int.reduceToNat] at ho22; rw [← Ny241.out] at ho22)); have n0_ := Aside0.mk (Kd.R_lower ho22 (below_size (by repeat (with_reducible first | exact HB.out | apply below_alloc | apply pw_below_drewN | apply below_drew1)))); have n1_ := Aside0.mk (below_step (by repeat (with_reducible first | exact HB.out | apply below_alloc | apply pw_below_drewN | apply below_drew1)) hb); clear HB; have HO243 := n0_; have HB := n1_; clear n0_ n1_; clear hb ho22))
        go_ret
        exact ⟨_, by first | rfl | (simp [errW_none, errW_some] <;> rfl) | (simp [*, errW_none, errW_some] <;> rfl), by (with_reducible repeat first | apply Kd.R_alloc | apply Kd.R_drewN | apply Kd.R_drew); exact HO243.out, by repeat (with_reducible first | exact HB.out | apply below_alloc | apply pw_below_drewN | apply below_drew1)⟩
       ·
        rw [if_neg c20] at H; have c20b0 : (a0 == 6) = false := beq_eq_false_iff_ne.mpr c20; have c20b1 : (a0 != 6) = true := bne_iff_ne.mpr c20
        by_cases c23 : a0 = 7
        ·
         rw [if_pos c23] at H; have c23b0 : (a0 == 7) = true := beq_iff_eq.mpr c23; have c23b1 : (a0 != 7) = false := bne_eq_false_iff_eq.mpr c23; clear c23
         obtain ⟨y244, hy244⟩ : ∃ y_ : List Int, y_ = (([231, 155, 38, 0] : List Int)) := ⟨_, rfl⟩
         replace H : (some y244) = some r := by first | (rw [hy244]; with_reducible exact H) | (have H2_ := (Option.bind_some _ _).symm.trans H; rw [hy244]; with_reducible exact H2_) | (have H2_ := (Option.bind_some _ _).symm.trans H; with_reducible exact H2_) | with_reducible exact H | (rw [hy244]; exact H) | exact H
         have Ny244 := Aside0.mk hy244; clear hy244
         obtain rfl := Option.some.inj H
         go_enter Try.func6, Try.ntmps6
         go_wp2_with (first | ((with_reducible refine gate_dst (N := 27) rfl ?_); refine Kd.R_lit (Kd.int .i64) _ 3 ?hg (N := 27) ?hd (xs := ([231, 155, 38, 0] : List Int)) (inner := [.int .i64 231, .int .i64 155, .int .i64 38, .int .i64 0]) (ok := fun _ => True) (okp := fun _ => True) ?hr ?hp (fun _ hk => hk) trivial (Below.refl _ _) (Nat.le_refl _) (by simp) ?_; (case hd => rfl); (case hg => rfl); (case hr => first | (go_simp; done) | (go_simp; rfl)); (case hp => exact (Reps.one (show Kd.M (Kd.int .i64) _ _ _ 231 [.int .i64 231] from rfl) (Reps.one (show Kd.M (Kd.int .i64) _ _ _ 155 [.int .i64 155] from rfl) (Reps.one (show Kd.M (Kd.int .i64) _ _ _ 38 [.int .i64 38] from rfl) (Reps.one (show Kd.M (Kd.int .i64) _ _ _ 0 [.int .i64 0] from rfl) (Reps.none _ _)))))); intro v245 w24 ho25 hb hg_ hnew_; clear hg_ hnew_; (first | rw [← Ny244.out] at ho25 | (simp only [Int.reduceToNat] at ho25; rw [← Ny244.out] at ho25)); have n0_ := Aside0.mk (Kd.R_lower ho25 (below_size (by repeat (with_reducible first | exact HB.out | apply below_alloc | apply pw_below_drewN | apply below_drew1)))); have n1_ := Aside0.mk (below_step (by repeat (with_reducible first | exact HB.out | apply below_alloc | apply pw_below_drewN | apply below_drew1)) hb); clear HB; have HO246 := n0_; have HB := n1_; clear n0_ n1_; clear hb ho25))
         go_ret
         exact ⟨_, by first | rfl | (simp [errW_none, errW_some] <;> rfl) | (simp [*, errW_none, errW_some] <;> rfl), by (with_reducible repeat first | apply Kd.R_alloc | apply Kd.R_drewN | apply Kd.R_drew); exact HO246.out, by repeat (with_reducible first | exact HB.out | apply below_alloc | apply pw_below_drewN | apply below_drew1)⟩
        ·
         rw [if_neg c23] at H; have c23b0 : (a0 == 7) = false := beq_eq_false_iff_ne.mpr c23; have c23b1 : (a0 != 7) = true := bne_iff_ne.mpr c23
         by_cases c26 : a0 = 8
         ·
          rw [if_pos c26] at H; have c26b0 : (a0 == 8) = true := beq_iff_eq.mpr c26; have c26b1 : (a0 != 8) = false := bne_eq_false_iff_eq.mpr c26; clear c26
          obtain ⟨y247, hy247⟩ : ∃ y_ : List Int, y_ = (([192, 128, 64, 0] : List Int)) := ⟨_, rfl⟩
          replace H : (some y247) = some r := by first | (rw [hy247]; with_reducible exact H) | (have H2_ := (Option.bind_some _ _).symm.trans H; rw [hy247]; with_reducible exact H2_) | (have H2_ := (Option.bind_some _ _).symm.trans H; with_reducible exact H2_) | with_reducible exact H | (rw [hy247]; exact H) | exact H
          have Ny247 := Aside0.mk hy247; clear hy247
          obtain rfl := Option.some.inj H
          go_enter Try.func6, Try.ntmps6
          go_wp2_with (first | ((with_reducible refine gate_dst (N := 30) rfl ?_); refine Kd.R_lit (Kd.int .i64) _ 3 ?hg (N := 30) ?hd (xs := ([192, 128, 64, 0] : List Int)) (inner := [.int .i64 192, .int .i64 128, .int .i64 64, .int .i64 0]) (ok := fun _ => True) (okp := fun _ => True) ?hr ?hp (fun _ hk => hk) trivial (Below.refl _ _) (Nat.le_refl _) (by simp) ?_; (case hd => rfl); (case hg => rfl); (case hr => first | (go_simp; done) | (go_simp; rfl)); (case hp => exact (Reps.one (show Kd.M (Kd.int .i64) _ _ _ 192 [.int .i64 192] from rfl) (Reps.one (show Kd.M (Kd.int .i64) _ _ _ 128 [.int .i64 128] from rfl) (Reps.one (show Kd.M (Kd.int .i64) _ _ _ 64 [.int .i64 64] from rfl) (Reps.one (show Kd.M (Kd.int .i64) _ _ _ 0 [.int .i64 0] from rfl) (Reps.none _ _)))))); intro v248 w27 ho28 hb hg_ hnew_; clear hg_ hnew_; (first | rw [← Ny247.out] at ho28 | (simp only [Int.reduceToNat] at ho28; rw [← Ny247.out] at ho28)); have n0_ := Aside0.mk (Kd.R_lower ho28 (below_size (by repeat (with_reducible first | exact HB.out | apply below_alloc | apply pw_below_drewN | apply below_drew1)))); have n1_ := Aside0.mk (below_step (by repeat (with_reducible first | exact HB.out | apply below_alloc | apply pw_below_drewN | apply below_drew1)) hb); clear HB; have HO249 := n0_; have HB := n1_; clear n0_ n1_; clear hb ho28))
          go_ret
          exact ⟨_, by first | rfl | (simp [errW_none, errW_some] <;> rfl) | (simp [*, errW_none, errW_some] <;> rfl), by (with_reducible repeat first | apply Kd.R_alloc | apply Kd.R_drewN | apply Kd.R_drew); exact HO249.out, by repeat (with_reducible first | exact HB.out | apply below_alloc | apply pw_below_drewN | apply below_drew1)⟩
         ·
          rw [if_neg c26] at H; have c26b0 : (a0 == 8) = false := beq_eq_false_iff_ne.mpr c26; have c26b1 : (a0 != 8) = true := bne_iff_ne.mpr c26
          obtain rfl := Option.some.inj H
          go_enter Try.func6, Try.ntmps6
          go_wp2
          go_ret
          exact ⟨_, by first | rfl | (simp [errW_none, errW_some] <;> rfl) | (simp [*, errW_none, errW_some] <;> rfl), by first | exact Kd.R_nil _ _ _ _ _ | exact Kd.N_nil _ _ _ _ _ | exact Kd.V_nil _ _ _ _ _ | exact Kd.Q_nil _ _ _ _ _ | exact Kd.S_nil _ _ _ _ _, by repeat (with_reducible first | exact HB.out | apply below_alloc | apply pw_below_drewN | apply below_drew1)⟩

/-! ### madrigalref1_Edges: function 8 -/
def madrigalref1_Edges.f (a0 : Int) : Option (List Int) := (some (([0, 1, 2, 3, 4, 5, 6, 7, 8, 10, 12, 14, 16, 20, 24, 28, 34, 40, 48, 60] : List Int) : List Int)).bind fun y250 => (if a0 = 8000 then (if 14 ≤ (y250.length : Int) then (some (y250.take (14 : Int).toNat)) else (none)) else (if a0 = 16000 then (if 18 ≤ (y250.length : Int) then (some (y250.take (18 : Int).toNat)) else (none)) else (if a0 = 24000 then (some y250) else (some ([] : List Int)))))
set_option maxHeartbeats 8000000 in
set_option maxRecDepth 100000 in
theorem madrigalref1_Edges.calls (a0 : Int) (r : List Int) (w : World) (h : madrigalref1_Edges.f a0 = some r) :
  Calls Try.prog 8 #[.int .i64 a0] w fun e w' => ∃ v0_ : Value, e = .returned (v0_) ∧ Kd.R (Kd.int .i64) 3 w' w.heap.size (fun _ => True) v0_ r ∧ Below w.heap.size w w' := by
 have HB := Aside0.mk (Below.refl w.heap.size w)
 have H : ((some (([0, 1, 2, 3, 4, 5, 6, 7, 8, 10, 12, 14, 16, 20, 24, 28, 34, 40, 48, 60] : List Int) : List Int)).bind fun y250 => (if a0 = 8000 then (if 14 ≤ (y250.length : Int) then (some (y250.take (14 : Int).toNat)) else (none)) else (if a0 = 16000 then (if 18 ≤ (y250.length : Int) then (some (y250.take (18 : Int).toNat)) else (none)) else (if a0 = 24000 then (some y250) else (some ([] : List Int)))))) = some r := h
 clear h
 obtain ⟨y250, hy250⟩ : ∃ y_ : List Int, y_ = (([0, 1, 2, 3, 4, 5, 6, 7, 8, 10, 12, 14, 16, 20, 24, 28, 34, 40, 48, 60] : List Int)) := ⟨_, rfl⟩
 replace H : (if a0 = 8000 then (if 14 ≤ (y250.length : Int) then (some (y250.take (14 : Int).toNat)) else (none)) else (if a0 = 16000 then (if 18 ≤ (y250.length : Int) then (some (y250.take (18 : Int).toNat)) else (none)) else (if a0 = 24000 then (some y250) else (some ([] : List Int))))) = some r := by first | (rw [hy250]; with_reducible exact H) | (have H2_ := (Option.bind_some _ _).symm.trans H; rw [hy250]; with_reducible exact H2_) | (have H2_ := (Option.bind_some _ _).symm.trans H; with_reducible exact H2_) | with_reducible exact H | (rw [hy250]; exact H) | exact H
 have Ny250 := Aside0.mk hy250; clear hy250
 by_cases c2 : a0 = 8000
 ·
  rw [if_pos c2] at H; have c2b0 : (a0 == 8000) = true := beq_iff_eq.mpr c2; have c2b1 : (a0 != 8000) = false := bne_eq_false_iff_eq.mpr c2; clear c2
  by_cases c3 : 14 ≤ (y250.length : Int); rotate_left
  · rw [if_neg c3] at H; exact absurd H (by simp)
  rw [if_pos c3] at H; have c3b0 := eq_true c3; have c3b1 : decide (14 ≤ (y250.length : Int)) = true := decide_eq_true c3; clear c3
  obtain ⟨y253, hy253⟩ : ∃ y_ : List Int, y_ = (y250.take (14 : Int).toNat) := ⟨_, rfl⟩
  replace H : (some y253) = some r := by first | (rw [hy253]; with_reducible exact H) | (have H2_ := (Option.bind_some _ _).symm.trans H; rw [hy253]; with_reducible exact H2_) | (have H2_ := (Option.bind_some _ _).symm.trans H; with_reducible exact H2_) | with_reducible exact H | (rw [hy253]; exact H) | exact H
  have Ny253 := Aside0.mk hy253; clear hy253
  obtain rfl := Option.some.inj H
  go_enter Try.func8, Try.ntmps8
  go_wp2_with (first | ((with_reducible refine gate_dst (N := 4) rfl ?_); refine Kd.R_lit (Kd.int .i64) _ 3 ?hg (N := 4) ?hd (xs := ([0, 1, 2, 3, 4, 5, 6, 7, 8, 10, 12, 14, 16, 20, 24, 28, 34, 40, 48, 60] : List Int)) (inner := [.int .i64 0, .int .i64 1, .int .i64 2, .int .i64 3, .int .i64 4, .int .i64 5, .int .i64 6, .int .i64 7, .int .i64 8, .int .i64 10, .int .i64 12, .int .i64 14, .int .i64 16, .int .i64 20, .int .i64 24, .int .i64 28, .int .i64 34, .int .i64 40, .int .i64 48, .int .i64 60]) (ok := fun _ => True) (okp := fun _ => True) ?hr ?hp (fun _ hk => hk) trivial (Below.refl _ _) (Nat.le_refl _) (by simp) ?_; (case hd => rfl); (case hg => rfl); (case hr => first | (go_simp; done) | (go_simp; rfl)); (case hp => exact (Reps.one (show Kd.M (Kd.int .i64) _ _ _ 0 [.int .i64 0] from rfl) (Reps.one (show Kd.M (Kd.int .i64) _ _ _ 1 [.int .i64 1] from rfl) (Reps.one (show Kd.M (Kd.int .i64) _ _ _ 2 [.int .i64 2] from rfl) (Reps.one (show Kd.M (Kd.int .i64) _ _ _ 3 [.int .i64 3] from rfl) (Reps.one (show Kd.M (Kd.int .i64) _ _ _ 4 [.int .i64 4] from rfl) (Reps.one (show Kd.M (Kd.int .i64) _ _ _ 5 [.int .i64 5] from rfl) (Reps.one (show Kd.M (Kd.int .i64) _ _ _ 6 [.int .i64 6] from rfl) (Reps.one (show Kd.M (Kd.int .i64) _ _ _ 7 [.int .i64 7] from rfl) (Reps.one (show Kd.M (Kd.int .i64) _ _ _ 8 [.int .i64 8] from rfl) (Reps.one (show Kd.M (Kd.int .i64) _ _ _ 10 [.int .i64 10] from rfl) (Reps.one (show Kd.M (Kd.int .i64) _ _ _ 12 [.int .i64 12] from rfl) (Reps.one (show Kd.M (Kd.int .i64) _ _ _ 14 [.int .i64 14] from rfl) (Reps.one (show Kd.M (Kd.int .i64) _ _ _ 16 [.int .i64 16] from rfl) (Reps.one (show Kd.M (Kd.int .i64) _ _ _ 20 [.int .i64 20] from rfl) (Reps.one (show Kd.M (Kd.int .i64) _ _ _ 24 [.int .i64 24] from rfl) (Reps.one (show Kd.M (Kd.int .i64) _ _ _ 28 [.int .i64 28] from rfl) (Reps.one (show Kd.M (Kd.int .i64) _ _ _ 34 [.int .i64 34] from rfl) (Reps.one (show Kd.M (Kd.int .i64) _ _ _ 40 [.int .i64 40] from rfl) (Reps.one (show Kd.M (Kd.int .i64) _ _ _ 48 [.int .i64 48] from rfl) (Reps.one (show Kd.M (Kd.int .i64) _ _ _ 60 [.int .i64 60] from rfl) (Reps.none _ _)))))))))))))))))))))); intro v251 w4 ho5 hb hg_ hnew_; clear hg_ hnew_; (first | rw [← Ny250.out] at ho5 | (simp only [Int.reduceToNat] at ho5; rw [← Ny250.out] at ho5)); have n0_ := Aside0.mk (Kd.R_lower ho5 (below_size (by repeat (with_reducible first | exact HB.out | apply below_alloc | apply pw_below_drewN | apply below_drew1)))); have n1_ := Aside0.mk (below_step (by repeat (with_reducible first | exact HB.out | apply below_alloc | apply pw_below_drewN | apply below_drew1)) hb); clear HB; have HO252 := n0_; have HB := n1_; clear n0_ n1_; clear hb ho5; obtain ⟨Ao6, co6, eo6⟩ := Kd.R_slice HO252.out; subst eo6; have q7 : (14 : Int) ≤ ((y250.length : Int) : Int) := of_decide_eq_true (by first | (with_reducible assumption) | assumption); obtain ⟨i07, hi07, _, hsz7, _⟩ := info_parts info3; have hcut7 := cut_to (P := Try.prog) 23 3 .i64 Try.underlying23 hi07 Ao6 y250.length co6 14 (by omega) q7 (Kd.R_reads' HO252.out).2.1; have hr7 := Kd.R_take (m := (14 : Int).toNat) HO252.out (by omega); have hy7 : y253.length = (14 : Int).toNat := (by rw [Ny253.out, List.length_take]; omega); rw [← Ny253.out] at hr7; rw [← hy7] at hr7 hcut7; clear hy7 hi07 hsz7 HO252; have HO255 := Aside0.mk hr7; clear hr7; replace q7 := eq_true q7))
  go_ret
  exact ⟨_, by first | rfl | (simp [errW_none, errW_some] <;> rfl) | (simp [*, errW_none, errW_some] <;> rfl), by (with_reducible repeat first | apply Kd.R_alloc | apply Kd.R_drewN | apply Kd.R_drew); exact HO255.out, by repeat (with_reducible first | exact HB.out | apply below_alloc | apply pw_below_drewN | apply below_drew1)⟩
 ·
  rw [if_neg c2] at H; have c2b0 : (a0 == 8000) = false := beq_eq_false_iff_ne.mpr c2; have c2b1 : (a0 != 8000) = true := bne_iff_ne.mpr c2
  by_cases c8 : a0 = 16000
  ·
   rw [if_pos c8] at H; have c8b0 : (a0 == 16000) = true := beq_iff_eq.mpr c8; have c8b1 : (a0 != 16000) = false := bne_eq_false_iff_eq.mpr c8; clear c8
   by_cases c9 : 18 ≤ (y250.length : Int); rotate_left
   · rw [if_neg c9] at H; exact absurd H (by simp)
   rw [if_pos c9] at H; have c9b0 := eq_true c9; have c9b1 : decide (18 ≤ (y250.length : Int)) = true := decide_eq_true c9; clear c9
   obtain ⟨y256, hy256⟩ : ∃ y_ : List Int, y_ = (y250.take (18 : Int).toNat) := ⟨_, rfl⟩
   replace H : (some y256) = some r := by first | (rw [hy256]; with_reducible exact H) | (have H2_ := (Option.bind_some _ _).symm.trans H; rw [hy256]; with_reducible exact H2_) | (have H2_ := (Option.bind_some _ _).symm.trans H; with_reducible exact H2_) | with_reducible exact H | (rw [hy256]; exact H) | exact H
   have Ny256 := Aside0.mk hy256; clear hy256
   obtain rfl := Option.some.inj H
   go_enter Try.func8, Try.ntmps8
   go_wp2_with (first | ((with_reducible refine gate_dst (N := 4) rfl ?_); refine Kd.R_lit (Kd.int .i64) _ 3 ?hg (N := 4) ?hd (xs := ([0, 1, 2, 3, 4, 5, 6, 7, 8, 10, 12, 14, 16, 20, 24, 28, 34, 40, 48, 60] : List Int)) (inner := [.int .i64 0, .int .i64 1, .int .i64 2, .int .i64 3, .int .i64 4, .int .i64 5, .int .i64 6, .int .i64 7, .int .i64 8, .int .i64 10, .int .i64 12, .int .i64 14, .int .i64 16, .int .i64 20, .int .i64 24, .int .i64 28, .int .i64 34, .int .i64 40, .int .i64 48, .int .i64 60]) (ok := fun _ => True) (okp := fun _ => True) ?hr ?hp (fun _ hk => hk) trivial (Below.refl _ _) (Nat.le_refl _) (by simp) ?_; (case hd => rfl); (case hg => rfl); (case hr => first | (go_simp; done) | (go_simp; rfl)); (case hp => exact (Reps.one (show Kd.M (Kd.int .i64) _ _ _ 0 [.int .i64 0] from rfl) (Reps.one (show Kd.M (Kd.int .i64) _ _ _ 1 [.int .i64 1] from rfl) (Reps.one (show Kd.M (Kd.int .i64) _ _ _ 2 [.int .i64 2] from rfl) (Reps.one (show Kd.M (Kd.int .i64) _ _ _ 3 [.int .i64 3] from rfl) (Reps.one (show Kd.M (Kd.int .i64) _ _ _ 4 [.int .i64 4] from rfl) (Reps.one (show Kd.M (Kd.int .i64) _ _ _ 5 [.int .i64 5] from rfl) (Reps.one (show Kd.M (Kd.int .i64) _ _ _ 6 [.int .i64 6] from rfl) (Reps.one (show Kd.M (Kd.int .i64) _ _ _ 7 [.int .i64 7] from rfl) (Reps.one (show Kd.M (Kd.int .i64) _ _ _ 8 [.int .i64 8] from rfl) (Reps.one (show Kd.M (Kd.int .i64) _ _ _ 10 [.int .i64 10] from rfl) (Reps.one (show Kd.M (Kd.int .i64) _ _ _ 12 [.int .i64 12] from rfl) (Reps.one (show Kd.M (Kd.int .i64) _ _ _ 14 [.int .i64 14] from rfl) (Reps.one (show Kd.M (Kd.int .i64) _ _ _ 16 [.int .i64 16] from rfl) (Reps.one (show Kd.M (Kd.int .i64) _ _ _ 20 [.int .i64 20] from rfl) (Reps.one (show Kd.M (Kd.int .i64) _ _ _ 24 [.int .i64 24] from rfl) (Reps.one (show Kd.M (Kd.int .i64) _ _ _ 28 [.int .i64 28] from rfl) (Reps.one (show Kd.M (Kd.int .i64) _ _ _ 34 [.int .i64 34] from rfl) (Reps.one (show Kd.M (Kd.int .i64) _ _ _ 40 [.int .i64 40] from rfl) (Reps.one (show Kd.M (Kd.int .i64) _ _ _ 48 [.int .i64 48] from rfl) (Reps.one (show Kd.M (Kd.int .i64) _ _ _ 60 [.int .i64 60] from rfl) (Reps.none _ _)))))))))))))))))))))); intro v251 w10 ho11 hb hg_ hnew_; clear hg_ hnew_; (first | rw [← Ny250.out] at ho11 | (simp only [Int.reduceToNat] at ho11; rw [← Ny250.out] at ho11)); have n0_ := Aside0.mk (Kd.R_lower ho11 (below_size (by repeat (with_reducible first | exact HB.out | apply below_alloc | apply pw_below_drewN | apply below_drew1)))); have n1_ := Aside0.mk (below_step (by repeat (with_reducible first | exact HB.out | apply below_alloc | apply pw_below_drewN | apply below_drew1)) hb); clear HB; have HO252 := n0_; have HB := n1_; clear n0_ n1_; clear hb ho11; obtain ⟨Ao12, co12, eo12⟩ := Kd.R_slice HO252.out; subst eo12; have q13 : (18 : Int) ≤ ((y250.length : Int) : Int) := of_decide_eq_true (by first | (with_reducible assumption) | assumption); obtain ⟨i013, hi013, _, hsz13, _⟩ := info_parts info3; have hcut13 := cut_to (P := Try.prog) 23 3 .i64 Try.underlying23 hi013 Ao12 y250.length co12 18 (by omega) q13 (Kd.R_reads' HO252.out).2.1; have hr13 := Kd.R_take (m := (18 : Int).toNat) HO252.out (by omega); have hy13 : y256.length = (18 : Int).toNat := (by rw [Ny256.out, List.length_take]; omega); rw [← Ny256.out] at hr13; rw [← hy13] at hr13 hcut13; clear hy13 hi013 hsz13 HO252; have HO258 := Aside0.mk hr13; clear hr13; replace q13 := eq_true q13))
   go_ret
   exact ⟨_, by first | rfl | (simp [errW_none, errW_some] <;> rfl) | (simp [*, errW_none, errW_some] <;> rfl), by (with_reducible repeat first | apply Kd.R_alloc | apply Kd.R_drewN | apply Kd.R_drew); exact HO258.out, by repeat (with_reducible first | exact HB.out | apply below_alloc | apply pw_below_drewN | apply below_drew1)⟩
  ·
   rw [if_neg c8] at H; have c8b0 : (a0 == 16000) = false := beq_eq_false_iff_ne.mpr c8; have c8b1 : (a0 != 16000) = true := bne_iff_ne.mpr c8
   by_cases c14 : a0 = 24000
   ·
    rw [if_pos c14] at H; have c14b0 : (a0 == 24000) = true := beq_iff_eq.mpr c14; have c14b1 : (a0 != 24000) = false := bne_eq_false_iff_eq.mpr c14; clear c14
    obtain rfl := Option.some.inj H
    go_enter Try.func8, Try.ntmps8
    go_wp2_with (first | ((with_reducible refine gate_dst (N := 4) rfl ?_); refine Kd.R_lit (Kd.int .i64) _ 3 ?hg (N := 4) ?hd (xs := ([0, 1, 2, 3, 4, 5, 6, 7, 8, 10, 12, 14, 16, 20, 24, 28, 34, 40, 48, 60] : List Int)) (inner := [.int .i64 0, .int .i64 1, .int .i64 2, .int .i64 3, .int .i64 4, .int .i64 5, .int .i64 6, .int .i64 7, .int .i64 8, .int .i64 10, .int .i64 12, .int .i64 14, .int .i64 16, .int .i64 20, .int .i64 24, .int .i64 28, .int .i64 34, .int .i64 40, .int .i64 48, .int .i64 60]) (ok := fun _ => True) (okp := fun _ => True) ?hr ?hp (fun _ hk => hk) trivial (Below.refl _ _) (Nat.le_refl _) (by simp) ?_; (case hd => rfl); (case hg => rfl); (case hr => first | (go_simp; done) | (go_simp; rfl)); (case hp => exact (Reps.one (show Kd.M (Kd.int .i64) _ _ _ 0 [.int .i64 0] from rfl) (Reps.one (show Kd.M (Kd.int .i64) _ _ _ 1 [.int .i64 1] from rfl) (Reps.one (show Kd.M (Kd.int .i64) _ _ _ 2 [.int .i64 2] from rfl) (Reps.one (show Kd.M (Kd.int .i64) _ _ _ 3 [.int .i64 3] from rfl) (Reps.one (show Kd.M (Kd.int .i64) _ _ _ 4 [.int .i64 4] from rfl) (Reps.one (show Kd.M (Kd.int .i64) _ _ _ 5 [.int .i64 5] from rfl) (Reps.one (show Kd.M (Kd.int .i64) _ _ _ 6 [.int .i64 6] from rfl) (Reps.one (show Kd.M (Kd.int .i64) _ _ _ 7 [.int .i64 7] from rfl) (Reps.one (show Kd.M (Kd.int .i64) _ _ _ 8 [.int .i64 8] from rfl) (Reps.one (show Kd.M (Kd.int .i64) _ _ _ 10 [.int .i64 10] from rfl) (Reps.one (show Kd.M (Kd.int .i64) _ _ _ 12 [.int .i64 12] from rfl) (Reps.one (show Kd.M (Kd.int .i64) _ _ _ 14 [.int .i64 14] from rfl) (Reps.one (show Kd.M (Kd.int .i64) _ _ _ 16 [.int .i64 16] from rfl) (Reps.one (show Kd.M (Kd.int .i64) _ _ _ 20 [.int .i64 20] from rfl) (Reps.one (show Kd.M (Kd.int .i64) _ _ _ 24 [.int .i64 24] from rfl) (Reps.one (show Kd.M (Kd.int .i64) _ _ _ 28 [.int .i64 28] from rfl) (Reps.one (show Kd.M (Kd.int .i64) _ _ _ 34 [.int .i64 34] from rfl) (Reps.one (show Kd.M (Kd.int .i64) _ _ _ 40 [.int .i64 40] from rfl) (Reps.one (show Kd.M (Kd.int .i64) _ _ _ 48 [.int .i64 48] from rfl) (Reps.one (show Kd.M (Kd.int .i64) _ _ _ 60 [.int .i64 60] from rfl) (Reps.none _ _)))))))))))))))))))))); intro v251 w15 ho16 hb hg_ hnew_; clear hg_ hnew_; (first | rw [← Ny250.out] at ho16 | (simp only [Int.reduceToNat] at ho16; rw [← Ny250.out] at ho16)); have n0_ := Aside0.mk (Kd.R_lower ho16 (below_size (by repeat (with_reducible first | exact HB.out | apply below_alloc | apply pw_below_drewN | apply below_drew1)))); have n1_ := Aside0.mk (below_step (by repeat (with_reducible first | exact HB.out | apply below_alloc | apply pw_below_drewN | apply below_drew1)) hb); clear HB; have HO252 := n0_; have HB := n1_; clear n0_ n1_; clear hb ho16))
    go_ret
    exact ⟨_, by first | rfl | (simp [errW_none, errW_some] <;> rfl) | (simp [*, errW_none, errW_some] <;> rfl), by (with_reducible repeat first | apply Kd.R_alloc | apply Kd.R_drewN | apply Kd.R_drew); exact HO252.out, by repeat (with_reducible first | exact HB.out | apply below_alloc | apply pw_below_drewN | apply below_drew1)⟩
   ·
    rw [if_neg c14] at H; have c14b0 : (a0 == 24000) = false := beq_eq_false_iff_ne.mpr c14; have c14b1 : (a0 != 24000) = true := bne_iff_ne.mpr c14
    obtain rfl := Option.some.inj H
    go_enter Try.func8, Try.ntmps8
    go_wp2_with (first | ((with_reducible refine gate_dst (N := 4) rfl ?_); refine Kd.R_lit (Kd.int .i64) _ 3 ?hg (N := 4) ?hd (xs := ([0, 1, 2, 3, 4, 5, 6, 7, 8, 10, 12, 14, 16, 20, 24, 28, 34, 40, 48, 60] : List Int)) (inner := [.int .i64 0, .int .i64 1, .int .i64 2, .int .i64 3, .int .i64 4, .int .i64 5, .int .i64 6, .int .i64 7, .int .i64 8, .int .i64 10, .int .i64 12, .int .i64 14, .int .i64 16, .int .i64 20, .int .i64 24, .int .i64 28, .int .i64 34, .int .i64 40, .int .i64 48, .int .i64 60]) (ok := fun _ => True) (okp := fun _ => True) ?hr ?hp (fun _ hk => hk) trivial (Below.refl _ _) (Nat.le_refl _) (by simp) ?_; (case hd => rfl); (case hg => rfl); (case hr => first | (go_simp; done) | (go_simp; rfl)); (case hp => exact (Reps.one (show Kd.M (Kd.int .i64) _ _ _ 0 [.int .i64 0] from rfl) (Reps.one (show Kd.M (Kd.int .i64) _ _ _ 1 [.int .i64 1] from rfl) (Reps.one (show Kd.M (Kd.int .i64) _ _ _ 2 [.int .i64 2] from rfl) (Reps.one (show Kd.M (Kd.int .i64) _ _ _ 3 [.int .i64 3] from rfl) (Reps.one (show Kd.M (Kd.int .i64) _ _ _ 4 [.int .i64 4] from rfl) (Reps.one (show Kd.M (Kd.int .i64) _ _ _ 5 [.int .i64 5] from rfl) (Reps.one (show Kd.M (Kd.int .i64) _ _ _ 6 [.int .i64 6] from rfl) (Reps.one (show Kd.M (Kd.int .i64) _ _ _ 7 [.int .i64 7] from rfl) (Reps.one (show Kd.M (Kd.int .i64) _ _ _ 8 [.int .i64 8] from rfl) (Reps.one (show Kd.M (Kd.int .i64) _ _ _ 10 [.int .i64 10] from rfl) (Reps.one (show Kd.M (Kd.int .i64) _ _ _ 12 [.int .i64 12] from rfl) (Reps.one (show Kd.M (Kd.int .i64) _ _ _ 14 [.int .i64 14] from rfl) (Reps.one (show Kd.M (Kd.int .i64) _ _ _ 16 [.int .i64 16] from rfl) (Reps.one (show Kd.M (Kd.int .i64) _ _ _ 20 [.int .i64 20] from rfl) (Reps.one (show Kd.M (Kd.int .i64) _ _ _ 24 [.int .i64 24] from rfl) (Reps.one (show Kd.M (Kd.int .i64) _ _ _ 28 [.int .i64 28] from rfl) (Reps.one (show Kd.M (Kd.int .i64) _ _ _ 34 [.int .i64 34] from rfl) (Reps.one (show Kd.M (Kd.int .i64) _ _ _ 40 [.int .i64 40] from rfl) (Reps.one (show Kd.M (Kd.int .i64) _ _ _ 48 [.int .i64 48] from rfl) (Reps.one (show Kd.M (Kd.int .i64) _ _ _ 60 [.int .i64 60] from rfl) (Reps.none _ _)))))))))))))))))))))); intro v251 w17 ho18 hb hg_ hnew_; clear hg_ hnew_; (first | rw [← Ny250.out] at ho18 | (simp only [Int.reduceToNat] at ho18; rw [← Ny250.out] at ho18)); have n0_ := Aside0.mk (Kd.R_lower ho18 (below_size (by repeat (with_reducible first | exact HB.out | apply below_alloc | apply pw_below_drewN | apply below_drew1)))); have n1_ := Aside0.mk (below_step (by repeat (with_reducible first | exact HB.out | apply below_alloc | apply pw_below_drewN | apply below_drew1)) hb); clear HB; have HO252 := n0_; have HB := n1_; clear n0_ n1_; clear hb ho18))
    go_ret
    exact ⟨_, by first | rfl | (simp [errW_none, errW_some] <;> rfl) | (simp [*, errW_none, errW_some] <;> rfl), by first | exact Kd.R_nil _ _ _ _ _ | exact Kd.N_nil _ _ _ _ _ | exact Kd.V_nil _ _ _ _ _ | exact Kd.Q_nil _ _ _ _ _ | exact Kd.S_nil _ _ _ _ _, by repeat (with_reducible first | exact HB.out | apply below_alloc | apply pw_below_drewN | apply below_drew1)⟩

end Go.Proofs.Ytmfjmbdicjeooaa.MA
