/- The law MdctBack walked. No condition. -/
import Derived.Laws.Cover3
import Derived.Laws.Tables
import Derived.Test.YtnliianjljgcbaaJoinP
import Derived.Test.YtnliianjljgcbaaBackT
namespace Go.Proofs.Ytnliianjljgcbaa.MA
open Go.RowKit Go.Proofs.YtnliianjljgcbaaW.PrintWords Go.Proofs.YtnliianjljgcbaaW.PrintLast Go.Proofs.YtnliianjljgcbaaW.PrintMore Go.Proofs.Ytnliianjljgcbaa.Core Go.Proofs.Ytnliianjljgcbaa.Base Go.Proofs.Ytnliianjljgcbaa.Shape Go.Proofs.Ytnliianjljgcbaa.Dot Go.Proofs.Ytnliianjljgcbaa.Inv Go.Proofs.Ytnliianjljgcbaa.Same Go.Proofs.Ytnliianjljgcbaa.JoinP Go.Proofs.Ytnliianjljgcbaa.Fwd Go.Proofs.Ytnliianjljgcbaa.Kern
attribute [local go_sem] max2_int min2_int max_two min_two max_three min_three max_four min_four
set_option linter.unusedVariables false
set_option linter.unusedSimpArgs false
theorem C_take {w : World} {A : Option Addr} {xs : List Int} (h : Kd.C (Kd.int .i64) w A xs.length xs) (m : Nat) (hm : m ≤ xs.length) : Kd.C (Kd.int .i64) w A (xs.take m).length (xs.take m) := by
 have hl : (xs.take m).length = m := by rw [List.length_take]; omega
 refine ⟨rfl, by have := h.2.1; omega, fun hp => ?_⟩
 obtain ⟨ad, rfl, hcell⟩ := h.2.2 (by omega)
 refine ⟨ad, rfl, fun j p hj => ?_⟩
 rw [List.getElem?_take] at hj
 by_cases c : j < m
 · rw [if_pos c] at hj
   exact hcell j p hj
 · rw [if_neg c] at hj; cases hj
theorem part_getD (x : List Int) (p q m : Nat) (hm : m < q) : ((x.drop p).take q).getD m 0 = x.getD (p + m) 0 := by
 rw [List.getD_eq_getElem?_getD, List.getElem?_take, if_pos hm, List.getElem?_drop, ← List.getD_eq_getElem?_getD]
theorem cut_both (A : Option Addr) (n c : Nat) (l h : Nat) (h1 : l ≤ h) (h2 : h ≤ c) :
  ∀ W : World, (Instr.slice 23 (.slice A n c) (some (.int .i64 (l : Int))) (some (.int .i64 (h : Int))) none).run Try.prog W = .ok (.slice (if c = l then A else A.map (·.add (l * 1))) (h - l) (c - l)) W := by
 intro W
 obtain ⟨i, hi, _, hsz, _⟩ := info_parts info2
 have hel : Try.prog.elem 23 = 2 := by simp [Program.elem, Try.underlying23]
 have hu : Try.prog.underlying 23 = some (.slice (Try.prog.elem 23)) := by rw [hel]; exact Try.underlying23
 rw [run_slice_lh W 23 A n c hu .i64 .i64 (l : Int) (h : Int) (by omega) (by omega) (by omega), hel]
 simp [sizeOf, typeInfo, hi, hsz, sliced, Result.andThen]
set_option maxHeartbeats 16000000 in
set_option maxRecDepth 100000 in
theorem back_walk (n l : Int) (A : Option Addr) (c : Nat) (x : List Int) (w : World) (hl : -9223372036854775808 ≤ l) (hC : Kd.C (Kd.int .i64) w A x.length x) (hc : x.length ≤ c) :
  Calls Try.prog 6 #[.int .i64 n, .int .i64 l, .slice A x.length c] w fun e w' => e = .returned (.bool true) ∧ Below w.heap.size w w' := by
 have HC := Aside0.mk hC; have HL := Aside0.mk hc; clear hC hc
 by_cases c1 : n > 160
 · have c1b0 : decide (160 < n) = true := decide_eq_true c1
   clear c1
   go_enter Try.func6, Try.ntmps6
   go_wp2_with (first | (go_at_call 9; (with_reducible refine (madrigallaw15_awake.calls true _ rfl).mono ?_); rintro e w0 ⟨rfl, hb⟩; have HB0 := Aside0.mk hb; clear hb))
   go_ret
   exact ⟨rfl, by repeat (with_reducible first | exact HB0.out | apply below_alloc | apply pw_below_drewN | apply below_drew1)⟩
 have c1b0 : decide (160 < n) = false := decide_eq_false c1
 by_cases hg : goodW n l = true; rotate_left
 · have hf : mdct_Good.f n l = some false := (good_f n l hl).trans (by simpa using hg)
   have HGr := Aside0.mk (show madrigalref10_GoodBlock.f n l = some false from hf); clear hf hg c1
   go_enter Try.func6, Try.ntmps6
   go_wp2_with (first
    | (go_at_call 9; (with_reducible refine (madrigallaw15_awake.calls true _ rfl).mono ?_); rintro e w0 ⟨rfl, hb⟩; have HB0 := Aside0.mk hb; clear hb)
    | (go_at_call 15; (with_reducible refine (madrigalref10_GoodBlock.calls n l false _ HGr.out).mono ?_); rintro e w' ⟨rfl, ⟨nd, rfl⟩⟩))
   go_ret
   exact ⟨rfl, by repeat (with_reducible first | exact HB0.out | apply below_alloc | apply pw_below_drewN | apply below_drew1)⟩
 obtain ⟨N, M, Z, rfl, rfl, hz, hN, hM, h4⟩ := good_nat hg
 have hf : mdct_Good.f (N : Int) (M : Int) = some true := (good_f _ _ hl).trans (by rw [hg])
 have HG := Aside0.mk hf; have HGr := Aside0.mk (show madrigalref10_GoodBlock.f (N : Int) (M : Int) = some true from hf)
 have HGW := Aside0.mk hg
 have HN := Aside0.mk (show 2 * Z + M = N ∧ N ≤ 160 ∧ 2 ≤ M ∧ 4 ≤ N from ⟨hz, by omega, hM, h4⟩)
 clear hf hg c1 hz hN hM h4
 by_cases c2 : x.length > 800
 · have c2b0 : decide ((800 : Int) < (x.length : Int)) = true := decide_eq_true (by omega)
   have c2b1 : decide (800 < x.length) = true := decide_eq_true c2
   clear c2
   go_enter Try.func6, Try.ntmps6
   go_wp2_with (first
    | (go_at_call 9; (with_reducible refine (madrigallaw15_awake.calls true _ rfl).mono ?_); rintro e w0 ⟨rfl, hb⟩; have HB0 := Aside0.mk hb; clear hb)
    | (go_at_call 15; (with_reducible refine (madrigalref10_GoodBlock.calls (N : Int) (M : Int) true _ HGr.out).mono ?_); rintro e w' ⟨rfl, ⟨nd, rfl⟩⟩))
   go_ret
   exact ⟨rfl, by repeat (with_reducible first | exact HB0.out | apply below_alloc | apply pw_below_drewN | apply below_drew1)⟩
 have c2b0 : decide ((800 : Int) < (x.length : Int)) = false := decide_eq_false (by omega)
 have c2b1 : decide (800 < x.length) = false := decide_eq_false c2
 have LX := Aside0.mk c2; clear c2
 obtain ⟨N3, hN3⟩ : ∃ N3 : Nat, N3 = 3 * N := ⟨_, rfl⟩
 obtain ⟨N2, hN2⟩ : ∃ N2 : Nat, N2 = 2 * N := ⟨_, rfl⟩
 have g3 : wrap64 (3 * (N : Int)) = (N3 : Int) := by have := HN.out; rw [wrap_id (by omega) (by omega)]; omega
 have g2 : wrap64 (2 * (N : Int)) = (N2 : Int) := by have := HN.out; clear g3; rw [wrap_id (by omega) (by omega)]; omega
 have g3w : IntKind.i64.wrap (3 * (N : Int)) = (N3 : Int) := (i64_w _).trans g3
 have g2w : IntKind.i64.wrap (2 * (N : Int)) = (N2 : Int) := (i64_w _).trans g2
 have G3 := Aside0.mk g3; have G2 := Aside0.mk g2; have G3w := Aside0.mk g3w; have G2w := Aside0.mk g2w
 have H3 := Aside0.mk hN3; have H2 := Aside0.mk hN2; clear hN3 hN2
 by_cases c3 : x.length < N3
 · have c3b0 : decide ((x.length : Int) < (N3 : Int)) = true := by clear g2 g3 g2w g3w; exact decide_eq_true (by omega)
   have c3b1 : decide (x.length < N3) = true := decide_eq_true c3
   clear c3
   go_enter Try.func6, Try.ntmps6
   go_wp2_with (first
    | (go_at_call 9; (with_reducible refine (madrigallaw15_awake.calls true _ rfl).mono ?_); rintro e w0 ⟨rfl, hb⟩; have HB0 := Aside0.mk hb; clear hb)
    | (go_at_call 15; (with_reducible refine (madrigalref10_GoodBlock.calls (N : Int) (M : Int) true _ HGr.out).mono ?_); rintro e w' ⟨rfl, ⟨nd, rfl⟩⟩))
   go_ret
   exact ⟨rfl, by repeat (with_reducible first | exact HB0.out | apply below_alloc | apply pw_below_drewN | apply below_drew1)⟩
 have c3b0 : decide ((x.length : Int) < (N3 : Int)) = false := by clear g2 g3 g2w g3w; exact decide_eq_false (by omega)
 have c3b1 : decide (x.length < N3) = false := decide_eq_false c3
 clear c3
 go_enter Try.func6, Try.ntmps6
 go_wp2_with (first
  | (go_at_call 9; (with_reducible refine (madrigallaw15_awake.calls true _ rfl).mono ?_); rintro e w0 ⟨rfl, hb⟩; have HB := Aside0.mk hb; clear hb)
  | (go_at_call 15; (with_reducible refine (madrigalref10_GoodBlock.calls (N : Int) (M : Int) true _ HGr.out).mono ?_); rintro e w' ⟨rfl, ⟨nd, rfl⟩⟩))
 clear c3b0 c3b1 c2b0 c2b1 c1b0 g3 g2 g3w g2w
 go_loopg [7] (x.length + 1) (fun kq v7 w' => ∃ (x7 : Int) (i : Nat), v7 = .int .i64 x7 ∧ Aside0 (x7 = (i : Int)) ∧ Aside0 (i + kq = x.length + 1) ∧ Aside0 (i ≤ x.length) ∧ Aside0 (∀ m, m < i → -32768 ≤ x.getD m 0 ∧ x.getD m 0 ≤ 32767) ∧ Aside0 (Below w.heap.size w w'))
 case atStart => exact ⟨0, 0, rfl, ⟨rfl⟩, ⟨by omega⟩, ⟨by omega⟩, ⟨fun m h => absurd h (by omega)⟩, ⟨by repeat (with_reducible first | exact HB.out | apply below_alloc | apply pw_below_drewN | apply below_drew1)⟩⟩
 case round =>
  clear HB
  obtain ⟨x7, i, rfl, HX, HK, HI, HV, HB⟩ := hrel
  cases gk with
  | zero => exact absurd HK.out (by have := HI.out; omega)
  | succ k1 =>
   by_cases c4 : x7 < (x.length : Int)
   · have c4b0 : decide (x7 < (x.length : Int)) = true := decide_eq_true c4
     have c5 : 0 ≤ x7 := by have := HX.out; omega
     have c5b0 : decide (0 ≤ x7) = true := decide_eq_true c5
     obtain ⟨ad, e4, hx4⟩ := Kd.at_int (Kd.C_below HC.out HB.out) x7 c5 c4
     subst e4
     have er : rd x x7 = x.getD i 0 := by rw [HX.out]; exact rd_nat _ _
     have hi : i < x.length := by have := HX.out; omega
     have HII := Aside0.mk hi
     replace c4 := eq_true c4; replace c5 := eq_true c5
     obtain ⟨v, hv⟩ : ∃ v, v = x.getD i 0 := ⟨_, rfl⟩
     rw [er, ← hv] at hx4
     have HVV := Aside0.mk hv
     clear er hi hv
     by_cases c6 : v < -32768
     · have c6b0 : decide (v < -32768) = true := decide_eq_true c6
       clear c6
       go_wp2
       repeat (go_quiet (fail); try go_wp2)
       go_ret
       exact ⟨rfl, by repeat (with_reducible first | exact HB.out | apply below_alloc | apply pw_below_drewN | apply below_drew1)⟩
     have c6b0 : decide (v < -32768) = false := decide_eq_false c6
     by_cases c7 : 32767 < v
     · have c7b0 : decide (32767 < v) = true := decide_eq_true c7
       clear c7 c6
       go_wp2
       repeat (go_quiet (fail); try go_wp2)
       go_ret
       exact ⟨rfl, by repeat (with_reducible first | exact HB.out | apply below_alloc | apply pw_below_drewN | apply below_drew1)⟩
     have c7b0 : decide (32767 < v) = false := decide_eq_false c7
     have HR := Aside0.mk (show -32768 ≤ x.getD i 0 ∧ x.getD i 0 ≤ 32767 from by rw [← HVV.out]; omega)
     clear c6 c7
     go_wp2
     repeat (go_quiet (fail); try go_wp2)
     go_roundg k1
     case measure => have := HK.out; omega
     case rel => exact ⟨_, i + 1, rfl, ⟨by rw [HX.out]; exact wsucc (by have := HI.out; have := LX.out; omega)⟩, ⟨by have := HK.out; omega⟩, ⟨by have := HII.out; omega⟩, ⟨fun m hm => by
       by_cases e : m = i
       · rw [e]; exact HR.out
       · exact HV.out m (by omega)⟩, ⟨by repeat (with_reducible first | exact HB.out | apply below_alloc | apply pw_below_drewN | apply below_drew1)⟩⟩
   · have c4b0 : decide (x7 < (x.length : Int)) = false := decide_eq_false c4
     have HV2 := Aside0.mk (show ∀ m, -32768 ≤ x.getD m 0 ∧ x.getD m 0 ≤ 32768 from fun m => by
       by_cases hm : m < i
       · have := HV.out m hm; omega
       · have h1 := HX.out
         rw [List.getD_eq_getElem?_getD, List.getElem?_eq_none (by omega)]; decide)
     clear c4 HV
     have hjl : (List.replicate ((N : Int)).toNat (0 : Int)).length = N := by simp
     go_wp2_with (first
      | ((with_reducible refine gate_callee (f := 13) rfl ?_); refine goesL_ (some 60) rfl rfl Try.func13 (by kernel_rfl) rfl #[.int .i64 (N : Int), .int .i64 (M : Int)] rfl (by (try simp only [List.map_toArray, List.map_cons, List.map_nil]); first | done | rfl) ?_; (with_reducible refine (mdct_New.good N M _ (by have := HN.out; omega) HG.out).mono ?_); rintro e w5 ⟨g, rfl, hJ, hb⟩; refine ⟨_, rfl, ?_⟩; have JN := Aside0.mk hJ; have HB5 := Aside0.mk (below_step (by repeat (with_reducible first | exact HB.out | apply below_alloc | apply pw_below_drewN | apply below_drew1)) hb); have SB := Aside0.mk (below_size (by repeat (with_reducible first | exact HB.out | apply below_alloc | apply pw_below_drewN | apply below_drew1))); clear hJ hb))
     have HB := HB5
     have hys0 : (List.replicate ((N : Int)).toNat (0 : Int)).length = N := hjl
     clear c4b0 HX HI HK HB5
     generalize wr.heap.size = b0 at JN SB
     generalize List.replicate ((N : Int)).toNat (0 : Int) = ys0 at JN hys0
     clear hjl
     go_loopg [10] (x.length + 1) (fun kq v10 w' => ∃ (x10 : Int) (b : Nat) (ys : List Int), v10 = .int .i64 x10 ∧ Aside0 (x10 = ((b * N : Nat) : Int)) ∧ Aside0 (b + kq = x.length + 1) ∧ Aside0 (b * N ≤ x.length) ∧ Aside0 (ys.length = N) ∧ Aside0 (b ≠ 0 → ys = (inverseW N M Z (forwardW N M Z ((x.drop ((b - 1) * N)).take N2))).drop N) ∧ Aside0 (JAt w' b0 g N M ys) ∧ Aside0 (Below w.heap.size w w'))
     case atStart => exact ⟨0, 0, ys0, rfl, ⟨by rw [Nat.zero_mul]; rfl⟩, ⟨by omega⟩, ⟨by omega⟩, ⟨hys0⟩, ⟨fun h => absurd rfl h⟩, ⟨JN.out.keep (fun _ _ _ => rfl)⟩, ⟨by repeat (with_reducible first | exact HB.out | apply below_alloc | apply pw_below_drewN | apply below_drew1)⟩⟩
     case round =>
      clear HB JN hys0
      obtain ⟨x10, b, ys, rfl, HX, HK, HI, HLy, HY, HJ, HB⟩ := hrel
      cases gk with
      | zero => exact absurd HK.out (by have h1 := HI.out; have h2 := HN.out; have : b ≤ b * N := Nat.le_mul_of_pos_right _ (by omega); omega)
      | succ k2 =>
       obtain ⟨a, ha⟩ : ∃ a, a = b * N := ⟨_, rfl⟩
       have hx10 := HX.out
       rw [← ha] at hx10
       subst hx10
       have HA := Aside0.mk ha
       obtain ⟨E, hE⟩ : ∃ E, E = a + N2 := ⟨_, rfl⟩
       have haL : a ≤ x.length := by have := HI.out; omega
       have s1 : wrap64 ((a : Int) + (N2 : Int)) = (E : Int) := by have h1 := LX.out; have h2 := HN.out; have h3 := H2.out; rw [wrap_id (by omega) (by omega)]; omega
       have S1 := Aside0.mk s1; clear s1
       have HEE := Aside0.mk hE
       clear ha
       by_cases c8 : E ≤ x.length
       · have c8b0 : decide ((E : Int) ≤ (x.length : Int)) = true := decide_eq_true (by omega)
         have c8b1 : decide (E ≤ x.length) = true := decide_eq_true c8
         have hcut := cut_both A x.length c a E (by omega) (by have := HL.out; omega)
         have hxl : ((x.drop a).take N2).length = N2 := by rw [List.length_take, List.length_drop]; omega
         have hC0 : Kd.C (Kd.int .i64) w (if c = a then A else A.map (·.add (a * 1))) ((x.drop a).take N2).length ((x.drop a).take N2) := C_take (Kd.C_drop (m := a) (c := c) HC.out haL HL.out) N2 (by rw [List.length_drop]; omega)
         have hc0 : ((x.drop a).take N2).length ≤ c - a := by rw [hxl]; have := HL.out; omega
         rw [show E - a = ((x.drop a).take N2).length by rw [hxl]; omega] at hcut
         generalize (if c = a then A else A.map (·.add (a * 1))) = A5 at hcut hC0
         generalize c - a = c5 at hcut hc0
         obtain ⟨X0, hX0⟩ : ∃ X0, X0 = (x.drop a).take N2 := ⟨_, rfl⟩
         rw [← hX0] at hcut hxl hC0 hc0
         have HXX := Aside0.mk hX0; clear hX0
         have hNN := HN.out
         obtain ⟨kf, hf⟩ := (fwd_ev N (by omega) (by omega) M Z hNN.1 hNN.2.2.1 HGW.out X0 (by rw [hxl, H2.out])).rounds
         have hfl : (forwardW N M Z X0).length = N := forwardW_length N M Z X0
         obtain ⟨F, hF⟩ : ∃ F, F = forwardW N M Z X0 := ⟨_, rfl⟩
         rw [← hF] at hf hfl
         obtain ⟨ka, hIa, hfa⟩ := Ev.two (inv_ev N (by omega) (by omega) M Z hNN.1 hNN.2.2.1 HGW.out F hfl) (next_ev N M Z (by omega) (by omega) hNN.1 hNN.2.2.1 HGW.out ys F HLy.out hfl)
         have hyl : (inverseW N M Z F).length = 2 * N := inverseW_length N M Z F
         have hrl : (joinW N ys (inverseW N M Z F)).length = N := joinW_length _ _ _
         obtain ⟨Y, hY⟩ : ∃ Y, Y = inverseW N M Z F := ⟨_, rfl⟩
         rw [← hY] at hIa hfa hyl hrl
         obtain ⟨r, hr⟩ : ∃ r, r = joinW N ys Y := ⟨_, rfl⟩
         rw [← hr] at hfa hrl
         have HF := Aside0.mk hF; have HYY := Aside0.mk hY; have HRR := Aside0.mk hr
         have HFf := Aside0.mk hf; have HIa := Aside0.mk hIa; have HFa := Aside0.mk hfa; have HFl := Aside0.mk hfl; have HYl := Aside0.mk hyl; have HRl := Aside0.mk hrl
         have HCX := Aside0.mk hC0; have HLX := Aside0.mk hc0
         have c9 : ((r.length : Int) != (N : Int)) = false := by simp [hrl]
         clear hf hIa hfa hfl hyl hrl hF hY hr hC0 hc0 hNN hxl hE haL
         have g2 := G2.out; have g2w := G2w.out; have s1 := S1.out; have s1w := (i64_w _).trans s1
         go_upto_region 18 with (first
          | ((with_reducible refine gate_callee (f := 11) rfl ?_); refine goesL_ (some 84) rfl rfl Try.func11 (by kernel_rfl) rfl #[.slice A5 X0.length c5, .int .i64 (M : Int)] rfl (by (try simp only [List.map_toArray, List.map_cons, List.map_nil]); first | done | rfl) ?_; (refine (mdct_Forward.calls kf A5 c5 X0 (M : Int) F 0 _ (Kd.C_below HCX.out (by repeat (with_reducible first | exact HB.out | apply below_alloc | apply pw_below_drewN | apply below_drew1))) HLX.out HFf.out).mono ?_); rintro e w6 ⟨v6, rfl, ho, hb⟩; refine ⟨_, rfl, ?_⟩; obtain ⟨A6, k6, e6⟩ := Kd.R_slice ho; subst e6; have J6 := Aside0.mk ((HJ.out.keep (fun _ _ _ => rfl)).below hb); have F6 := Aside0.mk ho; have HB6 := Aside0.mk (below_step (by repeat (with_reducible first | exact HB.out | apply below_alloc | apply pw_below_drewN | apply below_drew1)) hb); clear ho hb)
          | ((with_reducible refine gate_callee (f := 14) rfl ?_); refine goesL_ (some 90) rfl rfl Try.func14 (by kernel_rfl) rfl #[.pointer (some ⟨g, 0, none⟩), .slice A6 F.length k6] rfl (by (try simp only [List.map_toArray, List.map_cons, List.map_nil]); first | done | rfl) ?_; (refine (mdct_Joiner_Next.joins ka N M b0 g ys A6 k6 F r Y _ J6.out (Kd.R_reads' F6.out).2.2 (Kd.R_reads' F6.out).2.1 (by have := HFl.out; omega) HIa.out HFa.out).mono ?_); rintro e w7 ⟨v7, rfl, ho, hJ, hk⟩; refine ⟨_, rfl, ?_⟩; obtain ⟨A7, k7, e7⟩ := Kd.R_slice ho; subst e7; have J7 := Aside0.mk hJ; have F7 := Aside0.mk ho; have HB7 := Aside0.mk (below_keep HB6.out hk (by have h1 := J6.out.1; have h2 := SB.out; omega)); clear ho hJ hk))
         have HD := Aside0.mk (show ∀ i, i < N → b ≠ 0 → -64 ≤ r.getD i 0 - x.getD (a + i) 0 ∧ r.getD i 0 - x.getD (a + i) 0 ≤ 64 from fun i hi hb => by
           have hNN := HN.out
           have h2N := H2.out
           rw [← part_getD x a N2 i (by omega), ← HXX.out, HRR.out, HY.out hb, HYY.out, HF.out]
           refine back_lists hNN.1 hNN.2.2.2 hNN.2.1 hNN.2.2.1 (fun m hm => ?_) (fun m hm => ?_) (fun m hm => ?_) hi
           · rw [part_getD _ _ _ _ (by omega)]; exact HV2.out _
           · rw [HXX.out, part_getD _ _ _ _ (by omega)]; exact HV2.out _
           · rw [part_getD _ _ _ _ (by omega), HXX.out, part_getD _ _ _ _ (by omega)]
             have e : (b - 1) * N + (N + m) = a + m := by
               obtain ⟨b', rfl⟩ : ∃ b', b = b' + 1 := ⟨b - 1, by omega⟩
               rw [HA.out, Nat.add_sub_cancel, Nat.add_mul]; omega
             rw [e])
         have JB := Aside0.mk (show Y.drop ((N : Int)).toNat = (inverseW N M Z (forwardW N M Z ((x.drop a).take N2))).drop N by rw [Int.toNat_natCast, HYY.out, HF.out, HXX.out])
         have JL := Aside0.mk (show (Y.drop ((N : Int)).toNat).length = N by rw [Int.toNat_natCast, List.length_drop, HYl.out]; omega)
         have EN := Aside0.mk (show wrap64 ((a : Int) + (N : Int)) = (((b + 1) * N : Nat) : Int) ∧ (b + 1) * N ≤ x.length from by
           have h1 := HA.out; have h2 := HEE.out; have h3 := H2.out; have h4 := LX.out
           have e : (b + 1) * N = a + N := by rw [Nat.add_mul, Nat.one_mul, h1]
           clear g2 g2w s1 s1w
           rw [e, wrap_id (by omega) (by omega)]
           exact ⟨by omega, by omega⟩)
         have AX := Aside0.mk c8
         go_wp2
         repeat (go_quiet (fail); try go_wp2)
         clear c9 c8b0 c8b1 g2 g2w s1 s1w
         go_loopg [15] (N + 1) (fun kq v15 w' => ∃ (x15 : Int) (i : Nat), v15 = .int .i64 x15 ∧ Aside0 (x15 = (i : Int)) ∧ Aside0 (i + kq = N + 1) ∧ Aside0 (i ≤ N) ∧ Aside0 (Kd.R (Kd.int .i64) 2 w' w.heap.size (fun _ => True) (.slice A7 r.length k7) r) ∧ Aside0 (JAt w' b0 g N M (Y.drop ((N : Int)).toNat)) ∧ Aside0 (Below w.heap.size w w'))
         case atStart => exact ⟨0, 0, rfl, ⟨rfl⟩, ⟨by omega⟩, ⟨by omega⟩, ⟨by (with_reducible repeat first | apply Kd.R_alloc | apply Kd.R_drewN | apply Kd.R_drew); exact Kd.R_lower F7.out (below_size HB6.out)⟩, ⟨J7.out.keep (fun _ _ _ => rfl)⟩, ⟨by repeat (with_reducible first | exact HB7.out | apply below_alloc | apply pw_below_drewN | apply below_drew1)⟩⟩
         case round =>
          clear F7 J7 HB7 J6 F6 HB6
          obtain ⟨x15, i, rfl, HX5, HK5, HI5, F7, J7, HB7⟩ := hrel
          cases gk with
          | zero => exact absurd HK5.out (by have := HI5.out; omega)
          | succ k3 =>
           have hx5 := HX5.out
           subst hx5
           by_cases c10 : i < N
           · have c10b0 : decide ((i : Int) < (N : Int)) = true := decide_eq_true (by omega)
             have c10b1 : decide (i < N) = true := decide_eq_true c10
             by_cases hb : b = 0
             · have a0 : a = 0 := by rw [HA.out, hb, Nat.zero_mul]
               have d0 : decide ((0 : Int) < (a : Int)) = false := decide_eq_false (by omega)
               have d1 : decide (0 < a) = false := decide_eq_false (by omega)
               have en := EN.out.1
               have enw := (i64_w _).trans en
               clear a0
               go_wp2
               repeat (go_quiet (fail); try go_wp2)
               clear en enw d0 d1
               go_roundg k2
               case measure => have := HK.out; omega
               case rel => exact ⟨_, b + 1, Y.drop ((N : Int)).toNat, rfl, ⟨by first | exact EN.out.1 | rfl | (rw [hb]; simp; done)⟩, ⟨by have := HK.out; omega⟩, ⟨EN.out.2⟩, JL, ⟨fun _ => by rw [Nat.add_sub_cancel, ← HA.out]; exact JB.out⟩, ⟨J7.out.keep (fun _ _ _ => rfl)⟩, ⟨by repeat (with_reducible first | exact HB7.out | apply below_alloc | apply pw_below_drewN | apply below_drew1)⟩⟩
             · have a0 : 0 < a := by rw [HA.out]; exact Nat.mul_pos (by omega) (by omega)
               have d0 : decide ((0 : Int) < (a : Int)) = true := decide_eq_true (by omega)
               have d1 : decide (0 < a) = true := decide_eq_true a0
               have hd := HD.out i c10 hb
               obtain ⟨e, he⟩ : ∃ e, e = a + i := ⟨_, rfl⟩
               rw [← he] at hd
               have hel : e < x.length := by have h1 := HEE.out; have h2 := H2.out; have h3 := AX.out; have h4 := HN.out; omega
               have p1 : (0 : Int) ≤ (i : Int) := by omega
               have p2 : (i : Int) < (r.length : Int) := by have := HRl.out; omega
               have p5n : i < r.length := by have := HRl.out; omega
               have p3 : (0 : Int) ≤ (e : Int) := by omega
               have p4 : (e : Int) < (x.length : Int) := by omega
               obtain ⟨ad1, e1, hx1⟩ := Kd.at_int (Kd.R_reads' F7.out).2.2 (i : Int) p1 p2
               obtain ⟨ad2, e2, hx2⟩ := Kd.at_int (Kd.C_below HC.out HB7.out) (e : Int) p3 p4
               subst e1 e2
               rw [rd_nat, Int.toNat_natCast] at hx1 hx2
               generalize r.getD i 0 = u1 at hd hx1
               generalize x.getD e 0 = u2 at hd hx2
               have w2 : wrap64 ((a : Int) + (i : Int)) = (e : Int) := by have h1 := LX.out; clear hx1 hx2; rw [wrap_id (by omega) (by omega)]; omega
               have W2 := Aside0.mk w2; clear w2
               obtain ⟨D, hD⟩ : ∃ D, D = u1 - u2 := ⟨_, rfl⟩
               have n1 : decide (64 < D) = false := decide_eq_false (by omega)
               have n2 : decide (D < -64) = false := decide_eq_false (by omega)
               have w1 : wrap64 (u1 - u2) = D := by rw [hD]; exact wrap_id (by omega) (by omega)
               have w2 := W2.out
               have HHi := Aside0.mk c10
               have p1b : decide ((0 : Int) ≤ (i : Int)) = true := decide_eq_true p1
               have p2b : decide ((i : Int) < (r.length : Int)) = true := decide_eq_true p2
               have p4b : decide ((e : Int) < (x.length : Int)) = true := decide_eq_true p4
               have p5b : decide (i < r.length) = true := decide_eq_true p5n
               have p6b : decide (e < x.length) = true := decide_eq_true hel
               replace p1 := eq_true p1; replace p2 := eq_true p2; replace p3 := eq_true p3; replace p4 := eq_true p4
               have p5 : (i < r.length) = True := eq_true p5n
               have p6 : (e < x.length) = True := eq_true hel
               have w1w := (i64_w _).trans w1; have w2w := (i64_w _).trans w2
               clear hd he hD a0 hel
               go_wp2
               repeat (go_quiet (fail); try go_wp2)
               clear w1 w2 w1w w2w n1 n2 p1b p2b p4b p5b p6b d0 d1
               go_roundg k3
               case measure => have := HK5.out; omega
               case rel => exact ⟨_, i + 1, rfl, ⟨wsucc (by have := HI5.out; have := HN.out; omega)⟩, ⟨by have := HK5.out; omega⟩, ⟨by have := HHi.out; omega⟩, ⟨by (with_reducible repeat first | apply Kd.R_alloc | apply Kd.R_drewN | apply Kd.R_drew); exact F7.out⟩, ⟨J7.out.keep (fun _ _ _ => rfl)⟩, ⟨by repeat (with_reducible first | exact HB7.out | apply below_alloc | apply pw_below_drewN | apply below_drew1)⟩⟩
           · have c10b0 : decide ((i : Int) < (N : Int)) = false := decide_eq_false (by omega)
             have c10b1 : decide (i < N) = false := decide_eq_false c10
             have en := EN.out.1
             have enw := (i64_w _).trans en
             go_wp2
             repeat (go_quiet (fail); try go_wp2)
             clear en enw
             go_roundg k2
             case measure => have := HK.out; omega
             case rel => exact ⟨_, b + 1, Y.drop ((N : Int)).toNat, rfl, ⟨by first | exact EN.out.1 | rfl⟩, ⟨by have := HK.out; omega⟩, ⟨EN.out.2⟩, JL, ⟨fun _ => by rw [Nat.add_sub_cancel, ← HA.out]; exact JB.out⟩, ⟨J7.out.keep (fun _ _ _ => rfl)⟩, ⟨by repeat (with_reducible first | exact HB7.out | apply below_alloc | apply pw_below_drewN | apply below_drew1)⟩⟩
       · have c8b0 : decide ((E : Int) ≤ (x.length : Int)) = false := decide_eq_false (by omega)
         have c8b1 : decide (E ≤ x.length) = false := decide_eq_false c8
         have g2 := G2.out; have g2w := G2w.out; have s1 := S1.out; have s1w := (i64_w _).trans s1
         go_wp2
         repeat (go_quiet (fail); try go_wp2)
         go_ret
         exact ⟨rfl, by repeat (with_reducible first | exact HB.out | apply below_alloc | apply pw_below_drewN | apply below_drew1)⟩
end Go.Proofs.Ytnliianjljgcbaa.MA
