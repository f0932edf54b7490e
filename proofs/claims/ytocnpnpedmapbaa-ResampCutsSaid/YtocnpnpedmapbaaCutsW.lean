/- The law ResampCuts walked. No condition. -/
import Derived.Laws.Cover3
import Derived.Laws.Tables
import Derived.Laws.CopyOwn
import Derived.Deep.MidRow
import Derived.Test.YtocnpnpedmapbaaAwake
import Derived.Test.YtocnpnpedmapbaaCutsP
import Derived.Test.YtocnpnpedmapbaaOneW
namespace Go.Proofs.Ytocnpnpedmapbaa.MA
open Go.RowKit Go.Proofs.YtocnpnpedmapbaaW.PrintWords Go.Proofs.YtocnpnpedmapbaaW.PrintLast Go.Proofs.YtocnpnpedmapbaaW.PrintMore Go.Proofs.Ytocnpnpedmapbaa.Core Go.Proofs.Ytocnpnpedmapbaa.Base Go.Proofs.Ytocnpnpedmapbaa.Tabl Go.Proofs.Ytocnpnpedmapbaa.RunP Go.Proofs.Ytocnpnpedmapbaa.CutsP
attribute [local go_sem] max2_int min2_int max_two min_two max_three min_three max_four min_four
set_option linter.unusedVariables false
set_option linter.unusedSimpArgs false
theorem C_take {w : World} {A : Option Addr} {xs : List Int} (h : Kd.C (Kd.int .i64) w A xs.length xs) (m : Nat) (hm : m ≤ xs.length) : Kd.C (Kd.int .i64) w A (xs.take m).length (xs.take m) := by
 have hl : (xs.take m).length = m := by rw [List.length_take]; omega
 refine ⟨rfl, by have := h.2.1; omega, fun hp => ?_⟩
 obtain ⟨ad, rfl, hcell⟩ := h.2.2 (by omega)
 refine ⟨ad, rfl, fun j p hj => ?_⟩
 rw [List.getElem?_take] at hj
 by_cases c : j < m
 · rw [if_pos c] at hj
   exact hcell j p hj
 · rw [if_neg c] at hj; cases hj
theorem R_under {e base n : Nat} {ok : Nat → Prop} {W W2 : World} {v : Value} {xs : List Int} (h : Kd.R (Kd.int .i64) e W base ok v xs) (hb : Below n W W2) (hn : ∀ k, v.ownBlock = some k → k < n) : Kd.R (Kd.int .i64) e W2 base (fun _ => True) v xs := by
 have h1 := Kd.R_bound h
 have h2 : Kd.R (Kd.int .i64) e W base (fun k => k < n) v xs := ⟨hn, h1.2.imp_ (fun _ _ hp => hp)⟩
 exact Kd.R_mono (Kd.R_step h2 (fun k hk _ => hb.block k hk)) (fun _ _ => trivial)
theorem below_more {n : Nat} {w W W2 : World} (h : Below w.heap.size w W) (k : Below n W W2) (hn : w.heap.size ≤ n) : Below w.heap.size w W2 :=
 ⟨k.os.trans h.os, k.tape.trans h.tape, k.output.trans h.output, Nat.le_trans h.size k.size, fun i hi => (k.block i (by omega)).trans (h.block i hi)⟩
theorem sat_below {w W : World} {g : Nat} {a b : Int} {ks : List Int} (hk : Below w.heap.size w W) (h : SAt w g a b ks) : SAt W g a b ks := h.below hk
theorem sat_away {w W : World} {g h : Nat} {a b : Int} {ks : List Int} (hk : Keeps w W h) (hs : SAt w g a b ks) (hne : g ≠ h) : SAt W g a b ks := hs.away hk hne
set_option maxHeartbeats 16000000 in
set_option maxRecDepth 100000 in
theorem cuts_walk (a b : Int) (A : Option Addr) (c : Nat) (x : List Int) (cut : Int) (w : World) (hC : Kd.C (Kd.int .i64) w A x.length x) (hc : x.length ≤ c) (hwc : -9223372036854775808 ≤ cut ∧ cut ≤ 9223372036854775807) :
  Calls Try.prog 5 #[.int .i64 a, .int .i64 b, .slice A x.length c, .int .i64 cut] w fun e w' => e = .returned (.bool true) ∧ Below w.heap.size w w' := by
 have HC := Aside0.mk hC; have HL := Aside0.mk hc; have HW := Aside0.mk hwc; clear hC hc hwc
 obtain ⟨s, h1, k1⟩ := rate_some a
 obtain ⟨t, h2, k2⟩ := rate_some b
 have K1 := Aside0.mk k1; have K2 := Aside0.mk k2
 clear k1 k2
 cases s with
 | false =>
  go_enter Try.func5, Try.ntmps5
  go_wp2_with (first
   | (go_at_call 8; (with_reducible refine (madrigallaw22_awake.calls true _ rfl).mono ?_); rintro e w0 ⟨rfl, hb⟩; have HB0 := Aside0.mk hb; clear hb)
   | (go_at_call 12; (with_reducible refine (madrigalref10_Known.calls a false _ K1.out).mono ?_); rintro e w' ⟨rfl, ⟨nd, rfl⟩⟩))
  go_ret
  exact ⟨rfl, by repeat (with_reducible first | exact HB0.out | apply below_alloc | apply pw_below_drewN | apply below_drew1)⟩
 | true =>
 cases t with
 | false =>
  go_enter Try.func5, Try.ntmps5
  go_wp2_with (first
   | (go_at_call 8; (with_reducible refine (madrigallaw22_awake.calls true _ rfl).mono ?_); rintro e w0 ⟨rfl, hb⟩; have HB0 := Aside0.mk hb; clear hb)
   | (go_at_call 12; first | ((with_reducible refine (madrigalref10_Known.calls a true _ K1.out).mono ?_); rintro e w' ⟨rfl, ⟨nd, rfl⟩⟩) | ((with_reducible refine (madrigalref10_Known.calls b false _ K2.out).mono ?_); rintro e w' ⟨rfl, ⟨nd2, rfl⟩⟩)))
  go_ret
  exact ⟨rfl, by repeat (with_reducible first | exact HB0.out | apply below_alloc | apply pw_below_drewN | apply below_drew1)⟩
 | true =>
 by_cases c1 : x.length > 600
 · have c1b0 : decide ((600 : Int) < (x.length : Int)) = true := decide_eq_true (by omega)
   have c1b1 : decide (600 < x.length) = true := decide_eq_true c1
   clear c1
   go_enter Try.func5, Try.ntmps5
   go_wp2_with (first
    | (go_at_call 8; (with_reducible refine (madrigallaw22_awake.calls true _ rfl).mono ?_); rintro e w0 ⟨rfl, hb⟩; have HB0 := Aside0.mk hb; clear hb)
    | (go_at_call 12; first | ((with_reducible refine (madrigalref10_Known.calls a true _ K1.out).mono ?_); rintro e w' ⟨rfl, ⟨nd, rfl⟩⟩) | ((with_reducible refine (madrigalref10_Known.calls b true _ K2.out).mono ?_); rintro e w' ⟨rfl, ⟨nd2, rfl⟩⟩)))
   go_ret
   exact ⟨rfl, by repeat (with_reducible first | exact HB0.out | apply below_alloc | apply pw_below_drewN | apply below_drew1)⟩
 have c1b0 : decide ((600 : Int) < (x.length : Int)) = false := decide_eq_false (by omega)
 have c1b1 : decide (600 < x.length) = false := decide_eq_false c1
 have X6 := Aside0.mk c1; clear c1
 obtain ⟨L, M, hr⟩ := rates h1 h2
 have HR := Aside0.mk hr
 have HGD := Aside0.mk (good_of a b h1 h2)
 have HPa := Aside0.mk (hr.2.2.2.2.2.1 0)
 have hM := hr.2.1
 have m0 : ((M : Int) == 0) = false := by simp; omega
 have m1 : ((M : Int) != 0) = true := by simp; omega
 have m2 : ¬ ((M : Int) = 0) := by omega
 obtain ⟨q, hq⟩ : ∃ q : Nat, q = x.length / M := ⟨_, rfl⟩
 obtain ⟨X, hX⟩ : ∃ X : Nat, X = q * M := ⟨_, rfl⟩
 have hqx : q ≤ x.length := by rw [hq]; exact Nat.div_le_self _ _
 have hXl : X ≤ x.length := by rw [hX, hq]; exact Nat.div_mul_le_self _ _
 have f1 : wrap64 ((x.length : Int) / (M : Int)) = (q : Int) := by
  have := X6.out
  have e : (x.length : Int) / (M : Int) = (q : Int) := by rw [hq]; rfl
  rw [e]; exact wrap_id (by omega) (by omega)
 have f2 : wrap64 ((q : Int) * (M : Int)) = (X : Int) := by
  have := X6.out
  rw [← Int.natCast_mul, ← hX]; exact wrap_id (by omega) (by omega)
 have f3 : wrap64 ((X : Int) / (M : Int)) = (q : Int) := by
  have := X6.out
  have e : (X : Int) / (M : Int) = (q : Int) := by
   have e2 : (X : Int) / (M : Int) = ((X / M : Nat) : Int) := rfl
   rw [e2, hX, Nat.mul_div_cancel _ (by omega)]
  rw [e]; exact wrap_id (by omega) (by omega)
 have f1w : IntKind.i64.wrap ((x.length : Int) / (M : Int)) = (q : Int) := (i64_w _).trans f1
 have f2w : IntKind.i64.wrap ((q : Int) * (M : Int)) = (X : Int) := (i64_w _).trans f2
 have f3w : IntKind.i64.wrap ((X : Int) / (M : Int)) = (q : Int) := (i64_w _).trans f3
 have x1 : (0 ≤ (X : Int)) = True := eq_true (by omega)
 have x2 : ((X : Int) ≤ (c : Int)) = True := eq_true (by have := HL.out; omega)
 have x3 : (X ≤ c) = True := eq_true (by have := HL.out; omega)
 have HQ := Aside0.mk hq; have HX := Aside0.mk hX; have HXl := Aside0.mk hXl; clear hq hX hqx hXl
 clear h1 h2 hr
 go_enter Try.func5, Try.ntmps5
 go_upto_region 7 with (first
  | (go_at_call 8; (with_reducible refine (madrigallaw22_awake.calls true _ rfl).mono ?_); rintro e w0 ⟨rfl, hb⟩; have HB0 := Aside0.mk hb; clear hb)
  | (go_at_call 12; first | ((with_reducible refine (madrigalref10_Known.calls a true _ K1.out).mono ?_); rintro e w' ⟨rfl, ⟨nd, rfl⟩⟩) | ((with_reducible refine (madrigalref10_Known.calls b true _ K2.out).mono ?_); rintro e w' ⟨rfl, ⟨nd2, rfl⟩⟩))
  | ((with_reducible refine gate_callee (f := 14) rfl ?_); refine goesL_ (some 39) rfl rfl Try.func14 (by kernel_rfl) rfl #[.int .i64 a, .int .i64 b] rfl (by (try simp only [List.map_toArray, List.map_cons, List.map_nil]); first | done | rfl) ?_; (with_reducible refine (madrigalref10_Parts.calls (0 + 60) a b (L : Int) (M : Int) _ HPa.out).mono ?_); rintro e w' ⟨rfl, ⟨nd3, rfl⟩⟩; refine ⟨_, rfl, ?_⟩))
 by_cases c2 : cut < 0
 · have c2b0 : decide (cut < 0) = true := decide_eq_true c2
   clear c2
   go_wp2
   go_ret
   exact ⟨rfl, by repeat (with_reducible first | exact HB0.out | apply below_alloc | apply pw_below_drewN | apply below_drew1)⟩
 have c2b0 : decide (cut < 0) = false := decide_eq_false c2
 obtain ⟨K, rfl⟩ : ∃ K : Nat, cut = (K : Int) := ⟨cut.toNat, by omega⟩
 clear c2
 by_cases c3 : (q : Int) < (K : Int)
 · have c3b0 : decide ((q : Int) < (K : Int)) = true := decide_eq_true c3
   have c3b1 : decide (q < K) = true := decide_eq_true (by omega)
   clear c3
   go_wp2
   go_ret
   exact ⟨rfl, by repeat (with_reducible first | exact HB0.out | apply below_alloc | apply pw_below_drewN | apply below_drew1)⟩
 have c3b0 : decide ((q : Int) < (K : Int)) = false := decide_eq_false c3
 have c3b1 : decide (q < K) = false := decide_eq_false (by omega)
 have F1 := Aside0.mk f1; have F2 := Aside0.mk f2; have F3 := Aside0.mk f3; have F1w := Aside0.mk f1w; have F2w := Aside0.mk f2w; have F3w := Aside0.mk f3w
 clear f1 f2 f3 f1w f2w f3w
 have c3c : K ≤ q := by omega
 clear c3
 have hX1l : (x.take X).length = X := by rw [List.length_take]; have := HXl.out; omega
 obtain ⟨k1, k2, k3, kS, r1, r2, r3, z1, z2, z3, g1, g2, g3, hrr, hzz, hrl, hLq, hsm⟩ := cuts_ex HR.out (x.take X) q K (by rw [hX1l, HX.out]) (by have := HX.out; have := HXl.out; have := X6.out; omega) c3c
 obtain ⟨Y, hY⟩ : ∃ Y : Nat, Y = K * M := ⟨_, rfl⟩
 have hYX : Y ≤ X := by rw [hY, HX.out]; exact Nat.mul_le_mul_right _ c3c
 have F4 : Aside0 (wrap64 ((K : Int) * (M : Int)) = (Y : Int)) := by
  have := X6.out; have := HXl.out
  constructor
  rw [← Int.natCast_mul, ← hY]; exact wrap_id (by omega) (by omega)
 have F5 : Aside0 (wrap64 ((q : Int) * (L : Int)) = ((L * q : Nat) : Int)) := by
  constructor
  rw [← Int.natCast_mul, Nat.mul_comm q L]; exact wrap_id (by omega) (by omega)
 have y1 : (0 ≤ (Y : Int)) = True := eq_true (by omega)
 have y2 : ((Y : Int) ≤ (c : Int)) = True := eq_true (by have := HL.out; have := HXl.out; omega)
 have y3 : (Y ≤ c) = True := eq_true (by have := HL.out; have := HXl.out; omega)
 have y4 : ((Y : Int) ≤ (X : Int)) = True := eq_true (by omega)
 rw [← hY] at g2 g3
 generalize hx1 : x.take X = X1 at g1 g2 g3 hX1l
 have hCX1 : Kd.C (Kd.int .i64) w A X1.length X1 := by rw [← hx1]; exact C_take HC.out X HXl.out
 have hX2l : (X1.take Y).length = Y := by rw [List.length_take]; omega
 have hX3l : (X1.drop Y).length = X - Y := by rw [List.length_drop]; omega
 have hCX2 := C_take hCX1 Y (by omega)
 have hcX : X ≤ c := by have := HL.out; have := HXl.out; omega
 have hCX3 := Kd.C_drop (m := Y) (c := c) hCX1 (by omega) (by omega)
 obtain ⟨i0, hi0, _, hsz, _⟩ := info_parts info2
 have hcut := cut_from (P := Try.prog) 27 2 .i64 Try.underlying27 hi0 1 hsz A X c (Y : Int) (by omega) (by omega)
 rw [Int.toNat_natCast, ← hX3l] at hcut
 have e1 : (Kd.int .i64).sz = 1 := rfl
 rw [e1] at hCX3
 generalize (if c = Y then A else A.map (·.add (Y * 1))) = A5 at hcut hCX3
 obtain ⟨c5, hc5⟩ : ∃ c5, c5 = c - Y := ⟨_, rfl⟩
 rw [← hc5] at hcut
 have hX3c : (X1.drop Y).length ≤ c5 := by omega
 generalize X1.drop Y = X3 at hcut hCX3 g3 hX3l hX3c
 generalize X1.take Y = X2 at hCX2 g2 hX2l
 have hX2c : X2.length ≤ c := by omega
 have hX1c : X1.length ≤ c := by omega
 have G1 := Aside0.mk g1; have G2 := Aside0.mk g2; have G3 := Aside0.mk g3; have HRR := Aside0.mk hrr; have HZZ := Aside0.mk hzz; have HRL := Aside0.mk hrl; have HSM := Aside0.mk hsm
 have CX1 := Aside0.mk hCX1; have CX2 := Aside0.mk hCX2; have CX3 := Aside0.mk hCX3; have LX1 := Aside0.mk hX1l; have LX2 := Aside0.mk hX2l; have LX3 := Aside0.mk hX3l
 have DX1 := Aside0.mk hX1c; have DX2 := Aside0.mk hX2c; have DX3 := Aside0.mk hX3c; have HLQ := Aside0.mk hLq
 clear g1 g2 g3 hrr hzz hrl hsm hCX1 hCX2 hCX3 hX1l hX2l hX3l hX1c hX2c hX3c hLq hi0 hsz hx1 hcX hc5 hY hYX c3c e1
 have f1 := F1.out; have f2 := F2.out; have f3 := F3.out; have f4 := F4.out; have f5 := F5.out; have f1w := F1w.out; have f2w := F2w.out; have f3w := F3w.out; have f4w := (i64_w _).trans f4; have f5w := (i64_w _).trans f5
 have HGT := Aside0.mk (show resamp_Good.f a b = some true from HGD.out)
 go_upto_region 13 with (first
  | (go_at_call 9; (with_reducible refine (resamp_New.good a b _ HGT.out).mono ?_); rintro e w2 ⟨h, rfl, hhe, hT, hb⟩; have HS2 := Aside0.mk (sat_below hb HS.out); have HT := Aside0.mk hT; have GH := Aside0.mk (show g < h from Nat.lt_of_lt_of_le HS.out.lt hhe); have HB2 := Aside0.mk (below_step (by repeat (with_reducible first | exact HB1.out | apply below_alloc | apply pw_below_drewN | apply below_drew1)) hb); clear hT hhe hb)
  | (go_at_call 9; (with_reducible refine (resamp_New.good a b _ HGT.out).mono ?_); rintro e w1 ⟨g, rfl, hge, hS, hb⟩; have HS := Aside0.mk hS; have GE := Aside0.mk (Nat.le_trans HB0.out.size hge); have HB1 := Aside0.mk (below_step (by repeat (with_reducible first | exact HB0.out | apply below_alloc | apply pw_below_drewN | apply below_drew1)) hb); clear hS hge hb))
 go_upto_region 16 with (first
  | ((with_reducible refine gate_callee (f := 10) rfl ?_); refine goesL_ (some 81) rfl rfl Try.func10 (by kernel_rfl) rfl #[.pointer (some ⟨g, 0, none⟩), .slice A X c] rfl (by (try simp only [List.map_toArray, List.map_cons, List.map_nil]); first | done | rfl) ?_; refine calls_of_args (args' := #[.pointer (some ⟨g, 0, none⟩), .slice A X1.length c]) (by rw [LX1.out]) ?_; (refine (resamp_Sampler_Run.walk k1 a b g _ A c X1 r1 0 z1 _ HS2.out ?side3 DX1.out G1.out).mono ?_); (case side3 => exact Kd.C_below CX1.out (by repeat (with_reducible first | exact HB2.out | apply below_alloc | apply pw_below_drewN | apply below_drew1))); rintro e w3 ⟨v1, rfl, ho, hP⟩; refine ⟨_, rfl, ?_⟩; have HO1 := Aside0.mk ho; have HS3 := Aside0.mk (hP.2.2 rfl); have HT3 := Aside0.mk (sat_away hP.1 HT.out (by have := GH.out; omega)); have LH := Aside0.mk HT.out.lt; have HB3 := Aside0.mk (below_keep (by repeat (with_reducible first | exact HB2.out | apply below_alloc | apply pw_below_drewN | apply below_drew1)) hP.1 GE.out); clear ho hP)
  | ((with_reducible refine gate_callee (f := 10) rfl ?_); refine goesL_ (some 91) rfl rfl Try.func10 (by kernel_rfl) rfl #[.pointer (some ⟨h, 0, none⟩), .slice A Y c] rfl (by (try simp only [List.map_toArray, List.map_cons, List.map_nil]); first | done | rfl) ?_; refine calls_of_args (args' := #[.pointer (some ⟨h, 0, none⟩), .slice A X2.length c]) (by rw [LX2.out]) ?_; (refine (resamp_Sampler_Run.walk k2 a b h _ A c X2 r2 0 z2 _ HT3.out ?side3 DX2.out G2.out).mono ?_); (case side3 => exact Kd.C_below CX2.out (by repeat (with_reducible first | exact HB3.out | apply below_alloc | apply pw_below_drewN | apply below_drew1))); rintro e w4 ⟨v2, rfl, ho, hP⟩; refine ⟨_, rfl, ?_⟩; have HO2 := Aside0.mk ho; have HT4 := Aside0.mk (hP.2.2 rfl); have HS4 := Aside0.mk (sat_away hP.1 HS3.out (by have := GH.out; omega)); have HO1b := Aside0.mk (R_keeps HO1.out hP.1 (fun k_ e_ => by have h1 := Kd.R_base HO1.out k_ e_; have h2 := LH.out; first | omega | (simp only [] at h1 h2; omega))); have SZ4 := Aside0.mk hP.1.1.1; have HB4 := Aside0.mk (below_keep (by repeat (with_reducible first | exact HB3.out | apply below_alloc | apply pw_below_drewN | apply below_drew1)) hP.1 (by have h1 := GE.out; have h2 := GH.out; omega)); clear ho hP)
  | ((with_reducible refine gate_callee (f := 10) rfl ?_); refine goesL_ (some 101) rfl rfl Try.func10 (by kernel_rfl) rfl #[.pointer (some ⟨h, 0, none⟩), .slice A5 X3.length c5] rfl (by (try simp only [List.map_toArray, List.map_cons, List.map_nil]); first | done | rfl) ?_; (refine (resamp_Sampler_Run.walk k3 a b h _ A5 c5 X3 r3 0 z3 _ HT4.out ?side3 DX3.out G3.out).mono ?_); (case side3 => exact Kd.C_below CX3.out (by repeat (with_reducible first | exact HB4.out | apply below_alloc | apply pw_below_drewN | apply below_drew1))); rintro e w5 ⟨v3, rfl, ho, hP⟩; refine ⟨_, rfl, ?_⟩; have HO3 := Aside0.mk ho; have HT5 := Aside0.mk (hP.2.2 rfl); have HS5 := Aside0.mk (sat_away hP.1 HS4.out (by have := GH.out; omega)); have LH3 := Aside0.mk HT3.out.lt; have HO2b := Aside0.mk (R_keeps HO2.out hP.1 (fun k_ e_ => by have h1 := Kd.R_base HO2.out k_ e_; have h2 := LH3.out; first | omega | (simp only [] at h1 h2; omega))); have HO1c := Aside0.mk (R_keeps HO1b.out hP.1 (fun k_ e_ => by have h1 := Kd.R_base HO1b.out k_ e_; have h2 := LH.out; first | omega | (simp only [] at h1 h2; omega))); have SZ5 := Aside0.mk hP.1.1.1; have HB5 := Aside0.mk (below_keep (by repeat (with_reducible first | exact HB4.out | apply below_alloc | apply pw_below_drewN | apply below_drew1)) hP.1 (by have h1 := GE.out; have h2 := GH.out; omega)); clear ho hP))
 have hRR := HRR.out
 have hlen : r2.length + r3.length = L * q := by rw [← List.length_append, hRR, HRL.out]
 have hl8 : (r2.length + r3.length) * 8 ≤ 140737488355328 := by have := HLQ.out; clear f1 f2 f3 f4 f5 f1w f2w f3w f4w f5w; omega
 have SZ := Aside0.mk (show w3.heap.size ≤ w5.heap.size from Nat.le_trans SZ4.out SZ5.out)
 have SW := Aside0.mk (below_size HB3.out)
 have LV1 := Aside0.mk (Kd.R_lt HO1.out)
 have HL8 := Aside0.mk hl8
 clear hlen hl8 hRR
 obtain ⟨B1, n1, e1⟩ := Kd.R_slice HO1.out
 obtain ⟨B3, n3, e3⟩ := Kd.R_slice HO3.out
 subst e1 e3
 have z5 : (((L * q : Nat) : Int) == ((L * q : Nat) : Int)) = true := beq_self_eq_true _
 have z6 : ((r1.length : Int) == ((L * q : Nat) : Int)) = true := by rw [HRL.out]; exact z5
 have z7 : decide (z1.drop (z1.length - 16) = z3.drop (z3.length - 16)) = true := decide_eq_true HZZ.out.symm
 have z8 : ((r1.length : Int) == (L : Int) * (q : Int)) = true := by rw [← Int.natCast_mul]; exact z6
 go_wp2_with (first
  | ((with_reducible refine gate_builtin (b := .append) (xs := #[.tmp 105, .tmp 106]) rfl ?_); (try (refine gate_guard (by rfl) ?_; dsimp only)); at_builtin; refine Kd.R_append_rows (Kd.int .i64) (w0 := w5) w3.heap.size rfl (.tmp 105) (.tmp 106) 27 2 (.int .i64 0) 8 rfl Try.underlying27 info2 rfl (by decide) (by omega) v2 r2 r3 B3 _ _ (fun _ => True) (fun _ => False) rfl rfl ?aO ?aR (fun _ _ h => h) (fun _ h => h.elim) ?aF ?aB ?aS ?aL ?_; (case aR => exact (Kd.R_reads' HO3.out).2.2); (case aB => exact Below.refl _ _); (case aF => exact (fun _ _ => trivial)); (case aO => exact HO2b.out); (case aS => exact SZ.out); (case aL => exact HL8.out); intro v4 w6 ho hb hg hat; rw [HRR.out] at ho; have HO4 := Aside0.mk ho; have HO1d := Aside0.mk (R_under HO1c.out hb LV1.out); have HS6 := Aside0.mk (HS5.out.keep (hb.block g (by have h1 := GH.out; have h2 := LH3.out; omega))); have HT6 := Aside0.mk (HT5.out.keep (hb.block h LH3.out)); have HB6 := Aside0.mk (below_more HB5.out hb SW.out); clear ho hb hg hat; obtain ⟨B4, n4, e4⟩ := Kd.R_slice HO4.out; subst e4)
  | ((with_reducible refine gate_callee (f := 15) rfl ?_); refine goesL_ (some 108) rfl rfl Try.func15 (by kernel_rfl) rfl #[.slice B1 r1.length n1, .slice B4 r1.length n4] rfl (by (try simp only [List.map_toArray, List.map_cons, List.map_nil]); first | done | rfl) ?_; (refine (madrigallaw22_same.calls kS _ _ r1 _ _ r1 true _ ?side1 ?side2 ?side3 ?side4 HSM.out).mono ?_); (case side1 => exact (Kd.R_reads' HO1d.out).2.2); (case side2 => exact (Kd.R_reads' HO1d.out).2.1); (case side3 => exact (Kd.R_reads' HO4.out).2.2); (case side4 => exact (Kd.R_reads' HO4.out).2.1); rintro e w' ⟨rfl, ⟨nd, rfl⟩⟩; refine ⟨_, rfl, ?_⟩)
  | (go_at_call 18; go_loud ((refine (resamp_Sampler_Same.walk a b g h _ _ (w6.drewN nd) (HS6.out.keep rfl) (HT6.out.keep rfl)).mono ?_); rintro e w7 ⟨rfl, hb⟩; rw [z7]); have HB7 := Aside0.mk (below_step (by repeat (with_reducible first | exact HB6.out | apply below_alloc | apply pw_below_drewN | apply below_drew1)) hb); clear hb))
 go_ret
 exact ⟨rfl, by repeat (with_reducible first | exact HB7.out | apply below_alloc | apply pw_below_drewN | apply below_drew1)⟩
theorem madrigallaw22_ResampCuts.walk (a0 a1 : Int) (a2 : Option Addr) (len2 cap2 : Nat) (z2 : List Int) (a3 : Int) (w : World) (w2 : (a2 = none ∧ len2 = 0 ∧ cap2 = 0 ∧ z2 = []) ∨ ∃ x, a2 = some x ∧ len2 ≤ cap2 ∧ cap2 ≤ maxLen ∧ z2.length = cap2 ∧ (∀ i, i < z2.length → w.cell? (x.add i) = some (.int .i64 (z2.getD i 0))) ∧ ∀ n ∈ z2, (Lit.int .i64 n).wf = true) (w3 : (Lit.int .i64 a3).wf = true) :
  Calls Try.prog 5 #[.int .i64 a0, .int .i64 a1, .slice a2 len2 cap2, .int .i64 a3] w fun e w' => e = .returned (.bool true) ∧ Below w.heap.size w w' := by
 obtain ⟨l0, rfl, hr0, hm0, hw0, hc0⟩ := ReadsInt.ofRowC w2
 have h3 := (Lit.wf_int_iff .i64 a3).1 w3
 refine cuts_walk a0 a1 a2 cap2 l0 a3 w (Kd.C_of_reads (d := (0 : Int)) (h1 := fun _ => rfl) hr0) hc0 ?_
 exact h3
end Go.Proofs.Ytocnpnpedmapbaa.MA
