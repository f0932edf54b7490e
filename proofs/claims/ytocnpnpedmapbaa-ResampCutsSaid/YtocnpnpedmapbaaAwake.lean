/- What the document tells of two rates, walked: the code answers true. No condition. -/
import Derived.Laws.Cover3
import Derived.Laws.Tables
import Derived.Laws.CopyOwn
import Derived.Deep.MidRow
import Derived.Test.YtocnpnpedmapbaaRun
namespace Go.Proofs.Ytocnpnpedmapbaa.MA
open Go.RowKit Go.Proofs.YtocnpnpedmapbaaW.PrintWords Go.Proofs.YtocnpnpedmapbaaW.PrintLast Go.Proofs.YtocnpnpedmapbaaW.PrintMore
attribute [local go_sem] max2_int min2_int max_two min_two max_three min_three max_four min_four
set_option linter.unusedVariables false
set_option linter.unusedSimpArgs false
def f16 : List Int := [0, 0, 0, 0, 0, 0, 0, 32768, 0, 0, 0, 0, 0, 0, 0, 0]
def z19 : List Int := [0, 0, 0, 0, 0, 0, 0, 0, 0, 0, 0, 0, 0, 0, 0, 0, 9000, 9000, 9000]
def y6 : List Int := [0, -4, 0, 34, 0, -82]
set_option maxHeartbeats 8000000 in
set_option maxRecDepth 100000 in
theorem awake_walk (w : World) : Calls Try.prog 8 #[] w fun e w' => e = .returned (.bool true) ∧ Below w.heap.size w w' := by
 have HFi : Aside0 (resamp_Filter.f 3000 8000 16000 0 = some f16) := ⟨by kernel_rfl⟩
 have HSu : Aside0 (madrigallaw22_sum.f 3000 f16 = some 32768) := ⟨by kernel_rfl⟩
 have HGo : Aside0 (resamp_Good.f 8000 16000 = some true) := ⟨by kernel_rfl⟩
 have HG1 : Aside0 (resamp_Good.f 8000 48000 = some true) := ⟨by kernel_rfl⟩
 have HG2 : Aside0 (resamp_Good.f 8000 44100 = some false) := ⟨by kernel_rfl⟩
 have HRu : Aside0 (resamp_Sampler_Run.f 3000 8000 16000 (List.replicate 16 0) [9000, 9000, 9000] = some (y6, 0, z19)) := ⟨by kernel_rfl⟩
 have HNe : Aside0 (decide (z19.drop (z19.length - 16) = List.replicate 16 0) = false) := ⟨by decide⟩
 go_enter Try.func8, Try.ntmps8
 go_wp2_with (first
  | ((with_reducible refine gate_callee (f := 11) rfl ?_); refine goesL_ (some 7) rfl rfl Try.func11 (by kernel_rfl) rfl #[.int .i64 8000, .int .i64 16000, .int .i64 0] rfl (by (try simp only [List.map_toArray, List.map_cons, List.map_nil]); first | done | rfl) ?_; (refine (resamp_Filter.calls 3000 8000 16000 0 f16 _ HFi.out).mono ?_); rintro e w1 ⟨v1, rfl, ho, hb⟩; refine ⟨_, rfl, ?_⟩; obtain ⟨A1, k1, e1⟩ := Kd.R_slice ho; subst e1; have FF1 := Aside0.mk ho; have HB1 := Aside0.mk hb; clear ho hb)
  | ((with_reducible refine gate_callee (f := 9) rfl ?_); refine goesL_ (some 9) rfl rfl Try.func9 (by kernel_rfl) rfl #[.int .i64 8000, .int .i64 16000] rfl (by (try simp only [List.map_toArray, List.map_cons, List.map_nil]); first | done | rfl) ?_; (refine (resamp_New.good 8000 16000 _ HGo.out).mono ?_); rintro e w2 ⟨g, rfl, hge, hS, hb⟩; refine ⟨_, rfl, ?_⟩; have S2 := Aside0.mk hS; have LG := Aside0.mk hge; have HB2 := Aside0.mk (below_step HB1.out hb); have FF2 := Aside0.mk (Kd.R_below FF1.out hb); clear hS hb hge)
  | ((with_reducible refine gate_dst (N := 20) rfl ?_); (try (refine gate_guard (by rfl) ?_; dsimp only)); refine Kd.R_lit (Kd.int .i64) _ 2 ?hg (N := 20) ?hd (xs := ([9000, 9000, 9000] : List Int)) (inner := [.int .i64 9000, .int .i64 9000, .int .i64 9000]) (ok := fun _ => True) (okp := fun _ => True) ?hr ?hp (fun _ hk => hk) trivial (Below.refl _ _) (Nat.le_refl _) (by simp) ?_; (case hd => rfl); (case hg => rfl); (case hr => first | (go_simp; done) | (go_simp; rfl)); (case hp => exact (Reps.one (show Kd.M (Kd.int .i64) _ _ _ 9000 [.int .i64 9000] from rfl) (Reps.one (show Kd.M (Kd.int .i64) _ _ _ 9000 [.int .i64 9000] from rfl) (Reps.one (show Kd.M (Kd.int .i64) _ _ _ 9000 [.int .i64 9000] from rfl) (Reps.none _ _))))); intro v3 w3 ho hb _ _; obtain ⟨A3, k3, e3⟩ := Kd.R_slice ho; subst e3; have FL3 := Aside0.mk ho; have HB3 := Aside0.mk (below_step HB2.out hb); have FF3 := Aside0.mk (Kd.R_below FF2.out hb); have S3 := Aside0.mk (S2.out.below hb); have LF := Aside0.mk (Kd.R_lt FF1.out); clear ho hb)
  | ((with_reducible refine gate_callee (f := 10) rfl ?_); refine goesL_ (some 21) rfl rfl Try.func10 (by kernel_rfl) rfl #[.pointer (some ⟨g, 0, none⟩), .slice A3 ([9000, 9000, 9000] : List Int).length k3] rfl (by (try simp only [List.map_toArray, List.map_cons, List.map_nil]); first | done | rfl) ?_; (refine (resamp_Sampler_Run.walk 3000 8000 16000 g (List.replicate 16 0) A3 k3 [9000, 9000, 9000] y6 0 z19 _ S3.out (Kd.R_reads' FL3.out).2.2 (Kd.R_reads' FL3.out).2.1 HRu.out).mono ?_); rintro e w4 ⟨v4, rfl, ho, hP⟩; refine ⟨_, rfl, ?_⟩; obtain ⟨A4, k4, e4⟩ := Kd.R_slice ho; subst e4; have hS := hP.2.2 rfl; have hk := hP.1; have S4 := Aside0.mk hS; have HB4 := Aside0.mk (below_keep HB3.out hk (Nat.le_trans HB1.out.size LG.out)); have FF4 := Aside0.mk (R_keeps FF3.out hk (fun k_ e_ => by have h1 := LF.out k_ e_; have h2 := LG.out; omega)); clear ho hP hS hk)
  | ((with_reducible refine gate_callee (f := 20) rfl ?_); refine goesL_ (some 25) rfl rfl Try.func20 (by kernel_rfl) rfl #[.pointer (some ⟨g, 0, none⟩)] rfl (by (try simp only [List.map_toArray, List.map_cons, List.map_nil]); first | done | rfl) ?_; (refine (resamp_Sampler_Copy.walk 8000 16000 g _ _ S4.out).mono ?_); rintro e w5 ⟨g', rfl, hge, hS, hb⟩; refine ⟨_, rfl, ?_⟩; have C5 := Aside0.mk hS; have S5 := Aside0.mk (S4.out.below hb); have NE := Aside0.mk (show g' ≠ g from by have := S4.out.lt; omega); have HB5 := Aside0.mk (below_step HB4.out hb); have FF5 := Aside0.mk (Kd.R_below FF4.out hb); clear hS hb hge)
  | (go_at_call 21; (refine (resamp_Sampler_Reset.walk 8000 16000 g _ _ S5.out).mono ?_); rintro e w6 ⟨rfl, hS, hk⟩; have S6 := Aside0.mk hS; have C6 := Aside0.mk (C5.out.away hk NE.out); have HB6 := Aside0.mk (below_keep HB5.out hk (Nat.le_trans HB1.out.size LG.out)); have FF6 := Aside0.mk (R_keeps FF5.out hk (fun k_ e_ => by have h1 := LF.out k_ e_; have h2 := LG.out; omega)); clear hS hk)
  | (go_at_call 17; (refine (madrigallaw22_sum.calls 3000 _ _ f16 32768 _ ?side1 ?side2 HSu.out).mono ?_); (case side1 => exact (Kd.R_reads' FF6.out).2.2); (case side2 => exact (Kd.R_reads' FF6.out).2.1); rintro e w' ⟨rfl, ⟨nd, rfl⟩⟩)
  | (go_at_call 18; (refine (resamp_Sampler_Same.walk 8000 16000 g' g _ _ _ (C6.out.keep (W := w6.drewN nd) rfl) (S6.out.keep (W := w6.drewN nd) rfl)).mono ?_); rintro e w7 ⟨rfl, hb⟩; have HB7 := Aside0.mk (below_step (by repeat (with_reducible first | exact HB6.out | apply below_alloc | apply pw_below_drewN | apply below_drew1)) hb); have hne := HNe.out; rw [hne]; clear hb hne)
  | (go_at_call 13; first | ((with_reducible refine (resamp_Good.calls 8000 48000 true _ HG1.out).mono ?_); rintro e w' ⟨rfl, ⟨nd2, rfl⟩⟩) | ((with_reducible refine (resamp_Good.calls 8000 44100 false _ HG2.out).mono ?_); rintro e w' ⟨rfl, ⟨nd3, rfl⟩⟩)))
 go_ret
 exact ⟨rfl, by repeat (with_reducible first | exact HB7.out | apply below_alloc | apply pw_below_drewN | apply below_drew1)⟩
def madrigallaw22_awake.f : Option Bool := some true
theorem madrigallaw22_awake.calls (r : Bool) (w : World) (h : madrigallaw22_awake.f = some r) :
  Calls Try.prog 8 #[] w fun e w' => e = .returned (.bool r) ∧ Below w.heap.size w w' := by
 obtain rfl : r = true := (Option.some.inj h).symm
 exact awake_walk w
end Go.Proofs.Ytocnpnpedmapbaa.MA
