/- The closed law ResampKnown walked: the code answers true. No condition. -/
import Derived.Laws.Cover3
import Derived.Laws.Tables
import Derived.Laws.CopyOwn
import Derived.Deep.MidRow
import Derived.Test.YtocnpnpedmapbaaAwake
namespace Go.Proofs.Ytocnpnpedmapbaa.MA
open Go.RowKit Go.Proofs.YtocnpnpedmapbaaW.PrintWords Go.Proofs.YtocnpnpedmapbaaW.PrintLast Go.Proofs.YtocnpnpedmapbaaW.PrintMore
attribute [local go_sem] max2_int min2_int max_two min_two max_three min_three max_four min_four
set_option linter.unusedVariables false
set_option linter.unusedSimpArgs false
set_option maxHeartbeats 8000000 in
set_option maxRecDepth 100000 in
theorem known_walk (w : World) : Calls Try.prog 3 #[] w fun e w' => e = .returned (.bool true) ∧ Below w.heap.size w w' := by
 have HF1 : Aside0 (resamp_Filter.f 3000 8000 16000 2 = some []) := ⟨by kernel_rfl⟩
 have HF2 : Aside0 (resamp_Filter.f 3000 1 2 0 = some []) := ⟨by kernel_rfl⟩
 have HGo : Aside0 (resamp_Good.f 16000 8000 = some true) := ⟨by kernel_rfl⟩
 have HGb : Aside0 (resamp_Good.f 8000 9 = some false) := ⟨by kernel_rfl⟩
 have HR1 : Aside0 (resamp_Sampler_Run.f 3000 16000 8000 (List.replicate 16 0) [1] = some ([], 1, [])) := ⟨by kernel_rfl⟩
 have HR2 : Aside0 (resamp_Sampler_Run.f 3000 16000 8000 (List.replicate 16 0) [] = some ([], 0, List.replicate 16 0)) := ⟨by kernel_rfl⟩
 go_enter Try.func3, Try.ntmps3
 go_wp2_with (first
  | ((with_reducible refine gate_callee (f := 8) rfl ?_); refine goesL_ (some 9) rfl rfl Try.func8 (by kernel_rfl) rfl #[] rfl (by (try simp only [List.map_toArray, List.map_cons, List.map_nil]); first | done | rfl) ?_; (refine (madrigallaw22_awake.calls true _ rfl).mono ?_); rintro e w0 ⟨rfl, hb⟩; refine ⟨_, rfl, ?_⟩; have HB0 := Aside0.mk hb; clear hb)
  | ((with_reducible refine gate_callee (f := 9) rfl ?_); refine goesL_ (some 12) rfl rfl Try.func9 (by kernel_rfl) rfl #[.int .i64 8000, .int .i64 9] rfl (by (try simp only [List.map_toArray, List.map_cons, List.map_nil]); first | done | rfl) ?_; (refine (resamp_New.bad 8000 9 _ HGb.out).mono ?_); rintro e w1 ⟨rfl, hb⟩; refine ⟨_, rfl, ?_⟩; have HB1 := Aside0.mk (below_step HB0.out hb); clear hb)
  | ((with_reducible refine gate_callee (f := 9) rfl ?_); refine goesL_ (some 16) rfl rfl Try.func9 (by kernel_rfl) rfl #[.int .i64 16000, .int .i64 8000] rfl (by (try simp only [List.map_toArray, List.map_cons, List.map_nil]); first | done | rfl) ?_; (refine (resamp_New.good 16000 8000 _ HGo.out).mono ?_); rintro e w2 ⟨g, rfl, hge, hS, hb⟩; refine ⟨_, rfl, ?_⟩; have S2 := Aside0.mk hS; have LG := Aside0.mk hge; have HB2 := Aside0.mk (below_step HB1.out hb); clear hS hb hge)
  | ((with_reducible refine gate_dst (N := 21) rfl ?_); (try (refine gate_guard (by rfl) ?_; dsimp only)); refine Kd.R_lit (Kd.int .i64) _ 2 ?hg (N := 21) ?hd (xs := ([1] : List Int)) (inner := [.int .i64 1]) (ok := fun _ => True) (okp := fun _ => True) ?hr ?hp (fun _ hk => hk) trivial (Below.refl _ _) (Nat.le_refl _) (by simp) ?_; (case hd => rfl); (case hg => rfl); (case hr => first | (go_simp; done) | (go_simp; rfl)); (case hp => exact (Reps.one (show Kd.M (Kd.int .i64) _ _ _ 1 [.int .i64 1] from rfl) (Reps.none _ _))); intro v3 w3 ho hb _ _; obtain ⟨A3, k3, e3⟩ := Kd.R_slice ho; subst e3; have FL3 := Aside0.mk ho; have HB3 := Aside0.mk (below_step HB2.out hb); have S3 := Aside0.mk (S2.out.below hb); clear ho hb)
  | ((with_reducible refine gate_callee (f := 10) rfl ?_); refine goesL_ (some 22) rfl rfl Try.func10 (by kernel_rfl) rfl #[.pointer (some ⟨g, 0, none⟩), .slice A3 ([1] : List Int).length k3] rfl (by (try simp only [List.map_toArray, List.map_cons, List.map_nil]); first | done | rfl) ?_; (refine (resamp_Sampler_Run.walk 3000 16000 8000 g (List.replicate 16 0) A3 k3 [1] [] 1 [] _ S3.out (Kd.R_reads' FL3.out).2.2 (Kd.R_reads' FL3.out).2.1 HR1.out).mono ?_); rintro e w4 ⟨v4, rfl, ho, hP⟩; refine ⟨_, rfl, ?_⟩; obtain ⟨A4, k4, e4⟩ := Kd.R_slice ho; subst e4; have hb := hP.1 rfl; have S4 := Aside0.mk (S3.out.below hb); have HB4 := Aside0.mk (below_step HB3.out hb); clear ho hP hb)
  | ((with_reducible refine gate_callee (f := 10) rfl ?_); refine goesL_ (some 27) rfl rfl Try.func10 (by kernel_rfl) rfl #[.pointer (some ⟨g, 0, none⟩), .slice none 0 0] rfl (by (try simp only [List.map_toArray, List.map_cons, List.map_nil]); first | done | rfl) ?_; (refine (resamp_Sampler_Run.walk 3000 16000 8000 g (List.replicate 16 0) none 0 [] [] 0 (List.replicate 16 0) _ S4.out (Kd.C_nil _ _) (Nat.le_refl 0) HR2.out).mono ?_); rintro e w5 ⟨v5, rfl, ho, hP⟩; refine ⟨_, rfl, ?_⟩; obtain ⟨A5, k5, e5⟩ := Kd.R_slice ho; subst e5; obtain ⟨hS, hk⟩ := hP.2 rfl; have HB5 := Aside0.mk (below_keep HB4.out hk (Nat.le_trans HB1.out.size LG.out)); clear ho hP hS hk)
  | (go_at_call 11; first | ((with_reducible refine (resamp_Filter.calls 3000 8000 16000 2 [] _ HF1.out).mono ?_); rintro e w6 ⟨v6, rfl, ho, hb⟩; obtain ⟨A6, k6, e6⟩ := Kd.R_slice ho; subst e6; have HB6 := Aside0.mk (below_step HB5.out hb); clear ho hb) | ((with_reducible refine (resamp_Filter.calls 3000 1 2 0 [] _ HF2.out).mono ?_); rintro e w7 ⟨v7, rfl, ho, hb⟩; obtain ⟨A7, k7, e7⟩ := Kd.R_slice ho; subst e7; have HB7 := Aside0.mk (below_step HB6.out hb); clear ho hb)))
 go_ret
 exact ⟨rfl, HB7.out⟩
end Go.Proofs.Ytocnpnpedmapbaa.MA
