/- The closed law MdctKnown walked: the code answers true. No condition. -/
import Derived.Laws.Cover3
import Derived.Laws.Tables
import Derived.Test.YtnliianjljgcbaaMAx6
namespace Go.Proofs.Ytnliianjljgcbaa.MA
open Go.RowKit Go.Proofs.YtnliianjljgcbaaW.PrintWords Go.Proofs.YtnliianjljgcbaaW.PrintLast Go.Proofs.YtnliianjljgcbaaW.PrintMore
attribute [local go_sem] max2_int min2_int max_two min_two max_three min_three max_four min_four
set_option linter.unusedVariables false
set_option linter.unusedSimpArgs false
set_option maxHeartbeats 8000000 in
set_option maxRecDepth 100000 in
theorem known_walk (w : World) : Calls Try.prog 3 #[] w fun e w' => e = .returned (.bool true) ∧ Below w.heap.size w w' := by
 have HSh : Aside0 (mdct_Shape.f 3000 3 2 = some ([], 1)) := ⟨by kernel_rfl⟩
 have HFo : Aside0 (mdct_Forward.f 3000 (List.replicate (9 : Int).toNat 0) 2 = some ([], 1)) := ⟨by kernel_rfl⟩
 have HIn : Aside0 (mdct_Inverse.f 3000 [] 2 = some ([], 1)) := ⟨by kernel_rfl⟩
 have HGo : Aside0 (mdct_Good.f 4 2 = some true) := ⟨by kernel_rfl⟩
 have HGb : Aside0 (mdct_Good.f 481 3 = some false) := ⟨by kernel_rfl⟩
 have HNe : Aside0 (mdct_Joiner_Next.f 3000 4 2 (List.replicate 4 0) [] = some ([], 1)) := ⟨by kernel_rfl⟩
 go_enter Try.func3, Try.ntmps3
 go_wp2_with (first
  | ((with_reducible refine gate_callee (f := 9) rfl ?_); refine goesL_ (some 13) rfl rfl Try.func9 (by kernel_rfl) rfl #[] rfl (by (try simp only [List.map_toArray, List.map_cons, List.map_nil]); first | done | rfl) ?_; (with_reducible refine (madrigallaw15_awake.calls true _ rfl).mono ?_); rintro e w0 ⟨rfl, hb⟩; refine ⟨_, rfl, ?_⟩; have HB0 := Aside0.mk hb; clear hb)
  | ((with_reducible refine gate_callee (f := 10) rfl ?_); refine goesL_ (some 16) rfl rfl Try.func10 (by kernel_rfl) rfl #[.int .i64 3, .int .i64 2] rfl (by (try simp only [List.map_toArray, List.map_cons, List.map_nil]); first | done | rfl) ?_; (with_reducible refine (mdct_Shape.calls 3000 3 2 [] 1 _ HSh.out).mono ?_); rintro e w1 ⟨v1, rfl, ho, hb⟩; refine ⟨_, rfl, ?_⟩; obtain ⟨A1, k1, e1⟩ := Kd.R_slice ho; subst e1; have HB1 := Aside0.mk (below_step HB0.out hb); clear ho hb)
  | ((with_reducible refine gate_dst (N := 20) rfl ?_); (try (refine gate_guard (by rfl) ?_; dsimp only)); refine Kd.R_make (Kd.int .i64) _ 2 rfl (N := 20) rfl 23 _ _ rfl 9 rfl rfl Try.underlying23 (.int .i64 0) 8 info2 rfl (by decide) (by omega) 0 (ok := fun _ => True) (okp := fun _ => True) rfl (fun _ hk => hk) trivial (by omega) (by omega) (Below.refl _ _) (Nat.le_refl _) ?_; intro v2 w2 ho hb _ _; obtain ⟨A2, k2, e2⟩ := Kd.R_slice ho; subst e2; have FZ2 := Aside0.mk ho; have HB2 := Aside0.mk (below_step HB1.out hb); clear ho hb)
  | ((with_reducible refine gate_callee (f := 11) rfl ?_); refine goesL_ (some 21) rfl rfl Try.func11 (by kernel_rfl) rfl #[.slice A2 (List.replicate (9 : Int).toNat (0 : Int)).length k2, .int .i64 2] rfl (by (try simp only [List.map_toArray, List.map_cons, List.map_nil]); first | done | rfl) ?_; (with_reducible refine (mdct_Forward.calls 3000 _ _ (List.replicate (9 : Int).toNat 0) 2 [] 1 _ ?side1 ?side2 HFo.out).mono ?_); (case side1 => exact (Kd.R_reads' FZ2.out).2.2); (case side2 => exact (Kd.R_reads' FZ2.out).2.1); rintro e w3 ⟨v3, rfl, ho, hb⟩; refine ⟨_, rfl, ?_⟩; obtain ⟨A3, k3, e3⟩ := Kd.R_slice ho; subst e3; have HB3 := Aside0.mk (below_step HB2.out hb); clear ho hb)
  | ((with_reducible refine gate_callee (f := 12) rfl ?_); refine goesL_ (some 25) rfl rfl Try.func12 (by kernel_rfl) rfl #[.slice none 0 0, .int .i64 2] rfl (by (try simp only [List.map_toArray, List.map_cons, List.map_nil]); first | done | rfl) ?_; (refine (mdct_Inverse.calls 3000 none 0 [] 2 [] 1 _ (Kd.C_nil _ _) (Nat.le_refl 0) HIn.out).mono ?_); rintro e w4 ⟨v4, rfl, ho, hb⟩; refine ⟨_, rfl, ?_⟩; obtain ⟨A4, k4, e4⟩ := Kd.R_slice ho; subst e4; have HB4 := Aside0.mk (below_step HB3.out hb); clear ho hb)
  | ((with_reducible refine gate_callee (f := 13) rfl ?_); refine goesL_ (some 29) rfl rfl Try.func13 (by kernel_rfl) rfl #[.int .i64 481, .int .i64 3] rfl (by (try simp only [List.map_toArray, List.map_cons, List.map_nil]); first | done | rfl) ?_; (with_reducible refine (mdct_New.bad 481 3 _ HGb.out).mono ?_); rintro e w5 ⟨rfl, hb⟩; refine ⟨_, rfl, ?_⟩; have HB5 := Aside0.mk (below_step HB4.out hb); clear hb)
  | ((with_reducible refine gate_callee (f := 13) rfl ?_); refine goesL_ (some 33) rfl rfl Try.func13 (by kernel_rfl) rfl #[.int .i64 4, .int .i64 2] rfl (by (try simp only [List.map_toArray, List.map_cons, List.map_nil]); first | done | rfl) ?_; (with_reducible refine (mdct_New.good 4 2 _ (by omega) HGo.out).mono ?_); rintro e w6 ⟨g, rfl, hJ, hb⟩; refine ⟨_, rfl, ?_⟩; have J6 := Aside0.mk (show JAt w6 w5.heap.size g 4 2 (List.replicate 4 0) from hJ); have HB6 := Aside0.mk (below_step HB5.out hb); clear hJ hb; obtain ⟨A6, c6, hg6, hC6, hc6, hA6⟩ := J6.out.2; have G6 := Aside0.mk hg6; have C6 := Aside0.mk hC6; have L6 := Aside0.mk hc6; clear hg6 hC6 hc6 hA6)
  | ((with_reducible refine gate_callee (f := 14) rfl ?_); refine goesL_ (some 38) rfl rfl Try.func14 (by kernel_rfl) rfl #[.pointer (some ⟨g, 0, none⟩), .slice none 0 0] rfl (by (try simp only [List.map_toArray, List.map_cons, List.map_nil]); first | done | rfl) ?_; (refine (mdct_Joiner_Next.walk 3000 4 2 g A6 c6 (List.replicate 4 0) none 0 [] [] 1 _ G6.out C6.out L6.out (Kd.C_nil _ _) (Nat.le_refl 0) HNe.out).mono ?_); rintro e w7 ⟨v7, rfl, ho, hP⟩; refine ⟨_, rfl, ?_⟩; obtain ⟨A7, k7, e7⟩ := Kd.R_slice ho; subst e7; have HB7 := Aside0.mk (below_step HB6.out (hP.1 (fun h => absurd h.1 (by decide)))); clear ho hP))
 go_ret
 exact ⟨rfl, HB7.out⟩
theorem madrigallaw15_MdctKnown.walk (w : World) : Calls Try.prog 3 #[] w fun e w' => e = .returned (.bool true) ∧ Below w.heap.size w w' := known_walk w
end Go.Proofs.Ytnliianjljgcbaa.MA
