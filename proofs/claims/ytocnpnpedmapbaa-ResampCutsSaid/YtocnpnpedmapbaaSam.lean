/- A sampler's block; samplers made, copied, emptied, compared: the code comes to the plain answers. Condition: rates that are good where a sampler is made. -/
import Derived.Test.YtocnpnpedmapbaaMAx2
import Derived.Test.YtocnpnpedmapbaaMAx5
namespace Go.Proofs.Ytocnpnpedmapbaa.MA
open Go.RowKit Go.Proofs.YtocnpnpedmapbaaW.PrintWords Go.Proofs.YtocnpnpedmapbaaW.PrintLast Go.Proofs.YtocnpnpedmapbaaW.PrintMore
attribute [local go_sem] max2_int min2_int max_two min_two max_three min_three max_four min_four
set_option linter.unusedVariables false
set_option linter.unusedSimpArgs false
def cellsS (a b : Int) (ks : List Int) : Array Value := (Value.int .i64 a :: Value.int .i64 b :: ks.map (Value.int .i64)).toArray
/-- A sampler's block. -/
def SAt (w : World) (g : Nat) (a b : Int) (ks : List Int) : Prop := ks.length = 16 ∧ w.heap[g]? = some (.cells (cellsS a b ks) 46 (0, 0))
theorem SAt.lt {w : World} {g : Nat} {a b : Int} {ks : List Int} (h : SAt w g a b ks) : g < w.heap.size := blk_lt h.2
theorem SAt.keep {w W : World} {g : Nat} {a b : Int} {ks : List Int} (h : SAt w g a b ks) (hk : W.heap[g]? = w.heap[g]?) : SAt W g a b ks := ⟨h.1, hk.trans h.2⟩
theorem SAt.below {w W : World} {g : Nat} {a b : Int} {ks : List Int} (h : SAt w g a b ks) (hk : Below w.heap.size w W) : SAt W g a b ks := h.keep (hk.block g h.lt)
theorem list16 {ks : List Int} (h : ks.length = 16) : ∃ k0 k1 k2 k3 k4 k5 k6 k7 k8 k9 k10 k11 k12 k13 k14 k15 : Int, ks = [k0, k1, k2, k3, k4, k5, k6, k7, k8, k9, k10, k11, k12, k13, k14, k15] := by
 match ks, h with
 | [k0, k1, k2, k3, k4, k5, k6, k7, k8, k9, k10, k11, k12, k13, k14, k15], _ => exact ⟨_, _, _, _, _, _, _, _, _, _, _, _, _, _, _, _, rfl⟩
/-- All is kept but one block. -/
def Keeps (w w' : World) (g : Nat) : Prop := (w.heap.size ≤ w'.heap.size ∧ ∀ i, i < w.heap.size → i ≠ g → w'.heap[i]? = w.heap[i]?) ∧ w'.os = w.os ∧ w'.tape = w.tape ∧ w'.output = w.output
theorem below_keep {w W W2 : World} {g : Nat} (h : Below w.heap.size w W) (hk : Keeps W W2 g) (hg : w.heap.size ≤ g) : Below w.heap.size w W2 :=
 ⟨hk.2.1.trans h.os, hk.2.2.1.trans h.tape, hk.2.2.2.trans h.output, Nat.le_trans h.size hk.1.1, fun i hi => (hk.1.2 i (Nat.lt_of_lt_of_le hi h.size) (by omega)).trans (h.block i hi)⟩
theorem Keeps.of_row {w : World} {g : Nat} (cs : Array Value) : Keeps w (w.setRow g cs) g :=
 ⟨⟨by simp [World.setRow], fun i _ hne => setRow_other w g i cs (by omega)⟩, rfl, rfl, rfl⟩
theorem Keeps.trans {w W W2 : World} {g : Nat} (h : Below w.heap.size w W) (hk : Keeps W W2 g) : Keeps w W2 g :=
 ⟨⟨Nat.le_trans h.size hk.1.1, fun i hi hne => (hk.1.2 i (Nat.lt_of_lt_of_le hi h.size) hne).trans (h.block i hi)⟩, hk.2.1.trans h.os, hk.2.2.1.trans h.tape, hk.2.2.2.trans h.output⟩
theorem SAt.away {w W : World} {g h : Nat} {a b : Int} {ks : List Int} (hs : SAt w g a b ks) (hk : Keeps w W h) (hne : g ≠ h) : SAt W g a b ks := hs.keep (hk.1.2 g hs.lt hne)
/-- Cells set one by one in a row: the row. -/
theorem setCells_row (w : World) (g o : Nat) (t : TypeId) (vs : List Value) (cur : Array Value) (hg : w.heap[g]? = some (.cells cur t (0, 0))) (hl : o + vs.length ≤ cur.size) (h1 : ∀ v ∈ vs, v.oneCell' = true) :
  w.setCells g o vs = w.setRow g (cur.toList.take o ++ vs ++ cur.toList.drop (o + vs.length)).toArray := by
 have e1 := run_storeCells_at (P := Try.prog) g o t vs 0 cur w hg (by omega) h1
 have e2 := run_storeCells_cells (P := Try.prog) g o vs 0 w (fun j hj => by simp [World.cell?, hg]; omega) (fun j hj => by simp [World.frozen?, hg]) h1
 rw [e1] at e2
 simp only [Nat.add_zero] at e2
 injection e2 with _ e3
 exact e3.symm
theorem run_load_agg {a : Act} {oi : Oper} {x : Operand} {w : World} {g : Nat} {cs : Array Value} (ho : oi.op = .load 46 x) (hx : a.eval x = .pointer (some ⟨g, 0, none⟩)) (hg : w.heap[g]? = some (.cells cs 46 (0, 0))) (hi : (Try.prog.info? 46).map (·.size) = some cs.size) :
  (execOp a.eval oi).run Try.prog w = .ok (.value (.agg cs)) w := by
 unfold execOp
 simp only [ho, hx, Instr.loadAt, Instr.sureAddr, Sem.run_bind, Sem.run_pure, Result.andThen_ok, run_loadVar_row w g 46 46 cs (0, 0) _ hg Try.underlying46 rfl hi]
set_option maxHeartbeats 8000000 in
set_option maxRecDepth 100000 in
theorem resamp_New.good (a0 a1 : Int) (w : World) (h : resamp_Good.f a0 a1 = some true) :
  Calls Try.prog 9 #[.int .i64 a0, .int .i64 a1] w fun e w' => ∃ g, e = .returned (.tuple #[.pointer (some ⟨g, 0, none⟩), .int .i64 0]) ∧ w.heap.size ≤ g ∧ SAt w' g a0 a1 (List.replicate 16 0) ∧ Below w.heap.size w w' := by
 have HB := Aside0.mk (Below.refl w.heap.size w)
 have A6 := Aside0.mk h; clear h
 go_enter Try.func9, Try.ntmps9
 go_wp2_with (first
  | ((with_reducible refine gate_callee (f := 13) rfl ?_); refine goesL_ (some 8) rfl rfl Try.func13 (by kernel_rfl) rfl #[.int .i64 a0, .int .i64 a1] rfl (by (try simp only [List.map_toArray, List.map_cons, List.map_nil]); first | done | rfl) ?_; (with_reducible refine (resamp_Good.calls a0 a1 true _ A6.out).mono ?_); rintro e w7 ⟨rfl, ⟨nd, rfl⟩⟩; refine ⟨_, rfl, ?_⟩))
 go_ret2
 exact ⟨w.heap.size, rfl, Nat.le_refl _, ⟨rfl, Array.getElem?_push_size⟩, by repeat (with_reducible first | exact HB.out | apply below_alloc | apply pw_below_drewN | apply below_drew1)⟩
set_option maxHeartbeats 8000000 in
set_option maxRecDepth 100000 in
theorem resamp_New.bad (a0 a1 : Int) (w : World) (h : resamp_Good.f a0 a1 = some false) :
  Calls Try.prog 9 #[.int .i64 a0, .int .i64 a1] w fun e w' => e = .returned (.tuple #[.pointer none, .int .i64 1]) ∧ Below w.heap.size w w' := by
 have HB := Aside0.mk (Below.refl w.heap.size w)
 have A6 := Aside0.mk h; clear h
 go_enter Try.func9, Try.ntmps9
 go_wp2_with (first
  | ((with_reducible refine gate_callee (f := 13) rfl ?_); refine goesL_ (some 8) rfl rfl Try.func13 (by kernel_rfl) rfl #[.int .i64 a0, .int .i64 a1] rfl (by (try simp only [List.map_toArray, List.map_cons, List.map_nil]); first | done | rfl) ?_; (with_reducible refine (resamp_Good.calls a0 a1 false _ A6.out).mono ?_); rintro e w7 ⟨rfl, ⟨nd, rfl⟩⟩; refine ⟨_, rfl, ?_⟩))
 go_ret2
 exact ⟨rfl, by repeat (with_reducible first | exact HB.out | apply below_alloc | apply pw_below_drewN | apply below_drew1)⟩
set_option maxHeartbeats 8000000 in
set_option maxRecDepth 100000 in
theorem resamp_Sampler_Copy.walk (a0 a1 : Int) (g : Nat) (ks : List Int) (w : World) (hS : SAt w g a0 a1 ks) :
  Calls Try.prog 20 #[.pointer (some ⟨g, 0, none⟩)] w fun e w' => ∃ g', e = .returned (.pointer (some ⟨g', 0, none⟩)) ∧ w.heap.size ≤ g' ∧ SAt w' g' a0 a1 ks ∧ Below w.heap.size w w' := by
 obtain ⟨hl, hg⟩ := hS
 obtain ⟨k0, k1, k2, k3, k4, k5, k6, k7, k8, k9, k10, k11, k12, k13, k14, k15, rfl⟩ := list16 hl
 have GH := Aside0.mk (show w.heap[g]? = some (.cells #[.int .i64 a0, .int .i64 a1, .int .i64 k0, .int .i64 k1, .int .i64 k2, .int .i64 k3, .int .i64 k4, .int .i64 k5, .int .i64 k6, .int .i64 k7, .int .i64 k8, .int .i64 k9, .int .i64 k10, .int .i64 k11, .int .i64 k12, .int .i64 k13, .int .i64 k14, .int .i64 k15] 46 (0, 0)) from hg)
 have HB := Aside0.mk (Below.refl w.heap.size w)
 clear hg
 go_enter Try.func20, Try.ntmps20
 go_wp2_with (first
  | ((with_reducible refine gate_dst (N := 6) rfl ?_); refine wpList_load_row rfl 46 (.tmp 5) rfl g ?hx 46 #[.int .i64 a0, .int .i64 a1, .int .i64 k0, .int .i64 k1, .int .i64 k2, .int .i64 k3, .int .i64 k4, .int .i64 k5, .int .i64 k6, .int .i64 k7, .int .i64 k8, .int .i64 k9, .int .i64 k10, .int .i64 k11, .int .i64 k12, .int .i64 k13, .int .i64 k14, .int .i64 k15] (0, 0) _ GH.out Try.underlying46 rfl (by kernel_rfl) ?_; (case hx => first | rfl | (go_simp; rfl))))
 go_ret
 exact ⟨w.heap.size, rfl, Nat.le_refl _, ⟨rfl, Array.getElem?_push_size⟩, by repeat (with_reducible first | exact HB.out | apply below_alloc | apply pw_below_drewN | apply below_drew1)⟩
set_option maxHeartbeats 8000000 in
set_option maxRecDepth 100000 in
theorem resamp_Sampler_Reset.walk (a0 a1 : Int) (g : Nat) (ks : List Int) (w : World) (hS : SAt w g a0 a1 ks) :
  Calls Try.prog 21 #[.pointer (some ⟨g, 0, none⟩)] w fun e w' => e = .returned (.tuple #[]) ∧ SAt w' g a0 a1 (List.replicate 16 0) ∧ Keeps w w' g := by
 obtain ⟨hl, hg⟩ := hS
 obtain ⟨k0, k1, k2, k3, k4, k5, k6, k7, k8, k9, k10, k11, k12, k13, k14, k15, rfl⟩ := list16 hl
 have GH := Aside0.mk (show w.heap[g]? = some (.cells #[.int .i64 a0, .int .i64 a1, .int .i64 k0, .int .i64 k1, .int .i64 k2, .int .i64 k3, .int .i64 k4, .int .i64 k5, .int .i64 k6, .int .i64 k7, .int .i64 k8, .int .i64 k9, .int .i64 k10, .int .i64 k11, .int .i64 k12, .int .i64 k13, .int .i64 k14, .int .i64 k15] 46 (0, 0)) from hg)
 clear hg
 have HTH : Aside0 (w.there g 2 16) := ⟨fun j hj => ⟨by simp [World.cell?, GH.out]; omega, by simp [World.frozen?, GH.out]⟩⟩
 go_enter Try.func21, Try.ntmps21
 go_wp2_with (first
  | ((with_reducible refine gate_store (t := 44) (p := 5) rfl ?_); refine wpList_store_mid rfl 44 (.tmp 5) (.tmp 3) rfl g 2 #[.int .i64 0, .int .i64 0, .int .i64 0, .int .i64 0, .int .i64 0, .int .i64 0, .int .i64 0, .int .i64 0, .int .i64 0, .int .i64 0, .int .i64 0, .int .i64 0, .int .i64 0, .int .i64 0, .int .i64 0, .int .i64 0] rfl rfl HTH.out (by kernel_rfl) (by kernel_rfl) ?_))
 go_end0
 have hr := setCells_row w g 2 46 [.int .i64 0, .int .i64 0, .int .i64 0, .int .i64 0, .int .i64 0, .int .i64 0, .int .i64 0, .int .i64 0, .int .i64 0, .int .i64 0, .int .i64 0, .int .i64 0, .int .i64 0, .int .i64 0, .int .i64 0, .int .i64 0] #[.int .i64 a0, .int .i64 a1, .int .i64 k0, .int .i64 k1, .int .i64 k2, .int .i64 k3, .int .i64 k4, .int .i64 k5, .int .i64 k6, .int .i64 k7, .int .i64 k8, .int .i64 k9, .int .i64 k10, .int .i64 k11, .int .i64 k12, .int .i64 k13, .int .i64 k14, .int .i64 k15] GH.out (by simp) (by simp [Value.oneCell'])
 refine ⟨rfl, ⟨rfl, ?_⟩, ?_⟩
 · rw [hr]; exact setRow_heap w g _ _ 46 _ GH.out
 · rw [hr]; exact Keeps.of_row _
theorem eqArr_of {P : Program} {t elem : TypeId} {len n d : Nat} {xs ys : Array Value} {r : Bool} {w : World} (hu : P.underlying t = some (.array len elem)) (hs : (sizeOf elem).run P w = .ok n w)
   (h : (Op.eqFields d xs ys ((List.range' 0 len).map fun i => Field.mk "a" elem (i * n) false "" "" 0)).run P w = .ok r w) : (Op.equalIn (d + 1) t (.agg xs) (.agg ys)).run P w = .ok r w := by
  simp only [Op.equalIn, Sem.run_bind, run_underlying hu, Result.andThen_ok, hs, Std.Legacy.Range.forIn_eq_forIn_range']
  rw [← h]
  simp only [Std.Legacy.Range.size, Nat.sub_zero, Nat.add_sub_cancel, Nat.div_one]
  generalize List.range' 0 len 1 = l
  clear h hs hu
  induction l generalizing w with
  | nil => simp [Op.eqFields]
  | cons f fs ih =>
    simp only [List.forIn_cons, List.map_cons, Op.eqFields, Sem.run_bind, Sem.run_ite, ne_eq, show ¬ ("a" = "_") by decide, not_false_eq_true, if_true]
    generalize (part elem xs (f * n)).run P w = r1
    cases r1 with
    | ok a w1 =>
        simp only [Result.andThen_ok]
        generalize (part elem ys (f * n)).run P w1 = r2
        cases r2 with
        | ok b w2 =>
          simp only [Result.andThen_ok]
          generalize (Op.equalIn d elem a b).run P w2 = r3
          cases r3 with
          | ok r w3 =>
            cases r
            · simp only [Result.andThen_ok, Bool.not_false, if_true, Sem.run_pure]
            · simp only [Result.andThen_ok, Bool.not_true, Bool.false_eq_true, if_false, Sem.run_pure]
              exact ih
          | halt x w3 => simp [Result.andThen]
        | halt x w2 => simp [Result.andThen]
    | halt x w1 => simp [Result.andThen]
theorem eqA44 (d : Nat) (w : World) (k0 k1 k2 k3 k4 k5 k6 k7 k8 k9 k10 k11 k12 k13 k14 k15 l0 l1 l2 l3 l4 l5 l6 l7 l8 l9 l10 l11 l12 l13 l14 l15 : Int) :
  (Op.equalIn (d + 2) 44 (.agg #[.int .i64 k0, .int .i64 k1, .int .i64 k2, .int .i64 k3, .int .i64 k4, .int .i64 k5, .int .i64 k6, .int .i64 k7, .int .i64 k8, .int .i64 k9, .int .i64 k10, .int .i64 k11, .int .i64 k12, .int .i64 k13, .int .i64 k14, .int .i64 k15]) (.agg #[.int .i64 l0, .int .i64 l1, .int .i64 l2, .int .i64 l3, .int .i64 l4, .int .i64 l5, .int .i64 l6, .int .i64 l7, .int .i64 l8, .int .i64 l9, .int .i64 l10, .int .i64 l11, .int .i64 l12, .int .i64 l13, .int .i64 l14, .int .i64 l15])).run Try.prog w = .ok (k0 == l0 && (k1 == l1 && (k2 == l2 && (k3 == l3 && (k4 == l4 && (k5 == l5 && (k6 == l6 && (k7 == l7 && (k8 == l8 && (k9 == l9 && (k10 == l10 && (k11 == l11 && (k12 == l12 && (k13 == l13 && (k14 == l14 && (k15 == l15)))))))))))))))) w := by
 refine eqArr_of Try.underlying44 (by go_simp; rfl) ?_
 refine eqf_cons (by rfl) (by go_simp; rfl) (by go_simp; rfl) (by go_simp) ?_
 refine eqf_cons (by rfl) (by go_simp; rfl) (by go_simp; rfl) (by go_simp) ?_
 refine eqf_cons (by rfl) (by go_simp; rfl) (by go_simp; rfl) (by go_simp) ?_
 refine eqf_cons (by rfl) (by go_simp; rfl) (by go_simp; rfl) (by go_simp) ?_
 refine eqf_cons (by rfl) (by go_simp; rfl) (by go_simp; rfl) (by go_simp) ?_
 refine eqf_cons (by rfl) (by go_simp; rfl) (by go_simp; rfl) (by go_simp) ?_
 refine eqf_cons (by rfl) (by go_simp; rfl) (by go_simp; rfl) (by go_simp) ?_
 refine eqf_cons (by rfl) (by go_simp; rfl) (by go_simp; rfl) (by go_simp) ?_
 refine eqf_cons (by rfl) (by go_simp; rfl) (by go_simp; rfl) (by go_simp) ?_
 refine eqf_cons (by rfl) (by go_simp; rfl) (by go_simp; rfl) (by go_simp) ?_
 refine eqf_cons (by rfl) (by go_simp; rfl) (by go_simp; rfl) (by go_simp) ?_
 refine eqf_cons (by rfl) (by go_simp; rfl) (by go_simp; rfl) (by go_simp) ?_
 refine eqf_cons (by rfl) (by go_simp; rfl) (by go_simp; rfl) (by go_simp) ?_
 refine eqf_cons (by rfl) (by go_simp; rfl) (by go_simp; rfl) (by go_simp) ?_
 refine eqf_cons (by rfl) (by go_simp; rfl) (by go_simp; rfl) (by go_simp) ?_
 exact eqf_last (by rfl) (by go_simp; rfl) (by go_simp; rfl) (by go_simp)
theorem eqA46 (d : Nat) (w : World) (a0 a1 b0 b1 k0 k1 k2 k3 k4 k5 k6 k7 k8 k9 k10 k11 k12 k13 k14 k15 l0 l1 l2 l3 l4 l5 l6 l7 l8 l9 l10 l11 l12 l13 l14 l15 : Int) :
  (Op.equalIn (d + 3) 46 (.agg #[.int .i64 a0, .int .i64 a1, .int .i64 k0, .int .i64 k1, .int .i64 k2, .int .i64 k3, .int .i64 k4, .int .i64 k5, .int .i64 k6, .int .i64 k7, .int .i64 k8, .int .i64 k9, .int .i64 k10, .int .i64 k11, .int .i64 k12, .int .i64 k13, .int .i64 k14, .int .i64 k15]) (.agg #[.int .i64 b0, .int .i64 b1, .int .i64 l0, .int .i64 l1, .int .i64 l2, .int .i64 l3, .int .i64 l4, .int .i64 l5, .int .i64 l6, .int .i64 l7, .int .i64 l8, .int .i64 l9, .int .i64 l10, .int .i64 l11, .int .i64 l12, .int .i64 l13, .int .i64 l14, .int .i64 l15])).run Try.prog w = .ok (a0 == b0 && (a1 == b1 && (k0 == l0 && (k1 == l1 && (k2 == l2 && (k3 == l3 && (k4 == l4 && (k5 == l5 && (k6 == l6 && (k7 == l7 && (k8 == l8 && (k9 == l9 && (k10 == l10 && (k11 == l11 && (k12 == l12 && (k13 == l13 && (k14 == l14 && (k15 == l15)))))))))))))))))) w := by
 refine eqA_of Try.underlying46 (by kernel_rfl) ?_
 refine eqf_cons (by rfl) (by go_simp; rfl) (by go_simp; rfl) (by go_simp) ?_
 refine eqf_cons (by rfl) (by go_simp; rfl) (by go_simp; rfl) (by go_simp) ?_
 exact eqf_last (by rfl) (by first | (go_simp; done) | (go_simp; rfl)) (by first | (go_simp; done) | (go_simp; rfl)) (eqA44 d w k0 k1 k2 k3 k4 k5 k6 k7 k8 k9 k10 k11 k12 k13 k14 k15 l0 l1 l2 l3 l4 l5 l6 l7 l8 l9 l10 l11 l12 l13 l14 l15)
attribute [local go_sem high] eqA46
def resamp_Sampler_Same.T1 : Bool × List (List Nat × List Nat) := (true, [([], []), ([0], [0]), ([1], [1]), ([], []), ([3], [3]), ([4], [4]), ([2, 5], [2, 5]), ([6, 0, 1, 2, 3, 4, 5, 6], [6])])
def resamp_Sampler_Same.B1 : List Nat := [0, 1, 3, 0, 8, 24, 63, 127]
theorem resamp_Sampler_Same.tab1 : rtab .any (opsOf Try.f18 1) = resamp_Sampler_Same.T1 := by kernel_rfl
theorem resamp_Sampler_Same.bits1 : waitsOk resamp_Sampler_Same.T1.2 resamp_Sampler_Same.B1 = true := by kernel_rfl
set_option maxHeartbeats 8000000 in
set_option maxRecDepth 100000 in
theorem resamp_Sampler_Same.walk (a0 a1 : Int) (g h : Nat) (ks ls : List Int) (w : World) (hS : SAt w g a0 a1 ks) (hT : SAt w h a0 a1 ls) :
  Calls Try.prog 18 #[.pointer (some ⟨g, 0, none⟩), .pointer (some ⟨h, 0, none⟩)] w fun e w' => e = .returned (.bool (decide (ks = ls))) ∧ Below w.heap.size w w' := by
 obtain ⟨hl, hg⟩ := hS
 obtain ⟨hl2, hg2⟩ := hT
 obtain ⟨k0, k1, k2, k3, k4, k5, k6, k7, k8, k9, k10, k11, k12, k13, k14, k15, rfl⟩ := list16 hl
 obtain ⟨l0, l1, l2, l3, l4, l5, l6, l7, l8, l9, l10, l11, l12, l13, l14, l15, rfl⟩ := list16 hl2
 have GH := Aside0.mk (show w.heap[g]? = some (.cells #[.int .i64 a0, .int .i64 a1, .int .i64 k0, .int .i64 k1, .int .i64 k2, .int .i64 k3, .int .i64 k4, .int .i64 k5, .int .i64 k6, .int .i64 k7, .int .i64 k8, .int .i64 k9, .int .i64 k10, .int .i64 k11, .int .i64 k12, .int .i64 k13, .int .i64 k14, .int .i64 k15] 46 (0, 0)) from hg)
 have GI := Aside0.mk (show w.heap[h]? = some (.cells #[.int .i64 a0, .int .i64 a1, .int .i64 l0, .int .i64 l1, .int .i64 l2, .int .i64 l3, .int .i64 l4, .int .i64 l5, .int .i64 l6, .int .i64 l7, .int .i64 l8, .int .i64 l9, .int .i64 l10, .int .i64 l11, .int .i64 l12, .int .i64 l13, .int .i64 l14, .int .i64 l15] 46 (0, 0)) from hg2)
 have HB := Aside0.mk (below_drew1 (Below.refl w.heap.size w))
 have hd : decide ([k0, k1, k2, k3, k4, k5, k6, k7, k8, k9, k10, k11, k12, k13, k14, k15] = [l0, l1, l2, l3, l4, l5, l6, l7, l8, l9, l10, l11, l12, l13, l14, l15]) = (k0 == l0 && (k1 == l1 && (k2 == l2 && (k3 == l3 && (k4 == l4 && (k5 == l5 && (k6 == l6 && (k7 == l7 && (k8 == l8 && (k9 == l9 && (k10 == l10 && (k11 == l11 && (k12 == l12 && (k13 == l13 && (k14 == l14 && (k15 == l15)))))))))))))))) := by
  by_cases he : [k0, k1, k2, k3, k4, k5, k6, k7, k8, k9, k10, k11, k12, k13, k14, k15] = [l0, l1, l2, l3, l4, l5, l6, l7, l8, l9, l10, l11, l12, l13, l14, l15]
  · rw [decide_eq_true he]
    simp only [List.cons.injEq, and_true] at he
    obtain ⟨h0, h1, h2, h3, h4, h5, h6, h7, h8, h9, h10, h11, h12, h13, h14, h15⟩ := he
    subst h0 h1 h2 h3 h4 h5 h6 h7 h8 h9 h10 h11 h12 h13 h14 h15
    simp
  · rw [decide_eq_false he]
    symm
    rw [Bool.eq_false_iff]
    intro hh
    simp only [Bool.and_eq_true, beq_iff_eq] at hh
    obtain ⟨h0, h1, h2, h3, h4, h5, h6, h7, h8, h9, h10, h11, h12, h13, h14, h15⟩ := hh
    subst h0 h1 h2 h3 h4 h5 h6 h7 h8 h9 h10 h11 h12 h13 h14 h15
    exact he rfl
 rw [hd]
 clear hg hg2 hl hl2 hd
 go_enter Try.func18, Try.ntmps18
 try go_wp2
 refine start_ (n := 8) (S := fun w' => w'.heap[g]? = some (.cells #[.int .i64 a0, .int .i64 a1, .int .i64 k0, .int .i64 k1, .int .i64 k2, .int .i64 k3, .int .i64 k4, .int .i64 k5, .int .i64 k6, .int .i64 k7, .int .i64 k8, .int .i64 k9, .int .i64 k10, .int .i64 k11, .int .i64 k12, .int .i64 k13, .int .i64 k14, .int .i64 k15] 46 (0, 0)) ∧ w'.heap[h]? = some (.cells #[.int .i64 a0, .int .i64 a1, .int .i64 l0, .int .i64 l1, .int .i64 l2, .int .i64 l3, .int .i64 l4, .int .i64 l5, .int .i64 l6, .int .i64 l7, .int .i64 l8, .int .i64 l9, .int .i64 l10, .int .i64 l11, .int .i64 l12, .int .i64 l13, .int .i64 l14, .int .i64 l15] 46 (0, 0))) (ds := []) #[false, false, false, false, false, false, false, false] (by kernel_rfl) rfl rfl ⟨GH.out, GI.out⟩ (fun hHeld => ?_); refine with_tabW resamp_Sampler_Same.tab1 resamp_Sampler_Same.bits1 (fun HT_ HW_ => ?_)
 generalize w.drew = w8 at HB hHeld ⊢
 refine pure_ (i := 0) (N := some 5) (v := ?_) (a' := ?_) #[true, false, false, false, false, false, false, false] rfl rfl (any_of HT_.out (by kernel_rfl)) (fun _ _ _ h => h) (Or.inl ⟨by rfl, ?_⟩) ?_ ?_
 rotate_left
 ·
  intro w'
  go_simp
  with_reducible rfl
 rotate_left
 ·
  simp only [Act.put, List.setIfInBounds_toArray, List.set_cons_zero, List.set_cons_succ, i64_w, i32_w]
  rfl
 refine pure_ (i := 1) (N := some 6) (v := ?_) (a' := ?_) #[true, true, false, false, false, false, false, false] rfl rfl (any_of HT_.out (by kernel_rfl)) (fun _ _ _ h => h) (Or.inl ⟨by rfl, ?_⟩) ?_ ?_
 rotate_left
 ·
  intro w'
  go_simp
  with_reducible rfl
 rotate_left
 ·
  simp only [Act.put, List.setIfInBounds_toArray, List.set_cons_zero, List.set_cons_succ, i64_w, i32_w]
  rfl
 refine take_ (i := 2) (N := some 7) (v := ?_) (a' := ?_) #[true, true, true, false, false, false, false, false] rfl rfl (take_ofW HT_.out HW_.out (by kernel_rfl)) (fun _ _ _ h => h) (Or.inl ⟨by rfl, ?_⟩) hHeld ?_ ?_
 rotate_left
 ·
  rintro w' ⟨s0, s1⟩
  refine run_load_agg (x := .tmp 6) ?_ ?_ s0 ?_
  · rfl
  · rfl
  · kernel_rfl
 rotate_left
 ·
  simp only [Act.put, List.setIfInBounds_toArray, List.set_cons_zero, List.set_cons_succ, i64_w, i32_w]
  rfl
 refine pure_ (i := 3) (N := some 8) (v := ?_) (a' := ?_) #[true, true, true, true, false, false, false, false] rfl rfl (any_of HT_.out (by kernel_rfl)) (fun _ _ _ h => h) (Or.inl ⟨by rfl, ?_⟩) ?_ ?_
 rotate_left
 ·
  intro w'
  go_simp
  with_reducible rfl
 rotate_left
 ·
  simp only [Act.put, List.setIfInBounds_toArray, List.set_cons_zero, List.set_cons_succ, i64_w, i32_w]
  rfl
 refine pure_ (i := 4) (N := some 9) (v := ?_) (a' := ?_) #[true, true, true, true, true, false, false, false] rfl rfl (any_of HT_.out (by kernel_rfl)) (fun _ _ _ h => h) (Or.inl ⟨by rfl, ?_⟩) ?_ ?_
 rotate_left
 ·
  intro w'
  go_simp
  with_reducible rfl
 rotate_left
 ·
  simp only [Act.put, List.setIfInBounds_toArray, List.set_cons_zero, List.set_cons_succ, i64_w, i32_w]
  rfl
 refine take_ (i := 5) (N := some 10) (v := ?_) (a' := ?_) #[true, true, true, true, true, true, false, false] rfl rfl (take_ofW HT_.out HW_.out (by kernel_rfl)) (fun _ _ _ h => h) (Or.inl ⟨by rfl, ?_⟩) hHeld ?_ ?_
 rotate_left
 ·
  rintro w' ⟨s0, s1⟩
  refine run_load_agg (x := .tmp 9) ?_ ?_ s1 ?_
  · rfl
  · rfl
  · kernel_rfl
 rotate_left
 ·
  simp only [Act.put, List.setIfInBounds_toArray, List.set_cons_zero, List.set_cons_succ, i64_w, i32_w]
  rfl
 refine pure_ (i := 6) (N := some 11) (v := ?_) (a' := ?_) #[true, true, true, true, true, true, true, false] rfl rfl (any_of HT_.out (by kernel_rfl)) (fun _ _ _ h => h) (Or.inl ⟨by rfl, ?_⟩) ?_ ?_
 rotate_left
 ·
  intro w'
  have he := fun d => eqA46 d w' a0 a1 a0 a1 k0 k1 k2 k3 k4 k5 k6 k7 k8 k9 k10 k11 k12 k13 k14 k15 l0 l1 l2 l3 l4 l5 l6 l7 l8 l9 l10 l11 l12 l13 l14 l15
  go_simp
  with_reducible rfl
 rotate_left
 ·
  simp only [Act.put, List.setIfInBounds_toArray, List.set_cons_zero, List.set_cons_succ, i64_w, i32_w]
  rfl
 refine pure_ (i := 7) (N := some 4) (v := ?_) (a' := ?_) #[true, true, true, true, true, true, true, true] rfl rfl (any_of HT_.out (by kernel_rfl)) (fun _ _ _ h => h) (Or.inl ⟨by rfl, ?_⟩) ?_ ?_
 rotate_left
 ·
  intro w'
  go_simp
  with_reducible rfl
 rotate_left
 ·
  simp only [Act.put, List.setIfInBounds_toArray, List.set_cons_zero, List.set_cons_succ, i64_w, i32_w]
  rfl
 refine done_ (done_of HT_.out (by kernel_rfl)) ?_
 try go_wp2
 go_ret
 exact ⟨rfl, HB.out⟩
end Go.Proofs.Ytocnpnpedmapbaa.MA
