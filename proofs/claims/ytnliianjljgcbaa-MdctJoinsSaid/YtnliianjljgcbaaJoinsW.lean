/- The law MdctJoins walked: two joiners beside each other. No condition. -/
import Derived.Laws.Cover3
import Derived.Laws.Tables
import Derived.Test.YtnliianjljgcbaaJoinP
namespace Go.Proofs.Ytnliianjljgcbaa.MA
open Go.RowKit Go.Proofs.YtnliianjljgcbaaW.PrintWords Go.Proofs.YtnliianjljgcbaaW.PrintLast Go.Proofs.YtnliianjljgcbaaW.PrintMore Go.Proofs.Ytnliianjljgcbaa.Core Go.Proofs.Ytnliianjljgcbaa.Base Go.Proofs.Ytnliianjljgcbaa.Shape Go.Proofs.Ytnliianjljgcbaa.Dot Go.Proofs.Ytnliianjljgcbaa.Inv Go.Proofs.Ytnliianjljgcbaa.Same Go.Proofs.Ytnliianjljgcbaa.JoinP
attribute [local go_sem] max2_int min2_int max_two min_two max_three min_three max_four min_four
set_option linter.unusedVariables false
set_option linter.unusedSimpArgs false
/-- A joiner whose row does not lie in block h. -/
def JAtH (w : World) (base g h : Nat) (n l : Int) (ys : List Int) : Prop :=
 base ≤ g ∧ g ≠ h ∧ ∃ A c, w.heap[g]? = some (.cells #[.int .i64 n, .int .i64 l, .slice A ys.length c] 52 (0, 0)) ∧ Kd.C (Kd.int .i64) w A ys.length ys ∧ ys.length ≤ c ∧ ∀ ad, A = some ad → base ≤ ad.block ∧ ad.block ≠ g ∧ ad.block ≠ h
theorem JAtH.at {w : World} {base g h : Nat} {n l : Int} {ys : List Int} (H : JAtH w base g h n l ys) : JAt w base g n l ys := by
 obtain ⟨h1, _, A, c, hg, hC, hc, hA⟩ := H
 exact ⟨h1, A, c, hg, hC, hc, fun ad had => ⟨(hA ad had).1, (hA ad had).2.1⟩⟩
theorem JAt.away {w : World} {base g h : Nat} {n l : Int} {ys : List Int} (H : JAt w base g n l ys) (hgh : g ≠ h) (hn : 0 < ys.length) (hh : ∀ k, k < w.heap.size → k ≠ h) : JAtH w base g h n l ys := by
 obtain ⟨h1, A, c, hg, hC, hc, hA⟩ := H
 refine ⟨h1, hgh, A, c, hg, hC, hc, fun ad had => ⟨(hA ad had).1, (hA ad had).2, hh _ ?_⟩⟩
 obtain ⟨ad', e, hc'⟩ := hC.2.2 hn
 have e2 : ad = ad' := by rw [had] at e; exact Option.some.inj e
 subst e2
 obtain ⟨c1, hs, _, hcell⟩ := hc' 0 _ (List.getElem?_eq_getElem hn)
 have h0 : 0 < c1.length := by rw [hs]; decide
 have h1 := hcell 0 c1[0] (List.getElem?_eq_getElem h0)
 have h2 := World.block_lt_of_cell? w _ h1
 have e4 : (ad.add (0 * (Kd.int .i64).sz + 0)).block = ad.block := by unfold Addr.add; split <;> rfl
 rwa [e4] at h2
theorem JAtH.keep {w W : World} {base g h : Nat} {n l : Int} {ys : List Int} (H : JAtH w base g h n l ys) (hn : 0 < ys.length) (hk : ∀ i, i < w.heap.size → i ≠ h → W.heap[i]? = w.heap[i]?) : JAtH W base g h n l ys := by
 have hl := H.at.lt
 obtain ⟨hb, hgh, A, c, hg, hC, hc, hA⟩ := H
 refine ⟨hb, hgh, A, c, (hk g hl hgh).trans hg, ?_, hc, hA⟩
 refine C_block hC (fun ad had => hk ad.block ?_ (hA ad had).2.2)
 obtain ⟨ad', e, hc'⟩ := hC.2.2 hn
 have e2 : ad = ad' := by rw [had] at e; exact Option.some.inj e
 subst e2
 obtain ⟨c1, hs, _, hcell⟩ := hc' 0 _ (List.getElem?_eq_getElem hn)
 have h0 : 0 < c1.length := by rw [hs]; decide
 have h1 := hcell 0 c1[0] (List.getElem?_eq_getElem h0)
 have h2 := World.block_lt_of_cell? w _ h1
 have e4 : (ad.add (0 * (Kd.int .i64).sz + 0)).block = ad.block := by unfold Addr.add; split <;> rfl
 rwa [e4] at h2
theorem JAtH.below {w W : World} {base g h : Nat} {n l : Int} {ys : List Int} (H : JAtH w base g h n l ys) (hn : 0 < ys.length) (hk : Below w.heap.size w W) : JAtH W base g h n l ys := H.keep hn fun i hi _ => hk.block i hi
/-- A block that may not be joined changes nothing. -/
theorem mdct_Joiner_Next.not (a1 : Int) (base g : Nat) (n : Nat) (l2 : List Int) (A3 : Option Addr) (c3 : Nat) (l3 : List Int) (w : World) (hJ : JAt w base g n a1 l2) (hr3 : Kd.C (Kd.int .i64) w A3 l3.length l3) (hc3 : l3.length ≤ c3) (hl : l3.length ≠ n) :
 Calls Try.prog 14 #[.pointer (some ⟨g, 0, none⟩), .slice A3 l3.length c3] w fun e w' => ∃ v0_ : Value, e = .returned (.tuple #[v0_, .int .i64 1]) ∧ Kd.R (Kd.int .i64) 2 w' w.heap.size (fun _ => True) v0_ [] ∧ Below w.heap.size w w' := by
 obtain ⟨hbg, A2, c2, hg, hr2, hc2, hA⟩ := hJ
 refine (mdct_Joiner_Next.walk 0 n a1 g A2 c2 l2 A3 c3 l3 [] 1 w hg hr2 hc2 hr3 hc3 (next_bad 0 n a1 l2 l3 hl)).mono ?_
 rintro e w' ⟨v0, he, hR, hP1, _⟩
 exact ⟨v0, he, hR, hP1 (fun h => hl (by omega))⟩
/-- A block that is joined: the row that is kept then is new. -/
theorem mdct_Joiner_Next.joinsH (k : Nat) (a0 a1 : Int) (base g h : Nat) (l2 : List Int) (A3 : Option Addr) (c3 : Nat) (l3 : List Int) (r1 y : List Int) (w : World) (hJ : JAtH w base g h a0 a1 l2) (hh : h < w.heap.size) (hr3 : Kd.C (Kd.int .i64) w A3 l3.length l3) (hc3 : l3.length ≤ c3) (hl : (l3.length : Int) = a0) (hI : mdct_Inverse.f k l3 a1 = some (y, 0)) (hf : mdct_Joiner_Next.f k a0 a1 l2 l3 = some (r1, 0)) :
 Calls Try.prog 14 #[.pointer (some ⟨g, 0, none⟩), .slice A3 l3.length c3] w fun e w' => ∃ v0_ : Value, e = .returned (.tuple #[v0_, .int .i64 0]) ∧ Kd.R (Kd.int .i64) 2 w' w.heap.size (fun _ => True) v0_ r1 ∧ JAtH w' base g h a0 a1 (y.drop a0.toNat) ∧ Keeps w w' g := by
 obtain ⟨hbg, hgh, A2, c2, hg, hr2, hc2, hA⟩ := hJ
 refine (mdct_Joiner_Next.walk k a0 a1 g A2 c2 l2 A3 c3 l3 r1 0 w hg hr2 hc2 hr3 hc3 hf).mono ?_
 rintro e w' ⟨v0, he, hR, _, hP⟩
 obtain ⟨hk, A, c, hg', hC, hc, hA'⟩ := hP y hl hI
 have hlt := blk_lt hg
 exact ⟨v0, he, hR, ⟨hbg, hgh, A, c, hg', hC, hc, fun ad had => by have := hA' ad had; exact ⟨by omega, by omega, by omega⟩⟩, hk⟩
/-- The rows of a list of blocks. -/
def Blocks (w : World) (a2 : Option Addr) (len2 : Nat) : Prop := ∀ r : Nat, r < len2 → ∃ (x : Addr) (A : Option Addr) (b : List Int) (c : Nat), a2 = some x ∧ w.cell? (x.add ((r : Int)).toNat) = some (.slice A b.length c) ∧ Kd.C (Kd.int .i64) w A b.length b ∧ b.length ≤ c
theorem C_below {w W : World} {A : Option Addr} {n : Nat} {xs : List Int} (h : Kd.C (Kd.int .i64) w A n xs) (hk : Below w.heap.size w W) : Kd.C (Kd.int .i64) W A n xs := by
 by_cases hn : 0 < n
 · refine C_block h (fun ad had => hk.block _ ?_)
   obtain ⟨ad', e, hc'⟩ := h.2.2 hn
   have e2 : ad = ad' := by rw [had] at e; exact Option.some.inj e
   subst e2
   have hn' : 0 < xs.length := by have := h.1; omega
   obtain ⟨c1, hs, _, hcell⟩ := hc' 0 _ (List.getElem?_eq_getElem hn')
   have h0 : 0 < c1.length := by rw [hs]; decide
   have h1 := hcell 0 c1[0] (List.getElem?_eq_getElem h0)
   have h2 := World.block_lt_of_cell? w _ h1
   have e4 : (ad.add (0 * (Kd.int .i64).sz + 0)).block = ad.block := by unfold Addr.add; split <;> rfl
   rwa [e4] at h2
 · exact ⟨h.1, h.2.1, fun h0 => absurd h0 hn⟩
set_option maxHeartbeats 16000000 in
set_option maxRecDepth 100000 in
theorem joins_walk (n l : Int) (a2 : Option Addr) (len2 cap2 : Nat) (w : World) (hl : -9223372036854775808 ≤ l) (hrows : Blocks w a2 len2) :
  Calls Try.prog 5 #[.int .i64 n, .int .i64 l, .slice a2 len2 cap2] w fun e w' => e = .returned (.bool true) ∧ Below w.heap.size w w' := by
 have HRW := Aside0.mk hrows; clear hrows
 by_cases c1 : n > 160
 · have c1b0 : decide (160 < n) = true := decide_eq_true c1
   clear c1
   go_enter Try.func5, Try.ntmps5
   go_wp2_with (first | (go_at_call 9; (with_reducible refine (madrigallaw15_awake.calls true _ rfl).mono ?_); rintro e w0 ⟨rfl, hb⟩; have HB0 := Aside0.mk hb; clear hb))
   go_ret
   exact ⟨rfl, by repeat (with_reducible first | exact HB0.out | apply below_alloc | apply pw_below_drewN | apply below_drew1)⟩
 have c1b0 : decide (160 < n) = false := decide_eq_false c1
 by_cases c2 : len2 > 6
 · have c2b0 : decide ((6 : Int) < (len2 : Int)) = true := decide_eq_true (by omega)
   have c2b1 : decide (6 < len2) = true := decide_eq_true c2
   clear c2
   go_enter Try.func5, Try.ntmps5
   go_wp2_with (first | (go_at_call 9; (with_reducible refine (madrigallaw15_awake.calls true _ rfl).mono ?_); rintro e w0 ⟨rfl, hb⟩; have HB0 := Aside0.mk hb; clear hb))
   go_ret
   exact ⟨rfl, by repeat (with_reducible first | exact HB0.out | apply below_alloc | apply pw_below_drewN | apply below_drew1)⟩
 have c2b0 : decide ((6 : Int) < (len2 : Int)) = false := decide_eq_false (by omega)
 have c2b1 : decide (6 < len2) = false := decide_eq_false c2
 have L2 := Aside0.mk c2; clear c2
 by_cases hg : goodW n l = true; rotate_left
 · have hf : mdct_Good.f n l = some false := (good_f n l hl).trans (by simpa using hg)
   have HG := Aside0.mk hf; have HGr := Aside0.mk (show madrigalref10_GoodBlock.f n l = some false from hf); clear hf hg c1
   go_enter Try.func5, Try.ntmps5
   go_wp2_with (first
    | (go_at_call 9; (with_reducible refine (madrigallaw15_awake.calls true _ rfl).mono ?_); rintro e w0 ⟨rfl, hb⟩; have HB0 := Aside0.mk hb; clear hb)
    | (go_at_call 15; (with_reducible refine (madrigalref10_GoodBlock.calls n l false _ HGr.out).mono ?_); rintro e w' ⟨rfl, ⟨nd, rfl⟩⟩)
    | ((with_reducible refine gate_callee (f := 13) rfl ?_); refine goesL_ (some 28) rfl rfl Try.func13 (by kernel_rfl) rfl #[.int .i64 n, .int .i64 l] rfl (by (try simp only [List.map_toArray, List.map_cons, List.map_nil]); first | done | rfl) ?_; (with_reducible refine (mdct_New.bad n l _ HG.out).mono ?_); rintro e w5 ⟨rfl, hb⟩; refine ⟨_, rfl, ?_⟩; have HB5 := Aside0.mk (below_step (by repeat (with_reducible first | exact HB0.out | apply below_alloc | apply pw_below_drewN | apply below_drew1)) hb); clear hb))
   go_ret
   exact ⟨rfl, by repeat (with_reducible first | exact HB5.out | apply below_alloc | apply pw_below_drewN | apply below_drew1)⟩

 obtain ⟨N, M, Z, rfl, rfl, hz, hN, hM, h4⟩ := good_nat hg
 have hf : mdct_Good.f (N : Int) (M : Int) = some true := (good_f _ _ hl).trans (by rw [hg])
 have HG := Aside0.mk hf; have HGr := Aside0.mk (show madrigalref10_GoodBlock.f (N : Int) (M : Int) = some true from hf)
 have HGW := Aside0.mk hg
 have HN := Aside0.mk (show 2 * Z + M = N ∧ N ≤ 160 ∧ 2 ≤ M ∧ 4 ≤ N from ⟨hz, by omega, hM, h4⟩)
 clear hf hg c1 hz hN hM h4
 go_enter Try.func5, Try.ntmps5
 go_wp2_with (first
  | (go_at_call 9; (with_reducible refine (madrigallaw15_awake.calls true _ rfl).mono ?_); rintro e w0 ⟨rfl, hb⟩; have HB0 := Aside0.mk hb; clear hb)
  | ((with_reducible refine gate_callee (f := 13) rfl ?_); refine goesL_ (some 28) rfl rfl Try.func13 (by kernel_rfl) rfl #[.int .i64 (N : Int), .int .i64 (M : Int)] rfl (by (try simp only [List.map_toArray, List.map_cons, List.map_nil]); first | done | rfl) ?_; (with_reducible refine (mdct_New.good N M _ (by have := HN.out; omega) HG.out).mono ?_); rintro e w5 ⟨g, rfl, hJ, hb⟩; refine ⟨_, rfl, ?_⟩; have JN := Aside0.mk hJ; have HB5 := Aside0.mk (below_step (by repeat (with_reducible first | exact HB0.out | apply below_alloc | apply pw_below_drewN | apply below_drew1)) hb); clear hJ hb)
  | (go_at_call 15; (with_reducible refine (madrigalref10_GoodBlock.calls (N : Int) (M : Int) true _ HGr.out).mono ?_); rintro e w' ⟨rfl, ⟨nd, rfl⟩⟩)
  | ((with_reducible refine gate_callee (f := 21) rfl ?_); refine goesL_ (some 49) rfl rfl Try.func21 (by kernel_rfl) rfl #[.int .i64 (N : Int), .int .i64 (M : Int)] rfl (by (try simp only [List.map_toArray, List.map_cons, List.map_nil]); first | done | rfl) ?_; (with_reducible refine (madrigalref10_NewJoiner.walk N M _ (by have := HN.out; omega)).mono ?_); rintro e w6 ⟨h, rfl, hW, hb⟩; refine ⟨_, rfl, ?_⟩; have WN := Aside0.mk hW; have HB6 := Aside0.mk (below_step (by repeat (with_reducible first | exact HB5.out | apply below_alloc | apply pw_below_drewN | apply below_drew1)) hb); have HBd := Aside0.mk hb; clear hW hb))

 have hgb : g < (w5.drewN nd).heap.size := JN.out.lt
 have hlen : 0 < (List.replicate ((N : Int)).toNat (0 : Int)).length := by simp; have := HN.out; omega
 have hJH : JAtH w6 w0.heap.size g h N M (List.replicate ((N : Int)).toNat 0) :=
  ((JN.out.keep (W := w5.drewN nd) (fun _ _ _ => rfl)).away (by have := WN.out.1; omega) hlen (fun k hk => by have := WN.out.1; omega)).below hlen HBd.out
 have GG := Aside0.mk (show w.heap.size ≤ g ∧ g < (w5.drewN nd).heap.size from ⟨Nat.le_trans HB0.out.size hJH.1, hgb⟩)
 have HB := HB6
 generalize (w5.drewN nd).heap.size = b1 at WN GG
 generalize w0.heap.size = b0 at hJH
 have JN2 := Aside0.mk hJH
 have hlz : (List.replicate ((N : Int)).toNat (0 : Int)).length = N := by simp
 generalize hys0 : List.replicate ((N : Int)).toNat (0 : Int) = ys0 at JN2 WN hlz
 have HLZ := Aside0.mk hlz
 clear hys0 JN HB5 HBd HB6 HB0 hgb hlen hJH hlz
 go_loopg [10] (len2 + 1) (fun kq v10 w' => ∃ (x10 : Int) (i : Nat) (ys : List Int), v10 = .int .i64 x10 ∧ Aside0 (x10 = (i : Int)) ∧ Aside0 (i + kq = len2 + 1) ∧ Aside0 (i ≤ len2) ∧ Aside0 (ys.length = N) ∧ Aside0 (JAtH w' b0 g h N M ys) ∧ Aside0 (WAt w' b1 h M ys) ∧ Aside0 (Below w.heap.size w w'))
 case atStart => exact ⟨0, 0, ys0, rfl, ⟨rfl⟩, ⟨by omega⟩, ⟨by omega⟩, HLZ, JN2, WN, HB⟩
 case round =>
  clear JN2 WN HB HLZ
  obtain ⟨x10, i, ys, rfl, HX, HK, HI, HL, HJ, HW, HB⟩ := hrel
  cases gk with
  | zero => exact absurd HK.out (by have := HI.out; omega)
  | succ k1 =>
   by_cases c5 : x10 < (len2 : Int)
   · have c5b0 : decide (x10 < (len2 : Int)) = true := decide_eq_true c5
     have hi : i < len2 := by have := HX.out; omega
     have c6 : 0 ≤ x10 := by have := HX.out; omega
     have c6b0 : decide (0 ≤ x10) = true := decide_eq_true c6
     obtain ⟨x, A, b, c, ea, hx, hC, hc⟩ := HRW.out i hi
     rw [← HX.out] at hx
     subst ea
     have HX0 := Aside0.mk hx
     have HCb := Aside0.mk hC; have HLb := Aside0.mk hc
     have p5 := eq_true c5; have p6 := eq_true c6
     have hxr := (HB.out.cell (World.block_lt_of_cell? w _ hx)).trans hx
     have HII := Aside0.mk hi
     clear hx hC hc c5 c6 hi
     have hlys : 0 < ys.length := by have := HL.out; have := HN.out; omega
     have HP := Aside0.mk hlys; clear hlys
     by_cases cb : b.length = N
     · have cbb0 : ((b.length : Int) != (N : Int)) = false := by simp [cb]
       have CB := Aside0.mk cb; clear cb
       have hNN := HN.out
       obtain ⟨ka, hIa, hfa⟩ := Ev.two (inv_ev N (by omega) (by omega) M Z hNN.1 hNN.2.2.1 HGW.out b CB.out) (next_ev N M Z (by omega) (by omega) hNN.1 hNN.2.2.1 HGW.out ys b HL.out CB.out)
       obtain ⟨kb, hIb, hfb⟩ := Ev.two (rinv_ev N (by omega) (by omega) M Z hNN.1 hNN.2.2.1 b CB.out) (rnext_ev N M Z (by omega) (by omega) hNN.1 hNN.2.2.1 ys b HL.out CB.out)
       have hyl : (inverseW N M Z b).length = 2 * N := inverseW_length N M Z b
       have hrl : (joinW N ys (inverseW N M Z b)).length = N := joinW_length _ _ _
       generalize inverseW N M Z b = y at hIa hfa hIb hfb hyl hrl
       generalize joinW N ys y = r at hfa hfb hrl
       obtain ⟨ks, hs⟩ := (same_ev r (by omega)).rounds
       have HIa := Aside0.mk hIa; have HFa := Aside0.mk hfa; have HIb := Aside0.mk hIb; have HFb := Aside0.mk hfb; have HYl := Aside0.mk hyl; have HSs := Aside0.mk hs
       clear hIa hfa hIb hfb hyl hrl hs hNN
       go_wp2_with (first
        | ((with_reducible refine gate_callee (f := 22) rfl ?_); refine goesL_ (some 57) rfl rfl Try.func22 (by kernel_rfl) rfl #[.pointer (some ⟨g, 0, none⟩)] rfl (by (try simp only [List.map_toArray, List.map_cons, List.map_nil]); first | done | rfl) ?_; (refine (mdct_Joiner_Copy.walk N M b0 g ys _ HP.out (by have := HL.out; have := HN.out; omega) HJ.out.at).mono ?_); rintro e w7 ⟨g', rfl, hJ, hb⟩; refine ⟨_, rfl, ?_⟩; have J7 := Aside0.mk (HJ.out.below HP.out hb); have W7 := Aside0.mk (HW.out.below hb); have HB7 := Aside0.mk (below_step HB.out hb); have hx7 := (HB7.out.cell (World.block_lt_of_cell? w _ HX0.out)).trans HX0.out; clear hJ hb)
        | ((with_reducible refine gate_callee (f := 14) rfl ?_); refine goesL_ (some 64) rfl rfl Try.func14 (by kernel_rfl) rfl #[.pointer (some ⟨g, 0, none⟩), .slice A b.length c] rfl (by (try simp only [List.map_toArray, List.map_cons, List.map_nil]); first | done | rfl) ?_; (refine (mdct_Joiner_Next.joinsH ka N M b0 g h ys A c b r y _ J7.out W7.out.lt (C_below HCb.out HB7.out) HLb.out (by have := CB.out; omega) HIa.out HFa.out).mono ?_); rintro e w8 ⟨v8, rfl, ho, hJ, hk⟩; refine ⟨_, rfl, ?_⟩; obtain ⟨A8, k8, e8⟩ := Kd.R_slice ho; subst e8; have J8 := Aside0.mk hJ; have F8 := Aside0.mk ho; have LW7 := Aside0.mk W7.out.lt; have W8 := Aside0.mk (W7.out.keep (fun i hi hb => hk.1.2 i hi (by have := GG.out; omega) (by simp))); have HB8 := Aside0.mk (below_keep HB7.out hk GG.out.1); have hx8 := (HB8.out.cell (World.block_lt_of_cell? w _ HX0.out)).trans HX0.out; clear ho hJ hk hx7)
        | (go_at_call 24; (refine (madrigalref10_Joiner_Next.walk kb M b1 h ys A c b r y _ W8.out (C_below HCb.out HB8.out) HLb.out HIb.out HFb.out).mono ?_); rintro e w9 ⟨v9, rfl, ho, hW, hk⟩; obtain ⟨A9, k9, e9⟩ := Kd.R_slice ho; subst e9; have F9 := Aside0.mk ho; have W9 := Aside0.mk hW; have J9 := Aside0.mk (J8.out.keep (by rw [List.length_drop, HYl.out]; have := HN.out; omega) (fun i hi hne => hk.1.2 i hi hne (by simp))); have F8b := Aside0.mk (R_keepbut F8.out hk.1 (fun k_ e_ => by have h1 := Kd.R_base F8.out k_ e_; have h2 := LW7.out; omega)); have HB9 := Aside0.mk (below_keep HB8.out hk (by have h1 := W8.out.1; have h2 := GG.out; omega)); clear ho hW hk)
        | (go_at_call 17; (refine (madrigallaw15_same.calls ks _ _ r _ _ r true _ ?side1 ?side2 ?side3 ?side4 HSs.out).mono ?_); (case side1 => exact (Kd.R_reads' F8b.out).2.2); (case side2 => exact (Kd.R_reads' F8b.out).2.1); (case side3 => exact (Kd.R_reads' F9.out).2.2); (case side4 => exact (Kd.R_reads' F9.out).2.1); rintro e w' ⟨rfl, ⟨nd, rfl⟩⟩))
       have hd1 : y.drop ((N : Int)).toNat = y.drop N := by rw [Int.toNat_natCast]
       have hd2 : y.drop ys.length = y.drop N := by rw [HL.out]
       rw [hd1] at J9
       rw [hd2] at W9
       have hdl : (y.drop N).length = N := by rw [List.length_drop, HYl.out]; omega
       go_roundg k1
       case measure => have := HK.out; omega
       case rel => exact ⟨_, i + 1, y.drop N, rfl, ⟨by rw [HX.out]; exact wsucc (by have := HI.out; have := L2.out; omega)⟩, ⟨by have := HK.out; omega⟩, ⟨by have := HII.out; omega⟩, ⟨hdl⟩, ⟨J9.out.keep (by rw [hdl]; have := HN.out; omega) (fun _ _ _ => rfl)⟩, ⟨W9.out.keep (fun _ _ _ => rfl)⟩, ⟨by repeat (with_reducible first | exact HB9.out | apply below_alloc | apply pw_below_drewN | apply below_drew1)⟩⟩
     · have cbb0 : ((b.length : Int) != (N : Int)) = true := by simpa using (show ¬ ((b.length : Int) = N) by omega)
       have CB := Aside0.mk cb; clear cb
       go_wp2_with (first
        | ((with_reducible refine gate_callee (f := 22) rfl ?_); refine goesL_ (some 57) rfl rfl Try.func22 (by kernel_rfl) rfl #[.pointer (some ⟨g, 0, none⟩)] rfl (by (try simp only [List.map_toArray, List.map_cons, List.map_nil]); first | done | rfl) ?_; (refine (mdct_Joiner_Copy.walk N M b0 g ys _ HP.out (by have := HL.out; have := HN.out; omega) HJ.out.at).mono ?_); rintro e w7 ⟨g', rfl, hJ, hb⟩; refine ⟨_, rfl, ?_⟩; have CJ := Aside0.mk hJ; have J7 := Aside0.mk (HJ.out.below HP.out hb); have W7 := Aside0.mk (HW.out.below hb); have HB7 := Aside0.mk (below_step HB.out hb); have hx7 := (HB7.out.cell (World.block_lt_of_cell? w _ HX0.out)).trans HX0.out; clear hJ hb)
        | ((with_reducible refine gate_callee (f := 14) rfl ?_); refine goesL_ (some 64) rfl rfl Try.func14 (by kernel_rfl) rfl #[.pointer (some ⟨g, 0, none⟩), .slice A b.length c] rfl (by (try simp only [List.map_toArray, List.map_cons, List.map_nil]); first | done | rfl) ?_; (refine (mdct_Joiner_Next.not M b0 g N ys A c b _ J7.out.at (C_below HCb.out HB7.out) HLb.out CB.out).mono ?_); rintro e w8 ⟨v8, rfl, ho, hb⟩; refine ⟨_, rfl, ?_⟩; obtain ⟨A8, k8, e8⟩ := Kd.R_slice ho; subst e8; have CJ8 := Aside0.mk (CJ.out.below hb); have J8 := Aside0.mk (J7.out.below HP.out hb); have W8 := Aside0.mk (W7.out.below hb); have HB8 := Aside0.mk (below_step HB7.out hb); have hx8 := (HB8.out.cell (World.block_lt_of_cell? w _ HX0.out)).trans HX0.out; clear ho hb hx7)
        | (go_at_call 23; (obtain ⟨ks, hs⟩ := (sameJ_ev (N : Int) (M : Int) ys (by have := HL.out; have := HN.out; omega)).rounds); (refine (mdct_Joiner_Same.walk ks N M g' g _ _ ys ys true _ CJ8.out J8.out.at hs).mono ?_); rintro e w9 ⟨rfl, hb⟩; have J9 := Aside0.mk (J8.out.below HP.out hb); have W9 := Aside0.mk (W8.out.below hb); have HB9 := Aside0.mk (below_step HB8.out hb); clear hb))
       go_roundg k1
       case measure => have := HK.out; omega
       case rel => exact ⟨_, i + 1, ys, rfl, ⟨by rw [HX.out]; exact wsucc (by have := HI.out; have := L2.out; omega)⟩, ⟨by have := HK.out; omega⟩, ⟨by have := HII.out; omega⟩, HL, J9, W9, HB9⟩
   · have c5b0 : decide (x10 < (len2 : Int)) = false := decide_eq_false c5
     clear c5
     have hNN := HN.out
     obtain ⟨ks, hs⟩ := (sameJ_ev (N : Int) (M : Int) (List.replicate ((N : Int)).toNat 0) (by simp; omega)).rounds
     have HSs := Aside0.mk hs; clear hs hNN
     go_wp2_with (first
      | (go_at_call 25; (refine (mdct_Joiner_Reset.walk N M b0 g ys _ (by have := HN.out; omega) HJ.out.at).mono ?_); rintro e w7 ⟨rfl, hJ, hk⟩; have J7 := Aside0.mk hJ; have HB7 := Aside0.mk (below_keep HB.out hk GG.out.1); clear hJ hk)
      | ((with_reducible refine gate_callee (f := 13) rfl ?_); refine goesL_ (some 105) rfl rfl Try.func13 (by kernel_rfl) rfl #[.int .i64 (N : Int), .int .i64 (M : Int)] rfl (by (try simp only [List.map_toArray, List.map_cons, List.map_nil]); first | done | rfl) ?_; (with_reducible refine (mdct_New.good N M _ (by have := HN.out; omega) HG.out).mono ?_); rintro e w8 ⟨g2, rfl, hJ, hb⟩; refine ⟨_, rfl, ?_⟩; have K8 := Aside0.mk hJ; have J8 := Aside0.mk (J7.out.below hb); have HB8 := Aside0.mk (below_step HB7.out hb); clear hJ hb)
      | (go_at_call 23; (refine (mdct_Joiner_Same.walk ks N M g g2 _ _ _ _ true _ J8.out K8.out HSs.out).mono ?_); rintro e w9 ⟨rfl, hb⟩; have HB9 := Aside0.mk (below_step HB8.out hb); clear hb))
     go_ret
     exact ⟨rfl, HB9.out⟩
end Go.Proofs.Ytnliianjljgcbaa.MA
