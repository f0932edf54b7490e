/- What a sampler's run comes to, in plain lists. Condition: rates that are good, samples of a number that M divides, at most 4800. -/
import Derived.Test.YtocnpnpedmapbaaRun
import Derived.Test.YtocnpnpedmapbaaTabl
import Derived.Test.YtocnpnpedmapbaaBase
namespace Go.Proofs.Ytocnpnpedmapbaa.RunP
open Go.RowKit Go.Proofs.YtocnpnpedmapbaaW.PrintWords Go.Proofs.YtocnpnpedmapbaaW.PrintLast Go.Proofs.YtocnpnpedmapbaaW.PrintMore Go.Proofs.Ytocnpnpedmapbaa.MA Go.Proofs.Ytocnpnpedmapbaa.Core Go.Proofs.Ytocnpnpedmapbaa.Base Go.Proofs.Ytocnpnpedmapbaa.Tabl

theorem ev60 {α : Type} {g : Nat → Option α} {r : α} (h : ∀ k, g (k + 60) = some r) : Ev g r :=
  ⟨60, fun k hk => by obtain ⟨j, rfl⟩ : ∃ j, k = j + 60 := ⟨k - 60, by omega⟩; exact h j⟩

def satI (v : Int) : Int := clamp v (-32768) 32767
theorem sat_ev (v : Int) : Ev (fun k => fix_Sat16.f k v) (satI v) := by
  unfold fix_Sat16.f
  exact Ev.bind (clamp_ev _ _ _) (Ev.now _)
theorem satI_in (v : Int) : -32768 ≤ satI v ∧ satI v ≤ 32767 := clamp_bd (by decide)

def accW (z : List Int) : List Int → Int → Nat → Int
  | [], s, _ => s
  | f :: fs, s, i => accW z fs (wrap64 (s + wrap64 (f * z.getD i 0))) (i + 1)

def outP (L M : Nat) (F : Nat → List Int) (z : List Int) (j : Nat) : Int := satI (accW z (F (j * M % L)) 16384 (j * M / L + 1) / 32768)
def outW (L M : Nat) (F : Nat → List Int) (z : List Int) (n : Nat) : List Int := (List.range n).map fun j : Nat => outP L M F z j
theorem outW_length (L M : Nat) (F : Nat → List Int) (z : List Int) (n : Nat) : (outW L M F z n).length = n := by unfold outW; simp

section
variable (a b : Int) (L M : Nat) (F : Nat → List Int) (hL : 1 ≤ L ∧ L ≤ 6) (hM : 1 ≤ M ∧ M ≤ 6) (hF : ∀ p, p < L → FilterIs a b p (F p))
include hL hM hF

theorem run_l3 (z out : List Int) (X : List (List Int)) (q j : Nat) (hz : z.length = 16 + M * q) (hq : M * q ≤ 4800) (hj : j < L * q) (ho : out.length = L * q) (r : List Int × Int × List Int) (d : Nat) : ∀ (t : Nat) (s : Int), t + d = 16 →
    Ev (fun k => resamp_Sampler_Run.l2 k (L : Int) (M : Int) z X (out.set j (satI (accW z ((F (j * M % L)).drop t) s (j * M / L + 1 + t) / 32768))) ((L * q : Nat) : Int) ((j + 1 : Nat) : Int)) r →
    Ev (fun k => resamp_Sampler_Run.l3 k (L : Int) (M : Int) z X out (j : Int) ((j * M / L : Nat) : Int) s ((L * q : Nat) : Int) (j : Int) (F (j * M % L)) ((F (j * M % L)).length : Int) (t : Int)) r := by
  have hl : (F (j * M % L)).length = 16 := (hF _ (Nat.mod_lt _ (by omega))).1
  have hb : j * M / L < M * q := by
    refine Nat.div_lt_of_lt_mul ?_
    have := Nat.mul_lt_mul_of_pos_right hj (show 0 < M by omega)
    rwa [Nat.mul_assoc, Nat.mul_comm q M] at this
  have hLq : L * q ≤ 28800 := by
    have h1 : q ≤ M * q := Nat.le_mul_of_pos_left _ (by omega)
    have h2 : L * q ≤ 6 * q := Nat.mul_le_mul_right _ hL.2
    omega
  generalize F (j * M % L) = G at *
  generalize j * M / L = B at *
  induction d with
  | zero =>
    intro t s ht hc
    have e9 : wrap64 ((j : Int) + 1) = ((j + 1 : Nat) : Int) := wsucc (by omega)
    refine Ev.step (fun k => by rw [resamp_Sampler_Run.l3, e9, Int.toNat_natCast]) ?_
    clear e9
    refine ev_neg (by omega) (Ev.bind (sat_ev _) (ev_pos (by omega) (ev_pos (by omega) ?_)))
    rw [List.drop_eq_nil_of_le (by omega)] at hc
    exact hc
  | succ d ih =>
    intro t s ht hc
    have e1 : wrap64 ((B : Int) + 8) = B + 8 := wrap_id (by omega) (by omega)
    have e2 : wrap64 ((B : Int) + 8 + t) = B + 8 + t := by clear e1 ih hc; exact wrap_id (by omega) (by omega)
    have e3 : wrap64 ((B : Int) + 8 + t - 7) = ((B + 1 + t : Nat) : Int) := by clear e1 e2 ih hc; rw [wrap_id] <;> omega
    have e4 : wrap64 ((t : Int) + 1) = ((t + 1 : Nat) : Int) := by clear e1 e2 e3 ih hc; exact wsucc (by omega)
    refine Ev.step (fun k => by rw [resamp_Sampler_Run.l3, e1, e2, e3, e4, rd_nat, rd_nat]) ?_
    clear e1 e2 e3 e4
    refine ev_pos (by omega) (ev_pos (by omega) (ev_pos (by omega) (ev_pos (by omega) (ev_pos (by omega) ?_))))
    refine ih (t + 1) _ (by omega) ?_
    have e : G.getD t 0 = G[t]'(by omega) := by simp [List.getD, List.getElem?_eq_getElem (show t < G.length by omega)]
    rw [List.drop_eq_getElem_cons (by omega), accW, ← e] at hc
    exact hc

theorem run_l2 (z : List Int) (q : Nat) (hz : z.length = 16 + M * q) (hq : M * q ≤ 4800) (d : Nat) : ∀ (j : Nat) (out : List Int), j + d = L * q → out.length = L * q →
    Ev (fun k => resamp_Sampler_Run.l2 k (L : Int) (M : Int) z ((List.range L).map F) out ((L * q : Nat) : Int) (j : Int)) (fill (fun j => outP L M F z j) out j d, 0, z) := by
  have hLq : L * q ≤ 28800 := by
    have h1 : q ≤ M * q := Nat.le_mul_of_pos_left _ (by omega)
    have h2 : L * q ≤ 6 * q := Nat.mul_le_mul_right _ hL.2
    omega
  induction d with
  | zero =>
    intro j out h1 h2
    have e1 : wrap64 ((z.length : Int) - 16) = ((M * q : Nat) : Int) := by rw [wrap_id] <;> omega
    refine Ev.step (fun k => by rw [resamp_Sampler_Run.l2, e1]) ?_
    clear e1
    exact ev_neg (by omega) (ev_pos (by omega) (ev_pos (by omega) (Ev.now _)))
  | succ d ih =>
    intro j out h1 h2
    have hjM : j * M ≤ 28800 * 6 := Nat.mul_le_mul (by omega) hM.2
    have e1 : wrap64 ((j : Int) * (M : Int)) = ((j * M : Nat) : Int) := by
      rw [← Int.natCast_mul]; clear ih; generalize j * M = y at *; exact wrap_id (by omega) (by omega)
    have e2 : Int.tmod ((j * M : Nat) : Int) (L : Int) = ((j * M % L : Nat) : Int) := rfl
    have hd : j * M / L ≤ j * M := Nat.div_le_self _ _
    have e3 : wrap64 (Int.tdiv ((j * M : Nat) : Int) (L : Int)) = ((j * M / L : Nat) : Int) := by
      have : Int.tdiv ((j * M : Nat) : Int) (L : Int) = ((j * M / L : Nat) : Int) := rfl
      have hd2 : j * M / L ≤ 172800 := by omega
      rw [this]; clear ih e1 e2 this hd; generalize j * M / L = y at *; exact wrap_id (by omega) (by omega)
    have hp : j * M % L < L := Nat.mod_lt _ (by omega)
    have e4 : rd_L1 ((List.range L).map F) ((j * M % L : Nat) : Int) = F (j * M % L) := by
      unfold rd_L1
      rw [Int.toNat_natCast, List.getD_eq_getElem?_getD, List.getElem?_map, List.getElem?_range hp, Option.map_some, Option.getD_some]
    refine Ev.step (fun k => by rw [resamp_Sampler_Run.l2, e1, e2, e3, e4]) ?_
    clear e1 e2 e3 e4
    refine ev_pos (by omega) (ev_neg (by omega) (ev_pos (Int.natCast_nonneg _) (ev_pos (by rw [List.length_map, List.length_range]; exact Int.ofNat_lt.2 hp) ?_)))
    refine run_l3 a b L M F hL hM hF z out _ q j hz hq (by omega) h2 _ 16 0 16384 (by omega) ?_
    exact ih (j + 1) _ (by omega) (by simpa using h2)

theorem run_l1 (z x : List Int) (q : Nat) (hz : z.length = 16 + M * q) (hx : x.length = M * q) (hq : M * q ≤ 4800) (d : Nat) : ∀ (p : Nat) (X : List (List Int)), p + d = L → X.length = L → (∀ i, i < p → X[i]? = some (F i)) →
    Ev (fun k => resamp_Sampler_Run.l1 k a b x (L : Int) (M : Int) z X (L : Int) (p : Int)) (outW L M F z (L * q), 0, z) := by
  induction d with
  | zero =>
    intro p X h1 h2 h3
    obtain rfl : X = (List.range L).map F := by
      apply List.ext_getElem?
      intro i
      by_cases hi : i < L
      · rw [h3 i (by omega), List.getElem?_map, List.getElem?_range hi]; rfl
      · rw [List.getElem?_eq_none (by omega), List.getElem?_eq_none (by simp; omega)]
    have hLq : L * q ≤ 28800 := by
      have h1 : q ≤ M * q := Nat.le_mul_of_pos_left _ (by omega)
      have h2 : L * q ≤ 6 * q := Nat.mul_le_mul_right _ hL.2
      omega
    have e1 : wrap64 ((L : Int) * (x.length : Int)) = ((M * (L * q) : Nat) : Int) := by
      have hb : M * (L * q) ≤ 6 * 28800 := Nat.mul_le_mul hM.2 hLq
      have : (L : Int) * (x.length : Int) = ((M * (L * q) : Nat) : Int) := by rw [hx, ← Int.natCast_mul]; congr 1; rw [Nat.mul_left_comm]
      rw [this]; generalize M * (L * q) = y at *; exact wrap_id (by omega) (by omega)
    have e2 : wrap64 (Int.tdiv ((M * (L * q) : Nat) : Int) (M : Int)) = ((L * q : Nat) : Int) := by
      have : Int.tdiv ((M * (L * q) : Nat) : Int) (M : Int) = ((M * (L * q) / M : Nat) : Int) := rfl
      rw [this, Nat.mul_div_cancel_left _ (by omega)]
      clear e1
      generalize L * q = y at *
      exact wrap_id (by omega) (by omega)
    refine Ev.step (fun k => by rw [resamp_Sampler_Run.l1, e1, e2, Int.toNat_natCast]) ?_
    clear e1 e2
    refine ev_neg (by omega) (ev_neg (by omega) (ev_pos (by omega) (ev_pos (by omega) (ev_some ?_))))
    rw [List.length_replicate]
    have h := run_l2 a b L M F hL hM hF z q hz hq (L * q) 0 (List.replicate (L * q) 0) (by omega) (by simp)
    have h4 := fill_all (fun j => outP L M F z j) (List.replicate (L * q) 0)
    rw [List.length_replicate] at h4
    rw [h4] at h
    exact h
  | succ d ih =>
    intro p X h1 h2 h3
    refine Ev.step (fun k => by rw [resamp_Sampler_Run.l1, wsucc (by omega), Int.toNat_natCast]) ?_
    refine ev_pos (by omega) (Ev.bind (ev60 (hF p (by omega)).2.1) (ev_pos (by omega) (ev_pos (by omega) ?_)))
    refine ih (p + 1) _ (by omega) (by simpa using h2) (fun i hi => ?_)
    rw [List.getElem?_set]
    by_cases c : p = i
    · subst c; rw [if_pos rfl, if_pos (by omega)]
    · rw [if_neg c]; exact h3 i (by omega)

theorem run_l0 (ks x : List Int) (q : Nat) (hk : ks.length = 16) (hx : x.length = M * q) (hq : M * q ≤ 4800) (d : Nat) : ∀ (i : Nat), i + d = x.length →
    Ev (fun k => resamp_Sampler_Run.l0 k a b x (L : Int) (M : Int) (ks ++ (x.take i).map satI) x (x.length : Int) (i : Int)) (outW L M F (ks ++ x.map satI) (L * q), 0, ks ++ x.map satI) := by
  induction d with
  | zero =>
    intro i h1
    refine Ev.step (fun k => by rw [resamp_Sampler_Run.l0, Int.toNat_natCast]) ?_
    rw [List.take_of_length_le (by omega)]
    refine ev_neg (by omega) (ev_pos (by omega) (ev_pos (by omega) (ev_some ?_)))
    rw [List.length_replicate]
    exact run_l1 a b L M F hL hM hF _ x q (by simp [hk, hx]) hx hq L 0 (List.replicate L []) (by omega) (by simp) (fun i hi => absurd hi (by omega))
  | succ d ih =>
    intro i h1
    refine Ev.step (fun k => by rw [resamp_Sampler_Run.l0, wsucc (by omega), rd_nat]) ?_
    refine ev_pos (by omega) (ev_pos (by omega) (ev_pos (by omega) (Ev.bind (sat_ev _) (ev_pos (by simp; omega) ?_))))
    have h := ih (i + 1) (by omega)
    have e : x.getD i 0 = x[i]'(by omega) := by simp [List.getD, List.getElem?_eq_getElem (show i < x.length by omega)]
    rw [List.take_succ_eq_append_getElem (by omega), List.map_append, ← List.append_assoc, List.map_singleton, ← e] at h
    exact h

theorem run_ev (hp : ∀ k, resamp_parts.f (k + 60) a b = some ((L : Int), (M : Int))) (ks x : List Int) (q : Nat) (hk : ks.length = 16) (hx : x.length = M * q) (hq : M * q ≤ 4800) :
    Ev (fun k => resamp_Sampler_Run.f k a b ks x) (outW L M F (ks ++ x.map satI) (L * q), 0, ks ++ x.map satI) := by
  unfold resamp_Sampler_Run.f
  refine Ev.bind (ev60 hp) (ev_neg (by omega) (ev_neg (show ¬ ((M : Int) = 0) by omega) ?_))
  have e : (((x.length : Int) % (M : Int)) != 0) = false := by
    rw [hx]
    have : ((M * q : Nat) : Int) % (M : Int) = ((M * q % M : Nat) : Int) := rfl
    rw [this, Nat.mul_mod_right]; rfl
  show Ev (fun k => resamp_Sampler_Run.j0 k a b ks x (L : Int) (M : Int) [] (((x.length : Int) % (M : Int)) != 0)) _
  rw [e]
  refine Ev.step (fun k => by rw [resamp_Sampler_Run.j0]) ?_
  refine ev_neg (by decide) (ev_some (ev_pos (by simp; omega) ?_))
  rw [List.nil_append]
  have h := run_l0 a b L M F hL hM hF ks x q hk hx hq x.length 0 (by omega)
  simpa using h
end

/-- The filters of two rates. -/
theorem filters {a b : Int} {L M : Nat} (hr : RateIs a b L M) : ∃ F : Nat → List Int, ∀ p, p < L → FilterIs a b p (F p) := by
  have h : ∀ p, ∃ G, p < L → FilterIs a b p G := fun p => by
    by_cases hp : p < L
    · obtain ⟨G, hG⟩ := hr.2.2.2.2.2.2 p hp
      exact ⟨G, fun _ => hG⟩
    · exact ⟨[], fun h => absurd h hp⟩
  exact ⟨fun p => (h p).choose, fun p hp => (h p).choose_spec hp⟩

/-- A sum over one number: wrapped once. -/
theorem accW_const (z : List Int) (v : Int) : ∀ (fs : List Int) (s : Int) (i : Nat), (∀ j, i ≤ j → j < i + fs.length → z.getD j 0 = v) → ∃ m, accW z fs s i = s + lsum fs * v + m * 18446744073709551616
  | [], s, i, _ => ⟨0, by simp [accW, lsum]⟩
  | f :: fs, s, i, h => by
    obtain ⟨m, hm⟩ := accW_const z v fs (wrap64 (s + wrap64 (f * z.getD i 0))) (i + 1) (fun j h1 h2 => h j (by omega) (by rw [List.length_cons]; omega))
    rw [accW, hm, h i (by omega) (by rw [List.length_cons]; omega), lsum]
    have w : ∀ n : Int, ∃ m, wrap64 n = n + m * 18446744073709551616 := fun n => ⟨-((n + 9223372036854775808) / 18446744073709551616), by unfold wrap64; omega⟩
    obtain ⟨m1, e1⟩ := w (f * v)
    obtain ⟨m2, e2⟩ := w (s + wrap64 (f * v))
    refine ⟨m + m1 + m2, ?_⟩
    rw [e2, e1, Int.add_mul f]
    omega

end Go.Proofs.Ytocnpnpedmapbaa.RunP
