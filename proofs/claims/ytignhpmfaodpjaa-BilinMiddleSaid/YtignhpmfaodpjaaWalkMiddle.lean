/- BilinMiddle's walk: in the middle of a texel is what it holds. Conditions: the arguments are of their kinds. -/
import Derived.Test.YtignhpmfaodpjaaBase
namespace Go.Proofs.Ytignhpmfaodpjaa.WalkMiddle
open Go Go.RowKit Go.Proofs.YtignhpmfaodpjaaW.PrintWords Go.Proofs.YtignhpmfaodpjaaW.PrintLast Go.Proofs.YtignhpmfaodpjaaW.PrintMore Go.Proofs.Ytignhpmfaodpjaa.Core Go.Proofs.Ytignhpmfaodpjaa.PBilinFlat Go.Proofs.Ytignhpmfaodpjaa.WalkField Go.Proofs.Ytignhpmfaodpjaa.WalkSome Go.Proofs.Ytignhpmfaodpjaa.Glue Go.Proofs.Ytignhpmfaodpjaa.Base
set_option linter.unusedVariables false
set_option linter.unusedSimpArgs false
attribute [local go_sem ↓] Go.wp_at_zero Go.wp_at_succ
attribute [local go_sem high] eqA32
set_option maxHeartbeats 1000000 in
theorem middle (op key aw ah ink i k den W H xi yi X Y r j c : Int) (l : List Int) (w : World) (hi : 0 ≤ i) (hi2 : i ≤ 255) (hk : 0 ≤ k) (hk2 : k ≤ 255) (hd : 0 ≤ den) (hd2 : den ≤ 255)
    (hW : ¬ W = 0) (hH : ¬ H = 0) (e1 : Int.tmod i W = xi) (e2 : Int.tmod k H = yi) (e3 : IntKind.i64.wrap i = i) (e4 : IntKind.i64.wrap k = k)
    (eX : wrap64 ((2 * xi + 1) * (1 + den)) = X) (eY : wrap64 ((2 * yi + 1) * (1 + den)) = Y) (hxi : 0 ≤ xi) (hxi2 : xi ≤ 100) (hyi : 0 ≤ yi) (hyi2 : yi ≤ 100)
    (eJ1 : IntKind.i64.wrap (yi * W) = r) (eJ2 : IntKind.i64.wrap (r + xi) = j) (hj0 : 0 ≤ j) (hj1 : j < (l.length : Int)) (hc : l[j.toNat]? = some c) (e5 : IntKind.i64.wrap c = c)
    (HA : Hid (∀ (w : World) (A : Option Addr) (cap : Nat), Kd.C (Kd.int .u8) w A l.length l → l.length ≤ cap → Calls Try.prog 12 #[.agg #[.int .i64 W, .int .i64 H, .slice A l.length cap], .int .i64 X, .int .i64 Y, .int .i64 (2 * (1 + den))] w (Ret (.tuple #[.agg #[.int .i64 c, .int .i64 1], .int .i64 0]) w)))
    (HS : Hid (∀ w, Calls Try.prog 11 #[.agg #[.int .u8 op, .int .u8 key, .int .u8 aw, .int .u8 ah, .int .u8 ink], .int .i16 0, .int .i16 0, .int .u8 0] w (SomeMade w W H 0 0 1 l))) :
    Calls Try.prog 5 #[.agg #[.int .u8 op, .int .u8 key, .int .u8 aw, .int .u8 ah, .int .u8 ink], .int .u8 i, .int .u8 k, .int .u8 den] w (Ret (.bool true) w) := by
  have HC := Lib.hid hc
  clear hc
  go_enter Try.func5, Try.ntmps5
  go_upto_region 4 with (first | (go_at_call 10; refine (awake_calls _).mono ?_; rintro e w1 ⟨rfl, hw1⟩; obtain ⟨hc1, hf1⟩ := bcell hw1) | (go_at_call 11; refine (HS.out _).mono ?_; rintro e w2 ⟨g, cap, rfl, ho2, hw2⟩))
  go_quiet (fail)
  go_upto_region 6 with (first | (go_at_call 12; refine (HA.out _ _ _ (reads_own (pw_own_drewN (ho2.alloc _) _)).1 (reads_own ho2).2.1).mono ?_; rintro e w3 ⟨rfl, hw3⟩))
  have k0 : w3.cell? ⟨w2.heap.size, 0, none⟩ = some (.int .i64 W) := cell_later hw3 (by go_simp)
  have k1 : w3.cell? ⟨w2.heap.size, 1, none⟩ = some (.int .i64 H) := cell_later hw3 (by go_simp)
  have k2 : w3.cell? ⟨w2.heap.size, 2, none⟩ = some (.slice (some ⟨g, 0, none⟩) l.length cap) := cell_later hw3 (by go_simp)
  have k3 : w3.cell? ⟨g, j.toNat, none⟩ = some (.int .u8 c) := by
    refine cell_later hw3 ?_
    have := (pw_own_drewN (ho2.alloc (.cells #[.int .i64 W, .int .i64 H, .slice (some ⟨g, 0, none⟩) l.length cap] 28)) nq).cellAt j.toNat (by omega)
    rw [this, List.getElem?_map, HC.out]; rfl
  have kz : w2.heap.size < w3.heap.size := by have := hw3.size; simp [Nat.add_one_le_iff] at this; exact this
  have kg : g < w3.heap.size := Nat.lt_of_lt_of_le (reads_own ho2).2.2.2 (Nat.le_of_lt kz)
  go_quiet (fail)
  go_wp2_with fail
  go_ret
  refine ⟨rfl, ?_⟩
  refine pw_below_drewN (below_alloc (below_step (pw_below_drewN (below_alloc (below_step (below_step (below_alloc (Below.refl _ _) _) hw1) hw2) _) _) hw3) _) _
theorem walk (op key aw ah ink i k den : Int) (w : World) (w0 : (Lit.int .u8 op).wf = true) (w1 : (Lit.int .u8 key).wf = true) (w2 : (Lit.int .u8 aw).wf = true) (w3 : (Lit.int .u8 ah).wf = true) (w4 : (Lit.int .u8 ink).wf = true)
    (w5 : (Lit.int .u8 i).wf = true) (w6 : (Lit.int .u8 k).wf = true) (w7 : (Lit.int .u8 den).wf = true) :
    Calls Try.prog 5 #[.agg #[.int .u8 op, .int .u8 key, .int .u8 aw, .int .u8 ah, .int .u8 ink], .int .u8 i, .int .u8 k, .int .u8 den] w fun e w' => e = .returned (.bool true) ∧ Below w.heap.size w w' := by
  have hw := bounds_u8 w2
  have hh := bounds_u8 w3
  have hi := bounds_u8 w5
  have hk := bounds_u8 w6
  have hd := bounds_u8 w7
  have hS := fun w => some_calls op key aw ah ink 0 0 0 w hw.1 hw.2 hh.1 hh.2 (by omega) (by omega) (by omega) (by omega) (by omega) (by omega)
  have hW : 1 ≤ 1 + aw % 12 ∧ 1 + aw % 12 ≤ 12 := by omega
  have hH : 1 ≤ 1 + ah % 12 ∧ 1 + ah % 12 ≤ 12 := by omega
  rw [show Int.tmod 0 (20 * (1 + 0)) = 0 from rfl, show (1 : Int) + 0 = 1 from rfl] at hS
  generalize 1 + aw % 12 = W at *
  generalize 1 + ah % 12 = H at *
  have ha := area_bd hW.1 hW.2 hH.1 hH.2
  have x1 := Int.emod_nonneg i (show W ≠ 0 by omega)
  have x2 := Int.emod_lt_of_pos i (show 0 < W by omega)
  have y1 := Int.emod_nonneg k (show H ≠ 0 by omega)
  have y2 := Int.emod_lt_of_pos k (show 0 < H by omega)
  have ex : Int.tmod i W = i % W := Int.tmod_eq_emod_of_nonneg hi.1
  have ey : Int.tmod k H = k % H := Int.tmod_eq_emod_of_nonneg hk.1
  generalize i % W = xi at *
  generalize k % H = yi at *
  have p1 : (2 * xi + 1) * (1 + den) ≤ 25 * 256 := Int.mul_le_mul (by omega) (by omega) (by omega) (by omega)
  have p2 : 0 ≤ (2 * xi + 1) * (1 + den) := Int.mul_nonneg (by omega) (by omega)
  have q1 : (2 * yi + 1) * (1 + den) ≤ 25 * 256 := Int.mul_le_mul (by omega) (by omega) (by omega) (by omega)
  have q2 : 0 ≤ (2 * yi + 1) * (1 + den) := Int.mul_nonneg (by omega) (by omega)
  have r1 : yi * W ≤ 11 * 12 := Int.mul_le_mul (by omega) hW.2 (by omega) (by omega)
  have r2 : 0 ≤ yi * W := Int.mul_nonneg y1 (by omega)
  have r3 : yi * W ≤ (H - 1) * W := Int.mul_le_mul_of_nonneg_right (by omega) (by omega)
  have r4 : (H - 1) * W = W * H - W := by rw [Int.sub_mul, Int.mul_comm H]; omega
  have hlen : ((texels ink (W * H).toNat).length : Int) = W * H := by rw [texels_length]; omega
  have hj : (yi * W + xi).toNat < (W * H).toNat := by omega
  -- in the middle of a texel nothing else counts
  have mid : ∀ a : Int, 2 * ((2 * a + 1) * (1 + den)) - 2 * (1 + den) = a * (2 * (2 * (1 + den))) := by
    intro a
    have e1 : (2 * a + 1) * (1 + den) = 2 * (a * (1 + den)) + (1 + den) := by rw [Int.add_mul, Int.mul_assoc]; omega
    have e2 : a * (2 * (2 * (1 + den))) = 4 * (a * (1 + den)) := by rw [show 2 * (2 * (1 + den)) = 4 * (1 + den) by omega, Int.mul_left_comm]
    omega
  have bi_mid : ∀ a : Int, bi ((2 * a + 1) * (1 + den)) (2 * (1 + den)) = a := fun a => by unfold bi; rw [mid, Int.mul_ediv_cancel _ (by omega)]
  have bu_mid : ∀ a : Int, bu ((2 * a + 1) * (1 + den)) (2 * (1 + den)) = 0 := fun a => by unfold bu; rw [mid]; exact Int.mul_emod_left _ _
  have hv : val W H (texels ink (W * H).toNat) ((2 * xi + 1) * (1 + den)) ((2 * yi + 1) * (1 + den)) (2 * (1 + den)) = tx ink (yi * W + xi).toNat * (2 * (2 * (1 + den)) * (2 * (2 * (1 + den)))) := by
    unfold val
    rw [bi_mid, bi_mid, bu_mid, bu_mid, tex_at x1 x2 y1 y2, texels_rd ink hj]
    simp only [Int.mul_zero, Int.add_zero, Int.sub_zero]
    rw [Int.mul_assoc]
  have hdd0 : 0 < 2 * (2 * (1 + den)) * (2 * (2 * (1 + den))) := Int.mul_pos (by omega) (by omega)
  have ht := tx_bd ink (yi * W + xi).toNat
  refine middle op key aw ah ink i k den W H xi yi ((2 * xi + 1) * (1 + den)) ((2 * yi + 1) * (1 + den)) (yi * W) (yi * W + xi) (tx ink (yi * W + xi).toNat) _ w hi.1 hi.2 hk.1 hk.2 hd.1 hd.2 (by omega) (by omega) ex ey
    (by rw [IntKind.wrap_i64]; omega) (by rw [IntKind.wrap_i64]; omega) (w64 (by omega) (by omega)) (w64 (by omega) (by omega)) x1 (by omega) y1 (by omega) (by rw [IntKind.wrap_i64]; omega) (by rw [IntKind.wrap_i64]; omega) (by omega) (by omega)
    (texels_get ink hj) (by rw [IntKind.wrap_i64]; omega) ?_ hS
  refine at_calls hW.1 (by omega) hH.1 (by omega) hlen (texels_bd ink _) (by omega) (by omega) (by omega) (by omega) (by omega) (by omega) ?_ ?_
  all_goals
    rw [hv]
    generalize 2 * (2 * (1 + den)) * (2 * (2 * (1 + den))) = D at *
    have hg : ((Int.gcd (tx ink (yi * W + xi).toNat * D) D : Nat) : Int) = D := by rw [Int.gcd_eq_natAbs_right (Int.dvd_mul_left _ _)]; omega
    rw [hg]
  · exact Int.mul_ediv_cancel _ (by omega)
  · exact Int.ediv_self (by omega)
end Go.Proofs.Ytignhpmfaodpjaa.WalkMiddle
