/- BilinLinear's walk: between two texels of a row all is on the straight line between them. Conditions: the arguments are of their kinds. -/
import Derived.Test.YtignhpmfaodpjaaBase
namespace Go.Proofs.Ytignhpmfaodpjaa.WalkLinear
open Go Go.RowKit Go.Proofs.YtignhpmfaodpjaaW.PrintWords Go.Proofs.YtignhpmfaodpjaaW.PrintLast Go.Proofs.YtignhpmfaodpjaaW.PrintMore Go.Proofs.Ytignhpmfaodpjaa.Core Go.Proofs.Ytignhpmfaodpjaa.PBilinFlat Go.Proofs.Ytignhpmfaodpjaa.WalkField Go.Proofs.Ytignhpmfaodpjaa.WalkSome Go.Proofs.Ytignhpmfaodpjaa.Glue Go.Proofs.Ytignhpmfaodpjaa.Base
set_option linter.unusedVariables false
set_option linter.unusedSimpArgs false
attribute [local go_sem ↓] Go.wp_at_zero Go.wp_at_succ
attribute [local go_sem high] eqA32
set_option maxHeartbeats 1000000 in
theorem thin (op key aw ah ink y k W H num den : Int) (l : List Int) (w : World) (hW : W < 2)
    (HA : Hid (∀ (w : World) (A : Option Addr) (cap : Nat), Kd.C (Kd.int .u8) w A l.length l → l.length ≤ cap → Calls Try.prog 12 #[.agg #[.int .i64 W, .int .i64 H, .slice A l.length cap], .int .i64 1, .int .i64 1, .int .i64 2] w (Ret (.tuple #[.agg #[.int .i64 num, .int .i64 den], .int .i64 0]) w)))
    (HS : Hid (∀ w, Calls Try.prog 11 #[.agg #[.int .u8 op, .int .u8 key, .int .u8 aw, .int .u8 ah, .int .u8 ink], .int .i16 0, .int .i16 0, .int .u8 0] w (SomeMade w W H 0 0 1 l))) :
    Calls Try.prog 8 #[.agg #[.int .u8 op, .int .u8 key, .int .u8 aw, .int .u8 ah, .int .u8 ink], .int .u8 y, .int .u8 k] w (Ret (.bool true) w) := by
  go_enter Try.func8, Try.ntmps8
  go_wp2_with (first | (go_at_call 10; refine (awake_calls _).mono ?_; rintro e w1 ⟨rfl, hw1⟩; obtain ⟨hc1, hf1⟩ := bcell hw1) | (go_at_call 11; refine (HS.out _).mono ?_; rintro e w2 ⟨g, cap, rfl, ho2, hw2⟩) | (go_at_call 12; refine (HA.out _ _ _ (reads_own (ho2.alloc _)).1 (reads_own ho2).2.1).mono ?_; rintro e w3 ⟨rfl, hw3⟩))
  go_ret
  exact ⟨rfl, below_alloc (below_step (below_alloc (below_step (below_step (below_alloc (Below.refl _ _) _) hw1) hw2) _) hw3) _⟩
set_option maxHeartbeats 1000000 in
theorem linear (op key aw ah ink y k W H kq V xi yi t r j j1 p q P Q num den : Int) (l : List Int) (w : World) (hk : 0 ≤ k) (hk2 : k ≤ 255) (hW : ¬ W < 2)
    (f1 : Int.tdiv k 16 = kq) (f1' : k / 16 = kq) (f2 : IntKind.i64.wrap kq = kq) (f2' : IntKind.u8.wrap kq = kq) (f3 : IntKind.i64.wrap (W - 1) = V) (f4 : Int.tmod kq V = xi) (f4' : ¬ V = 0) (f5 : IntKind.i64.wrap y = y) (f6 : Int.tmod y H = yi) (f6' : ¬ H = 0)
    (f7 : k % 16 = t) (ht : 0 ≤ t) (ht2 : t ≤ 15) (hxi : 0 ≤ xi) (hxi2 : xi ≤ 100) (hyi : 0 ≤ yi) (hyi2 : yi ≤ 100)
    (g1 : IntKind.i64.wrap (yi * W) = r) (g2 : IntKind.i64.wrap (r + xi) = j) (g3 : IntKind.i64.wrap (j + 1) = j1) (hj : 0 ≤ j) (hj1 : 0 ≤ j1) (hj2 : j < (l.length : Int)) (hj3 : j1 < (l.length : Int)) (hp : l[j.toNat]? = some p) (hq : l[j1.toNat]? = some q) (g4 : IntKind.i64.wrap p = p) (g5 : IntKind.i64.wrap q = q)
    (hP : wrap64 (p * (16 - t)) = P) (hQ : wrap64 (q * t) = Q) (hP0 : 0 ≤ P) (hP1 : P ≤ 10000) (hQ0 : 0 ≤ Q) (hQ1 : Q ≤ 10000)
    (HA : Hid (∀ (w : World) (A : Option Addr) (cap : Nat), Kd.C (Kd.int .u8) w A l.length l → l.length ≤ cap → Calls Try.prog 12 #[.agg #[.int .i64 W, .int .i64 H, .slice A l.length cap], .int .i64 (32 * xi + 16 + 2 * t), .int .i64 (32 * yi + 16), .int .i64 32] w (Ret (.tuple #[.agg #[.int .i64 num, .int .i64 den], .int .i64 0]) w)))
    (HO : Hid (∀ (w : World), Calls Try.prog 16 #[.int .i64 (P + Q), .int .i64 16] w (Ret (.tuple #[.agg #[.int .i64 num, .int .i64 den], .int .i64 0]) w)))
    (HS : Hid (∀ w, Calls Try.prog 11 #[.agg #[.int .u8 op, .int .u8 key, .int .u8 aw, .int .u8 ah, .int .u8 ink], .int .i16 0, .int .i16 0, .int .u8 0] w (SomeMade w W H 0 0 1 l))) :
    Calls Try.prog 8 #[.agg #[.int .u8 op, .int .u8 key, .int .u8 aw, .int .u8 ah, .int .u8 ink], .int .u8 y, .int .u8 k] w (Ret (.bool true) w) := by
  have HP := Lib.hid hp
  have HQ := Lib.hid hq
  clear hp hq
  go_enter Try.func8, Try.ntmps8
  go_upto_region 7 with (first | (go_at_call 10; refine (awake_calls _).mono ?_; rintro e w1 ⟨rfl, hw1⟩; obtain ⟨hc1, hf1⟩ := bcell hw1) | (go_at_call 11; refine (HS.out _).mono ?_; rintro e w2 ⟨g, cap, rfl, ho2, hw2⟩))
  go_quiet (fail)
  go_upto_region 10 with (first | (go_at_call 12; refine (HA.out _ _ _ (reads_own (pw_own_drewN (ho2.alloc _) _)).1 (reads_own ho2).2.1).mono ?_; rintro e w3 ⟨rfl, hw3⟩))
  have k0 : w3.cell? ⟨w2.heap.size, 0, none⟩ = some (.int .i64 W) := cell_later hw3 (by go_simp)
  have k1 : w3.cell? ⟨w2.heap.size, 1, none⟩ = some (.int .i64 H) := cell_later hw3 (by go_simp)
  have k2 : w3.cell? ⟨w2.heap.size, 2, none⟩ = some (.slice (some ⟨g, 0, none⟩) l.length cap) := cell_later hw3 (by go_simp)
  have kz : w2.heap.size < w3.heap.size := by have := hw3.size; simp [Nat.add_one_le_iff] at this; exact this
  have kg : g < w3.heap.size := Nat.lt_of_lt_of_le (reads_own ho2).2.2.2 (Nat.le_of_lt kz)
  have kc : ∀ (j c : Int), 0 ≤ j → j < (l.length : Int) → l[j.toNat]? = some c → w3.cell? ⟨g, j.toNat, none⟩ = some (.int .u8 c) := by
    intro j c h0 h1 h2
    refine cell_later hw3 ?_
    have := (pw_own_drewN (ho2.alloc (.cells #[.int .i64 W, .int .i64 H, .slice (some ⟨g, 0, none⟩) l.length cap] 28)) nq).cellAt j.toNat (by omega)
    rw [this, List.getElem?_map, h2]; rfl
  have k3 := kc j p hj hj2 HP.out
  have k4 := kc j1 q hj1 hj3 HQ.out
  clear kc
  go_quiet (fail)
  go_wp2_with (first | (go_at_call 16; refine (HO.out _).mono ?_; rintro e w4 ⟨rfl, hw4⟩; have kx0 := cell_later hw4 (show (w3.alloc (.cells #[.int .i64 num, .int .i64 den] 32)).cell? ⟨w3.heap.size, 0, none⟩ = some (.int .i64 num) by go_simp); have kx1 := cell_later hw4 (show (w3.alloc (.cells #[.int .i64 num, .int .i64 den] 32)).cell? ⟨w3.heap.size, 1, none⟩ = some (.int .i64 den) by go_simp); have kz4 : w3.heap.size < w4.heap.size := (by have := hw4.size; simp [Nat.add_one_le_iff] at this; exact this)))
  go_ret
  exact ⟨rfl, below_alloc (below_step (pw_below_drewN (below_alloc (below_step (pw_below_drewN (below_alloc (below_step (below_step (below_alloc (Below.refl _ _) _) hw1) hw2) _) _) hw3) _) _) hw4) _⟩
theorem walk (op key aw ah ink y k : Int) (w : World) (w0 : (Lit.int .u8 op).wf = true) (w1 : (Lit.int .u8 key).wf = true) (w2 : (Lit.int .u8 aw).wf = true) (w3 : (Lit.int .u8 ah).wf = true) (w4 : (Lit.int .u8 ink).wf = true)
    (w5 : (Lit.int .u8 y).wf = true) (w6 : (Lit.int .u8 k).wf = true) :
    Calls Try.prog 8 #[.agg #[.int .u8 op, .int .u8 key, .int .u8 aw, .int .u8 ah, .int .u8 ink], .int .u8 y, .int .u8 k] w fun e w' => e = .returned (.bool true) ∧ Below w.heap.size w w' := by
  have hw := bounds_u8 w2
  have hh := bounds_u8 w3
  have hy := bounds_u8 w5
  have hk := bounds_u8 w6
  have hS := fun w => some_calls op key aw ah ink 0 0 0 w hw.1 hw.2 hh.1 hh.2 (by omega) (by omega) (by omega) (by omega) (by omega) (by omega)
  have hW : 1 ≤ 1 + aw % 12 ∧ 1 + aw % 12 ≤ 12 := by omega
  have hH : 1 ≤ 1 + ah % 12 ∧ 1 + ah % 12 ≤ 12 := by omega
  rw [show Int.tmod 0 (20 * (1 + 0)) = 0 from rfl, show (1 : Int) + 0 = 1 from rfl] at hS
  generalize 1 + aw % 12 = W at *
  generalize 1 + ah % 12 = H at *
  have ha := area_bd hW.1 hW.2 hH.1 hH.2
  have hlen : ((texels ink (W * H).toNat).length : Int) = W * H := by rw [texels_length]; omega
  by_cases hthin : W < 2
  · exact thin op key aw ah ink y k W H _ _ _ w hthin (at_calls hW.1 (by omega) hH.1 (by omega) hlen (texels_bd ink _) (by omega) (by omega) (by omega) (by omega) (by omega) (by omega) rfl rfl) hS
  · have x1 := Int.emod_nonneg (k / 16) (show W - 1 ≠ 0 by omega)
    have x2 := Int.emod_lt_of_pos (k / 16) (show 0 < W - 1 by omega)
    have y1 := Int.emod_nonneg y (show H ≠ 0 by omega)
    have y2 := Int.emod_lt_of_pos y (show 0 < H by omega)
    have ex : Int.tmod (k / 16) (W - 1) = k / 16 % (W - 1) := Int.tmod_eq_emod_of_nonneg (by omega)
    have ey : Int.tmod y H = y % H := Int.tmod_eq_emod_of_nonneg hy.1
    generalize k / 16 % (W - 1) = xi at *
    generalize y % H = yi at *
    have t1 : 0 ≤ k % 16 := by omega
    have t2 : k % 16 ≤ 15 := by omega
    have hdk : Int.tdiv k 16 = k / 16 := Int.tdiv_eq_ediv_of_nonneg hk.1
    have hq0 : 0 ≤ k / 16 ∧ k / 16 ≤ 15 := by omega
    obtain ⟨t, et⟩ : ∃ t, k % 16 = t := ⟨_, rfl⟩
    rw [et] at t1 t2
    have r1 : yi * W ≤ 11 * 12 := Int.mul_le_mul (by omega) hW.2 (by omega) (by omega)
    have r2 : 0 ≤ yi * W := Int.mul_nonneg y1 (by omega)
    have r3 : yi * W ≤ (H - 1) * W := Int.mul_le_mul_of_nonneg_right (by omega) (by omega)
    have r4 : (H - 1) * W = W * H - W := by rw [Int.sub_mul, Int.mul_comm H]; omega
    have hj : (yi * W + xi).toNat < (W * H).toNat := by omega
    have hj1 : (yi * W + xi + 1).toNat < (W * H).toNat := by omega
    have hp := tx_bd ink (yi * W + xi).toNat
    have hq := tx_bd ink (yi * W + xi + 1).toNat
    have P1 : tx ink (yi * W + xi).toNat * (16 - t) ≤ 255 * 16 := Int.mul_le_mul hp.2 (by omega) (by omega) (by omega)
    have P0 : 0 ≤ tx ink (yi * W + xi).toNat * (16 - t) := Int.mul_nonneg hp.1 (by omega)
    have Q1 : tx ink (yi * W + xi + 1).toNat * t ≤ 255 * 15 := Int.mul_le_mul hq.2 t2 t1 (by omega)
    have Q0 : 0 ≤ tx ink (yi * W + xi + 1).toNat * t := Int.mul_nonneg hq.1 t1
    have hbx : bi (32 * xi + 16 + 2 * t) 32 = xi := by unfold bi; omega
    have hux : bu (32 * xi + 16 + 2 * t) 32 = 4 * t := by unfold bu; omega
    have hby : bi (32 * yi + 16) 32 = yi := by unfold bi; omega
    have huy : bu (32 * yi + 16) 32 = 0 := by unfold bu; omega
    have hv : val W H (texels ink (W * H).toNat) (32 * xi + 16 + 2 * t) (32 * yi + 16) 32 = 256 * (tx ink (yi * W + xi).toNat * (16 - t) + tx ink (yi * W + xi + 1).toNat * t) := by
      unfold val
      rw [hbx, hux, hby, huy, tex_at x1 (by omega) y1 y2, tex_at (by omega) (by omega) y1 y2, texels_rd ink hj, show yi * W + (xi + 1) = yi * W + xi + 1 by omega, texels_rd ink hj1]
      generalize tx ink (yi * W + xi).toNat = p
      generalize tx ink (yi * W + xi + 1).toNat = q
      have e1 : p * (2 * 32 - 4 * t) = 4 * (p * (16 - t)) := by rw [show (2 : Int) * 32 - 4 * t = 4 * (16 - t) by omega, Int.mul_left_comm]
      have e2 : q * (4 * t) = 4 * (q * t) := Int.mul_left_comm _ _ _
      rw [e1, e2]
      omega
    have hA := at_calls (W := W) (H := H) (l := texels ink (W * H).toNat) (x := 32 * xi + 16 + 2 * t) (y := 32 * yi + 16) (d := 32) hW.1 (by omega) hH.1 (by omega) hlen (texels_bd ink _) (by omega) (by omega) (by omega) (by omega) (by omega) (by omega) rfl rfl
    rw [hv] at hA
    have hO := fun w => root_Of.calls 1000 (tx ink (yi * W + xi).toNat * (16 - t) + tx ink (yi * W + xi + 1).toNat * t) 16 _ _ _ w (of_f (by omega) (by omega) (by omega) (by omega) (by decide))
    have hS0 : 0 ≤ tx ink (yi * W + xi).toNat * (16 - t) + tx ink (yi * W + xi + 1).toNat * t := by omega
    have hg : Int.gcd (256 * (tx ink (yi * W + xi).toNat * (16 - t) + tx ink (yi * W + xi + 1).toNat * t)) (2 * 32 * (2 * 32)) = 256 * Int.gcd (tx ink (yi * W + xi).toNat * (16 - t) + tx ink (yi * W + xi + 1).toNat * t) 16 := by
      rw [show (2 : Int) * 32 * (2 * 32) = 256 * 16 from rfl, Int.gcd_mul_left]; rfl
    rw [hg] at hA
    have d1 : ∀ a g : Int, 0 < g → 256 * a / ((256 : Int) * g) = a / g := fun a g hg => Int.mul_ediv_mul_of_pos _ _ (by omega)
    have hgp : 0 < ((Int.gcd (tx ink (yi * W + xi).toNat * (16 - t) + tx ink (yi * W + xi + 1).toNat * t) 16 : Nat) : Int) := by
      have : 0 < Int.gcd (tx ink (yi * W + xi).toNat * (16 - t) + tx ink (yi * W + xi + 1).toNat * t) 16 := Int.gcd_pos_of_ne_zero_right _ (by omega)
      omega
    have e1 : ((256 * Int.gcd (tx ink (yi * W + xi).toNat * (16 - t) + tx ink (yi * W + xi + 1).toNat * t) 16 : Nat) : Int) = 256 * ((Int.gcd (tx ink (yi * W + xi).toNat * (16 - t) + tx ink (yi * W + xi + 1).toNat * t) 16 : Nat) : Int) := by omega
    rw [e1, d1 _ _ hgp, show (2 : Int) * 32 * (2 * 32) = 256 * 16 from rfl, d1 _ _ hgp] at hA
    refine linear op key aw ah ink y k W H (k / 16) (W - 1) xi yi t (yi * W) (yi * W + xi) (yi * W + xi + 1) (tx ink (yi * W + xi).toNat) (tx ink (yi * W + xi + 1).toNat) _ _ _ _ _ w hk.1 hk.2 hthin hdk rfl
      (by rw [IntKind.wrap_i64]; omega) (by rw [IntKind.wrap_u8]; omega) (by rw [IntKind.wrap_i64]; omega) ex (by omega) (by rw [IntKind.wrap_i64]; omega) ey (by omega) et t1 t2 x1 (by omega) y1 (by omega)
      (by rw [IntKind.wrap_i64]; omega) (by rw [IntKind.wrap_i64]; omega) (by rw [IntKind.wrap_i64]; omega) (by omega) (by omega) (by omega) (by omega) (texels_get ink hj) (texels_get ink hj1) (by rw [IntKind.wrap_i64]; omega) (by rw [IntKind.wrap_i64]; omega)
      (w64 (by omega) (by omega)) (w64 (by omega) (by omega)) P0 (by omega) Q0 (by omega) hA hO hS
end Go.Proofs.Ytignhpmfaodpjaa.WalkLinear
