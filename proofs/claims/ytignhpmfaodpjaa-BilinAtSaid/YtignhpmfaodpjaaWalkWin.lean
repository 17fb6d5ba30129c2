/- What punchcutlaw17.at tells: the window's sum through four times the square. Conditions: the field is right, the place near. -/
import Derived.Test.YtignhpmfaodpjaaWin
import Derived.Test.YtignhpmfaodpjaaBase
import Derived.Lib.Hide
import Derived.WalkSpells
namespace Go.Proofs.Ytignhpmfaodpjaa.WalkWin
open Go Go.RowKit Go.Lib Go.Proofs.YtignhpmfaodpjaaW.PrintWords Go.Proofs.YtignhpmfaodpjaaW.PrintLast Go.Proofs.YtignhpmfaodpjaaW.PrintMore Go.Proofs.Ytignhpmfaodpjaa.Core Go.Proofs.Ytignhpmfaodpjaa.PBilinFlat Go.Proofs.Ytignhpmfaodpjaa.Glue Go.Proofs.Ytignhpmfaodpjaa.Win Go.Proofs.Ytignhpmfaodpjaa.Base
set_option linter.unusedVariables false
set_option linter.unusedSimpArgs false
attribute [local go_sem ↓] Go.wp_at_zero Go.wp_at_succ
attribute [local go_sem] max2_int min2_int
theorem near (n m d md A B r : Int) (gd : Nat) (w : World) (hk : w.cell? ⟨gd, 0, none⟩ = some (.int .i64 d))
    (h1 : IntKind.i64.wrap (2 * d) = 2 * d) (h2 : IntKind.i64.wrap (2 * n) = 2 * n) (h3 : IntKind.i64.wrap (m * d) = md) (h4 : IntKind.i64.wrap (2 * n - md) = 2 * n - md) (h5 : IntKind.i64.wrap (md - 2 * n) = md - 2 * n)
    (hA : (if 2 * n - md < md - 2 * n then md - 2 * n else 2 * n - md) = A) (hB : wrap64 (2 * d - A) = B) (hr : (if 0 < B then B else 0) = r) :
    Calls Try.prog 20 #[.int .i64 n, .int .i64 m, .pointer (some ⟨gd, 0, none⟩)] w (Ret (.int .i64 r) w) := by
  have l0 : gd < w.heap.size := World.block_lt_of_cell? _ _ hk
  go_enter Try.func20, Try.ntmps20
  go_wp2_with fail
  go_ret
  exact ⟨rfl, Below.refl _ _⟩
theorem near_calls {x d i : Int} (hd : 1 ≤ d) (hd2 : d ≤ 256) (hx : -10000000 ≤ x) (hx2 : x ≤ 10000000) (hi : -10000000 ≤ i) (hi2 : i ≤ 10000000) (gd : Nat) (w : World) (hk : w.cell? ⟨gd, 0, none⟩ = some (.int .i64 d)) :
    Calls Try.prog 20 #[.int .i64 x, .int .i64 (2 * i + 1), .pointer (some ⟨gd, 0, none⟩)] w (Ret (.int .i64 (nr x d i)) w) := by
  have b1 : (2 * i + 1) * d ≤ 20000001 * 256 := by
    have e1 : (2 * i + 1) * d ≤ 20000001 * d := Int.mul_le_mul_of_nonneg_right (by omega) (by omega)
    omega
  have b2 : -20000001 * 256 ≤ (2 * i + 1) * d := by
    have e1 : -20000001 * d ≤ (2 * i + 1) * d := Int.mul_le_mul_of_nonneg_right (by omega) (by omega)
    omega
  have hn := nr_bd x d i (by omega)
  unfold nr at *
  generalize hmd : (2 * i + 1) * d = md at *
  have m1 := le_mx_left (2 * x - md) (md - 2 * x)
  have m2 : mx (2 * x - md) (md - 2 * x) ≤ 20000001 * 256 + 20000000 := mx_le (by omega) (by omega)
  refine near x (2 * i + 1) d md (mx (2 * x - md) (md - 2 * x)) (2 * d - mx (2 * x - md) (md - 2 * x)) _ gd w hk ?_ ?_ ?_ ?_ ?_ rfl (w64 (by omega) (by omega)) rfl
  · rw [IntKind.wrap_i64]; omega
  · rw [IntKind.wrap_i64]; omega
  · rw [hmd, IntKind.wrap_i64]; omega
  · rw [IntKind.wrap_i64]; omega
  · rw [IntKind.wrap_i64]; omega
theorem div_bd {x d : Int} (hd : 1 ≤ d) (hd2 : d ≤ 256) (h1 : -10000 ≤ x) (h2 : x ≤ 10000) : -10300 ≤ x / d ∧ x / d ≤ 10300 := by
  have e := Int.mul_ediv_add_emod x d
  have r1 := Int.emod_nonneg x (show d ≠ 0 by omega)
  have r2 := Int.emod_lt_of_pos x (show 0 < d by omega)
  rcases Int.le_total 0 (x / d) with c | c
  · have := Int.mul_le_mul_of_nonneg_right hd c
    omega
  · have := Int.mul_le_mul_of_nonpos_right hd c
    omega
theorem keepD {W : World} {a : Addr} {v : Value} (h : W.cell? a = some v) : W.drew.cell? a = some v := h
theorem iw {n : Int} (h1 : -9223372036854775808 ≤ n) (h2 : n < 9223372036854775808) : IntKind.i64.wrap n = n := by rw [IntKind.wrap_i64]; omega
def OutInv (W H x y d : Int) (l : List Int) (lx ly : Int) (wz : World) (s10 s15 : Value) (w' : World) : Prop :=
  ∃ r : Nat, r ≤ 5 ∧ s10 = .int .i64 (all W H l x y d lx ly r) ∧ s15 = .int .i64 (ly + r) ∧ Below wz.heap.size wz w'
def InInv (W H x y d : Int) (l : List Int) (lx k A : Int) (wz : World) (s10 s16 : Value) (w' : World) : Prop :=
  ∃ j : Nat, j ≤ 5 ∧ s10 = .int .i64 (A + line W H l x y d lx k j) ∧ s16 = .int .i64 (lx + j) ∧ Below wz.heap.size wz w'
set_option maxHeartbeats 2000000 in
theorem window (W H x y d num den : Int) (l : List Int) (g cap : Nat) (w : World) (hW : 1 ≤ W) (hW2 : W ≤ 64) (hH : 1 ≤ H) (hH2 : H ≤ 64) (hlen : (l.length : Int) = W * H) (hl : ∀ x ∈ l, 0 ≤ x ∧ x ≤ 255)
    (hd : 1 ≤ d) (hd2 : d ≤ 256) (hx : -10000 ≤ x) (hx2 : x ≤ 10000) (hy : -10000 ≤ y) (hy2 : y ≤ 10000)
    (hk : ∀ j, j < l.length → w.cell? ⟨g, j, none⟩ = some (.int .u8 (l.getD j 0)))
    (HFX : Hid (∀ w, Calls Try.prog 18 #[.int .i64 x, .int .i64 d] w (Ret (.int .i64 (x / d)) w)))
    (HFY : Hid (∀ w, Calls Try.prog 18 #[.int .i64 y, .int .i64 d] w (Ret (.int .i64 (y / d)) w)))
    (HO : Hid (∀ w, Calls Try.prog 16 #[.int .i64 (val W H l x y d), .int .i64 (2 * d * (2 * d))] w (Ret (.tuple #[.agg #[.int .i64 num, .int .i64 den], .int .i64 0]) w))) :
    Calls Try.prog 13 #[.agg #[.int .i64 W, .int .i64 H, .slice (some ⟨g, 0, none⟩) l.length cap], .int .i64 x, .int .i64 y, .int .i64 d] w (Ret (.agg #[.int .i64 num, .int .i64 den]) w) := by
  have hqx := div_bd hd hd2 hx hx2
  have hqy := div_bd hd hd2 hy hy2
  have n1 : IntKind.i64.wrap (x / d - 2) = x / d - 2 := iw (by omega) (by omega)
  have n2 : IntKind.i64.wrap (x / d + 2) = x / d + 2 := iw (by omega) (by omega)
  have n3 : IntKind.i64.wrap (y / d - 2) = y / d - 2 := iw (by omega) (by omega)
  have n4 : IntKind.i64.wrap (y / d + 2) = y / d + 2 := iw (by omega) (by omega)
  have hlL := Lib.hid hl
  have hkL := Lib.hid hk
  have hall := all_eq (W := W) (H := H) (l := l) (x := x) (y := y) hd
  clear hl hk
  go_enter Try.func13, Try.ntmps13
  go_wp2_with fail
  have k0 : (((w.alloc (.cells #[.int .i64 W, .int .i64 H, .slice (some ⟨g, 0, none⟩) l.length cap] 28)).alloc (.cells #[.int .i64 d] 3)).alloc (.cells #[.int .i64 0, .int .i64 0] 32)).cell? ⟨w.heap.size + 1, 0, none⟩ = some (.int .i64 d) := by go_simp
  have k1 : (((w.alloc (.cells #[.int .i64 W, .int .i64 H, .slice (some ⟨g, 0, none⟩) l.length cap] 28)).alloc (.cells #[.int .i64 d] 3)).alloc (.cells #[.int .i64 0, .int .i64 0] 32)).cell? ⟨w.heap.size, 0, none⟩ = some (.int .i64 W) := by go_simp
  have k2 : (((w.alloc (.cells #[.int .i64 W, .int .i64 H, .slice (some ⟨g, 0, none⟩) l.length cap] 28)).alloc (.cells #[.int .i64 d] 3)).alloc (.cells #[.int .i64 0, .int .i64 0] 32)).cell? ⟨w.heap.size, 1, none⟩ = some (.int .i64 H) := by go_simp
  have k3 : (((w.alloc (.cells #[.int .i64 W, .int .i64 H, .slice (some ⟨g, 0, none⟩) l.length cap] 28)).alloc (.cells #[.int .i64 d] 3)).alloc (.cells #[.int .i64 0, .int .i64 0] 32)).cell? ⟨w.heap.size, 2, none⟩ = some (.slice (some ⟨g, 0, none⟩) l.length cap) := by go_simp
  have k4 : (((w.alloc (.cells #[.int .i64 W, .int .i64 H, .slice (some ⟨g, 0, none⟩) l.length cap] 28)).alloc (.cells #[.int .i64 d] 3)).alloc (.cells #[.int .i64 0, .int .i64 0] 32)).cell? ⟨w.heap.size + 1 + 1, 0, none⟩ = some (.int .i64 0) := by go_simp
  have k5 : (((w.alloc (.cells #[.int .i64 W, .int .i64 H, .slice (some ⟨g, 0, none⟩) l.length cap] 28)).alloc (.cells #[.int .i64 d] 3)).alloc (.cells #[.int .i64 0, .int .i64 0] 32)).cell? ⟨w.heap.size + 1 + 1, 1, none⟩ = some (.int .i64 0) := by go_simp
  have k6 : (((w.alloc (.cells #[.int .i64 W, .int .i64 H, .slice (some ⟨g, 0, none⟩) l.length cap] 28)).alloc (.cells #[.int .i64 d] 3)).alloc (.cells #[.int .i64 0, .int .i64 0] 32)).frozen? ⟨w.heap.size + 1 + 1, 0, none⟩ = false := by go_simp
  have k7 : (((w.alloc (.cells #[.int .i64 W, .int .i64 H, .slice (some ⟨g, 0, none⟩) l.length cap] 28)).alloc (.cells #[.int .i64 d] 3)).alloc (.cells #[.int .i64 0, .int .i64 0] 32)).frozen? ⟨w.heap.size + 1 + 1, 1, none⟩ = false := by go_simp
  have hB : Below w.heap.size w (((w.alloc (.cells #[.int .i64 W, .int .i64 H, .slice (some ⟨g, 0, none⟩) l.length cap] 28)).alloc (.cells #[.int .i64 d] 3)).alloc (.cells #[.int .i64 0, .int .i64 0] 32)) := below_alloc (below_alloc (below_alloc (Below.refl _ _) _) _) _
  generalize (((w.alloc (.cells #[.int .i64 W, .int .i64 H, .slice (some ⟨g, 0, none⟩) l.length cap] 28)).alloc (.cells #[.int .i64 d] 3)).alloc (.cells #[.int .i64 0, .int .i64 0] 32)) = wb at *
  go_region_held3 (fun w' => w'.cell? ⟨w.heap.size + 1, 0, none⟩ = some (.int .i64 d))
    ((repeat' (first | with_reducible assumption | with_reducible refine keepD ?_ | (refine cell_later hbq ?_; assumption))))
    (first | (go_at_call 18; (refine (HFX.out _).mono ?_; rintro e t1 ⟨rfl, hbq⟩; have Bt1 : Below wb.heap.size wb t1 := below_step (by (repeat' (first | with_reducible assumption | with_reducible exact Below.refl _ _ | with_reducible refine below_drew1 ?_))) hbq)))
  go_upto_region 4 with fail
  have m0 := cell_later Bt1 k0
  go_region_held3 (fun w' => w'.cell? ⟨w.heap.size + 1, 0, none⟩ = some (.int .i64 d))
    ((repeat' (first | with_reducible assumption | with_reducible refine keepD ?_ | (refine cell_later hbq ?_; assumption))))
    (first | (go_at_call 18; (refine (HFY.out _).mono ?_; rintro e t2 ⟨rfl, hbq⟩; have Bt2 : Below wb.heap.size wb t2 := below_step (by (repeat' (first | with_reducible assumption | with_reducible exact Below.refl _ _ | with_reducible refine below_drew1 ?_))) hbq)))
  go_upto_region 5 with fail
  have z1 := cell_later Bt2 k1
  have z2 := cell_later Bt2 k2
  have z3 := cell_later Bt2 k3
  have z4 := cell_later Bt2 k4
  have z5 := cell_later Bt2 k5
  have lz : w.heap.size + 1 + 1 < wb.heap.size := World.block_lt_of_cell? _ _ k4
  have z6 := (Bt2.frozen (p := ⟨w.heap.size + 1 + 1, 0, none⟩) lz).trans k6
  have z7 := (Bt2.frozen (p := ⟨w.heap.size + 1 + 1, 1, none⟩) lz).trans k7
  have z0 := cell_later Bt2 k0
  have Bz : Below w.heap.size w t2 := below_step hB Bt2
  have hkz : Hid (∀ j, j < l.length → t2.cell? ⟨g, j, none⟩ = some (.int .u8 (l.getD j 0))) := fun j hj => cell_later Bz (hkL.out j hj)
  clear k0 k1 k2 k3 k4 k5 k6 k7 hB m0 Bt1 Bt2 lz hkL
  clear hbq
  have lz : w.heap.size + 1 + 1 < t2.heap.size := World.block_lt_of_cell? _ _ z4
  generalize hlx : x / d - 2 = lx at *
  generalize hly : y / d - 2 = ly at *
  have ex : x / d + 2 = lx + 4 := by omega
  have ey : y / d + 2 = ly + 4 := by omega
  rw [ex, ey]
  have bx : -10302 ≤ lx ∧ lx ≤ 10302 := by omega
  have bY : -10302 ≤ ly ∧ ly ≤ 10302 := by omega
  have hone : ∀ i k, 0 ≤ one W H l x y d i k ∧ one W H l x y d i k ≤ 66846720 := fun i k => (one_bd hlL.out hd hd2 i k).2.2
  have hline : ∀ k (j : Nat), 0 ≤ line W H l x y d lx k j ∧ line W H l x y d lx k j ≤ (j : Int) * 66846720 := fun k j => row_bd (fun i => hone i k) lx j
  have hallb : ∀ r : Nat, 0 ≤ all W H l x y d lx ly r ∧ all W H l x y d lx ly r ≤ (r : Int) * (5 * 66846720) := fun r => row_bd (fun k => hline k 5) ly r
  have HL := Lib.hid hline
  have HA := Lib.hid hallb
  have HO1 := Lib.hid hone
  clear hline hallb hone hqx hqy n1 n2 n3 n4 ex ey
  go_upto_region 6 with fail
  go_loopw [10, 15] (OutInv W H x y d l lx ly t2) (fun _ i _ => (ly + 5 - intOf i).toNat)
  case atStart => exact ⟨0, by omega, rfl, by rw [show ly + ((0 : Nat) : Int) = ly by omega], Below.refl _ _⟩
  case round =>
    obtain ⟨r, hr, rfl, rfl, hBr⟩ := hrel
    have e1 := cell_later hBr z1
    have e2 := cell_later hBr z2
    have e3 := cell_later hBr z3
    have e0 := cell_later hBr z0
    by_cases hr5 : r = 5
    · subst hr5
      rw [hall]
      have e4 := cell_later hBr z4
      have e5 := cell_later hBr z5
      have e6 := (hBr.frozen (p := ⟨w.heap.size + 1 + 1, 0, none⟩) lz).trans z6
      have e7 := (hBr.frozen (p := ⟨w.heap.size + 1 + 1, 1, none⟩) lz).trans z7
      have g0 : ¬ ly + ((5 : Nat) : Int) ≤ ly + 4 := by omega
      have g1 : IntKind.i64.wrap (4 * d) = 4 * d := iw (by omega) (by omega)
      have g3 : 4 * d * d = 2 * d * (2 * d) := by rw [show (4 : Int) = 2 * 2 by omega, Int.mul_assoc 2 2 d, Int.mul_assoc 2 (2 * d) d, Int.mul_assoc 2 d (2 * d), Int.mul_comm (2 * d) d]
      have g4 : 0 < d * d := Int.mul_pos (by omega) (by omega)
      have g5 : d * d ≤ 256 * 256 := Int.mul_le_mul hd2 hd2 (by omega) (by omega)
      have g6 : 4 * d * d = 4 * (d * d) := by rw [Int.mul_assoc]
      have g2 : IntKind.i64.wrap (4 * d * d) = 2 * d * (2 * d) := by rw [← g3]; exact iw (by omega) (by omega)
      clear g3 g4 g5 g6
      go_wp2_with (go_at_call 16; refine (HO.out _).mono ?_; rintro e wo ⟨rfl, hbo⟩; have x4 := cell_later hbo e4; have x5 := cell_later hbo e5; have lr : w.heap.size + 1 + 1 < wr.heap.size := World.block_lt_of_cell? _ _ e4; have x6 := (hbo.frozen (p := ⟨w.heap.size + 1 + 1, 0, none⟩) lr).trans e6; have x7 := (hbo.frozen (p := ⟨w.heap.size + 1 + 1, 1, none⟩) lr).trans e7; have lo : w.heap.size + 1 + 1 < wo.heap.size := World.block_lt_of_cell? _ _ x4)
      have Bo : Below w.heap.size w wo := below_step (below_step Bz hBr) hbo
      have y0 : (((wo.setCell ⟨w.heap.size + 1 + 1, 0, none⟩ (.int .i64 num)).setCell ⟨w.heap.size + 1 + 1, 1, none⟩ (.int .i64 den)).alloc (.cells #[.int .i64 num, .int .i64 den] 32)).cell? ⟨w.heap.size + 1 + 1, 0, none⟩ = some (.int .i64 num) := by go_simp
      have y1 : (((wo.setCell ⟨w.heap.size + 1 + 1, 0, none⟩ (.int .i64 num)).setCell ⟨w.heap.size + 1 + 1, 1, none⟩ (.int .i64 den)).alloc (.cells #[.int .i64 num, .int .i64 den] 32)).cell? ⟨w.heap.size + 1 + 1, 1, none⟩ = some (.int .i64 den) := by go_simp
      exact bodyPost_ret (v := .agg #[.int .i64 num, .int .i64 den]) (by simp [results, Try.results13, go_sem, y0, y1]) rfl ⟨rfl, below_alloc (below_set (below_set Bo (by omega)) (by omega)) _⟩
    · have q1 : ly + (r : Int) ≤ ly + 4 := by omega
      have hA := HA.out r
      go_upto_region 9 with fail
      generalize hk : ly + (r : Int) = k at *
      generalize hAr : all W H l x y d lx ly r = A at *
      go_loopw [10, 16] (InInv W H x y d l lx k A t2) (fun _ i _ => (lx + 5 - intOf i).toNat)
      case atStart => exact ⟨0, by omega, by rw [show A + line W H l x y d lx k 0 = A from Int.add_zero A], by rw [show lx + ((0 : Nat) : Int) = lx by omega], hBr⟩
      case round =>
        obtain ⟨j, hj, rfl, rfl, hBj⟩ := hrel
        by_cases hj5 : j = 5
        · subst hj5
          have g0 : ¬ lx + ((5 : Nat) : Int) ≤ lx + 4 := by omega
          have g1 : IntKind.i64.wrap (k + 1) = k + 1 := iw (by omega) (by omega)
          go_wp2_with fail
          refine ⟨⟨r + 1, by omega, ?_, by congr 1; omega, hBj⟩, by simp [intOf]; omega⟩
          rw [← hk, ← hAr]; rfl
        · have q2 : lx + (j : Int) ≤ lx + 4 := by omega
          have d1 := cell_later hBj z1
          have d2 := cell_later hBj z2
          have d3 := cell_later hBj z3
          have d0 := cell_later hBj z0
          have hline := HL.out k j
          have hnext : A + line W H l x y d lx k (j + 1) = A + line W H l x y d lx k j + one W H l x y d (lx + (j : Int)) k := by
            show A + (line W H l x y d lx k j + one W H l x y d (lx + (j : Int)) k) = _; omega
          have ho := one_bd (W := W) (H := H) (x := x) (y := y) hlL.out hd hd2 (lx + (j : Int)) k
          have ht := tex_bd (W := W) (H := H) hlL.out (lx + (j : Int)) k
          have hi := index_bd (i := lx + (j : Int)) (k := k) hW hW2 hH hH2
          have hcl := clamp_bd (i := lx + (j : Int)) hW
          have hck := clamp_bd (i := k) hH
          have hc : H * W = W * H := Int.mul_comm _ _
          have NX := Lib.hid fun (wn : World) (hh : wn.cell? ⟨w.heap.size + 1, 0, none⟩ = some (.int .i64 d)) => near_calls (x := x) (i := lx + (j : Int)) hd hd2 (by omega) (by omega) (by omega) (by omega) (w.heap.size + 1) wn hh
          have NY := Lib.hid fun (wn : World) (hh : wn.cell? ⟨w.heap.size + 1, 0, none⟩ = some (.int .i64 d)) => near_calls (x := y) (i := k) hd hd2 (by omega) (by omega) (by omega) (by omega) (w.heap.size + 1) wn hh
          unfold one at ho hnext
          generalize hSj : A + line W H l x y d lx k j = Sj at *
          generalize hii : lx + (j : Int) = i at *
          unfold tex at ho ht hnext
          have p1 : IntKind.i64.wrap (H - 1) = H - 1 := iw (by omega) (by omega)
          have p2 : IntKind.i64.wrap (W - 1) = W - 1 := iw (by omega) (by omega)
          generalize hmk : mn (H - 1) k = mk at *
          generalize hmi : mn (W - 1) i = mi at *
          generalize hK : mx 0 mk = K at *
          generalize hI : mx 0 mi = I at *
          have p7 : IntKind.i64.wrap (K * W) = K * W := iw (by omega) (by omega)
          have p8 : IntKind.i64.wrap (K * W + I) = K * W + I := iw (by omega) (by omega)
          generalize hKW : K * W = KW at *
          have p9 : 0 ≤ KW + I := hi.2.2.1
          have p10 : KW + I < W * H := by omega
          have c1 : wr.cell? ⟨g, (KW + I).toNat, none⟩ = some (.int .u8 (rd l (KW + I))) := by
            refine cell_later hBj ?_
            exact hkz.out (KW + I).toNat (by omega)
          generalize rd l (KW + I) = T at *
          have p11 : IntKind.i64.wrap T = T := iw (by omega) (by omega)
          have p12 : IntKind.i64.wrap (2 * i) = 2 * i := iw (by omega) (by omega)
          have p13 : IntKind.i64.wrap (2 * i + 1) = 2 * i + 1 := iw (by omega) (by omega)
          have p14 : IntKind.i64.wrap (2 * k) = 2 * k := iw (by omega) (by omega)
          have p15 : IntKind.i64.wrap (2 * k + 1) = 2 * k + 1 := iw (by omega) (by omega)
          have p16 : IntKind.i64.wrap (T * nr x d i) = T * nr x d i := iw (by omega) (by omega)
          have p17 : IntKind.i64.wrap (T * nr x d i * nr y d k) = T * nr x d i * nr y d k := iw (by omega) (by omega)
          have p18 : IntKind.i64.wrap (Sj + T * nr x d i * nr y d k) = Sj + T * nr x d i * nr y d k := iw (by omega) (by omega)
          have p19 : IntKind.i64.wrap (i + 1) = i + 1 := iw (by omega) (by omega)
          have p3 : (if k < H - 1 then k else H - 1) = mk := hmk
          have p4 : (if i < W - 1 then i else W - 1) = mi := hmi
          have p5 : (if 0 < mk then mk else 0) = K := hK
          have p6 : (if 0 < mi then mi else 0) = I := hI
          clear hmk hmi hK hI hc hcl hck
          go_wp2_with (first
            | (go_at_call 20; with_reducible refine (NX.out _ (by assumption)).mono ?_; rintro e n1 ⟨rfl, hn1⟩; have b0 := cell_later hn1 d0)
            | (go_at_call 20; with_reducible refine (NY.out _ (by assumption)).mono ?_; rintro e n2 ⟨rfl, hn2⟩))
          refine ⟨⟨j + 1, by omega, ?_, ?_, ?_⟩, ?_⟩
          · rw [hnext]
          · congr 1; omega
          · exact below_step (below_step hBj hn1) hn2
          · simp only [intOf]; omega
/-- what the window tells is what bilin.At tells -/
theorem win_calls {W H : Int} {l : List Int} (hW : 1 ≤ W) (hW2 : W ≤ 64) (hH : 1 ≤ H) (hH2 : H ≤ 64) (hlen : (l.length : Int) = W * H) (hl : ∀ x ∈ l, 0 ≤ x ∧ x ≤ 255)
    {x y d : Int} (hd : 1 ≤ d) (hd2 : d ≤ 256) (hx : -10000 ≤ x) (hx2 : x ≤ 10000) (hy : -10000 ≤ y) (hy2 : y ≤ 10000) {num den : Int}
    (e1 : val W H l x y d / (Int.gcd (val W H l x y d) (2 * d * (2 * d)) : Nat) = num) (e2 : 2 * d * (2 * d) / (Int.gcd (val W H l x y d) (2 * d * (2 * d)) : Nat) = den)
    (w : World) (g cap : Nat) (hk : ∀ j, j < l.length → w.cell? ⟨g, j, none⟩ = some (.int .u8 (l.getD j 0))) :
    Calls Try.prog 13 #[.agg #[.int .i64 W, .int .i64 H, .slice (some ⟨g, 0, none⟩) l.length cap], .int .i64 x, .int .i64 y, .int .i64 d] w (Ret (.agg #[.int .i64 num, .int .i64 den]) w) := by
  have hv := val_bd (W := W) (H := H) (l := l) (x := x) (y := y) (d := d) (m := 0) (M := 255) hd (fun i k => tex_bd hl i k)
  have hdd0 : 0 < 2 * d * (2 * d) := Int.mul_pos (by omega) (by omega)
  have hdd : 2 * d * (2 * d) ≤ 512 * 512 := Int.mul_le_mul (by omega) (by omega) (by omega) (by omega)
  subst e1 e2
  refine window W H x y d _ _ l g cap w hW hW2 hH hH2 hlen hl hd hd2 hx hx2 hy hy2 hk (hid fun w => (root_Floor.calls x d _ w (floor_f (by omega) (by omega) hd)).mono fun e w2 ⟨h1, h2⟩ => ⟨h1, h2.below⟩) (hid fun w => (root_Floor.calls y d _ w (floor_f (by omega) (by omega) hd)).mono fun e w2 ⟨h1, h2⟩ => ⟨h1, h2.below⟩) (hid fun w => ?_)
  exact root_Of.calls ((2 * d * (2 * d)).toNat + 2) _ _ _ _ _ w (of_f (by omega) (by omega) (by omega) (by omega) (Nat.le_refl _))
end Go.Proofs.Ytignhpmfaodpjaa.WalkWin
