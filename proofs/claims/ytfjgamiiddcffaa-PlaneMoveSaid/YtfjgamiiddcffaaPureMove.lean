/- PlaneMove: distances stay when all is moved. Conditions: none. -/
import Derived.Test.YtfjgamiiddcffaaWalkMove
import Derived.Test.YtfjgamiiddcffaaWalkTurn
namespace Go.Proofs.Ytfjgamiiddcffaa.PureMove
open Go Go.RowKit Go.Lib Go.Proofs.YtfjgamiiddcffaaW.PrintWords Go.Proofs.YtfjgamiiddcffaaW.PrintLast Go.Proofs.YtfjgamiiddcffaaW.PrintMore Go.Proofs.Ytfjgamiiddcffaa.PPlaneZero Go.Proofs.Ytfjgamiiddcffaa.WalkSquare Go.Proofs.Ytfjgamiiddcffaa.Plane Go.Proofs.Ytfjgamiiddcffaa.Core Go.Proofs.Ytfjgamiiddcffaa.WalkTurn
set_option linter.unusedVariables false
set_option linter.unusedSimpArgs false
theorem td {e n : Int} (h : In (2 * n) e) : In n (Int.tdiv e 2) := by
  unfold In at *
  rcases Int.le_total 0 e with h0 | h0
  · rw [Int.tdiv_eq_ediv_of_nonneg h0]; omega
  · have e1 : e = -(-e) := by omega
    rw [e1, Int.neg_tdiv, Int.tdiv_eq_ediv_of_nonneg (by omega)]; omega
/-- the side on which a point is -/
def sd (wx wy tx ty : Int) : Int := if wx * ty - wy * tx > 0 then 1 else if wx * ty - wy * tx < 0 then -1 else 0
theorem side_calls {ax ay bx bY px py : Int} (hax : In 8192 ax) (hay : In 8192 ay) (hbx : In 8192 bx) (hbY : In 8192 bY) (hpx : In 32768 px) (hpy : In 32768 py) (w : World) :
    Calls Try.prog 15 #[.agg #[.int .i64 ax, .int .i64 ay, .int .i64 bx, .int .i64 bY], .agg #[.int .i64 px, .int .i64 py]] w (Ret (.int .i64 (sd (bx - ax) (bY - ay) (px - ax) (py - ay))) w) := by
  refine plane_Side.calls _ _ _ _ _ _ _ w ?_
  have s1 := sub_f (a := bx) (b := bY) (c := ax) (d := ay) (by unfold In at *; omega) (by unfold In at *; omega) (by unfold In at *; omega) (by unfold In at *; omega)
  have s2 := sub_f (a := px) (b := py) (c := ax) (d := ay) (by unfold In at *; omega) (by unfold In at *; omega) (by unfold In at *; omega) (by unfold In at *; omega)
  unfold plane_Side.f
  rw [s1, s2]
  simp only [Option.bind_some]
  rw [cross_f (by unfold In at *; omega) (by unfold In at *; omega) (by unfold In at *; omega) (by unfold In at *; omega)]
  simp only [Option.bind_some]
  unfold sd
  split
  · rfl
  · split <;> rfl
theorem i8b {n : Int} (h : (Lit.int .i8 n).wf = true) : In 128 n := by
  have := bounds_i8 h; unfold In; omega
theorem walk (a0 a1 b0 b1 p0 p1 dx dy : Int) (W : World) (wa0 : (Lit.int .i16 a0).wf = true) (wa1 : (Lit.int .i16 a1).wf = true) (wb0 : (Lit.int .i16 b0).wf = true) (wb1 : (Lit.int .i16 b1).wf = true) (wp0 : (Lit.int .i16 p0).wf = true) (wp1 : (Lit.int .i16 p1).wf = true) (wx : (Lit.int .i8 dx).wf = true) (wy : (Lit.int .i8 dy).wf = true) :
    Calls Try.prog 4 #[.agg #[.int .i16 a0, .int .i16 a1], .agg #[.int .i16 b0, .int .i16 b1], .agg #[.int .i16 p0, .int .i16 p1], .int .i8 dx, .int .i8 dy] W fun e w' => e = .returned (.bool true) ∧ Below W.heap.size W w' := by
  have ia0 := i16b wa0
  have ia1 := i16b wa1
  have ib0 := i16b wb0
  have ib1 := i16b wb1
  have ip0 := i16b wp0
  have ip1 := i16b wp1
  have ix := i8b wx
  have iy := i8b wy
  have t0 := @tm a0
  have t1 := @tm a1
  have t2 := @tm b0
  have t3 := @tm b1
  have hE := fun w => punchcutlaw03_Edge.calls _ _ _ _ _ _ _ _ w (edge_f ia0 ia1 ib0 ib1)
  generalize Int.tmod a0 8193 = e1 at *
  generalize Int.tmod a1 8193 = e2 at *
  generalize Int.tmod b0 8193 = e3 at *
  generalize Int.tmod b1 8193 = e4 at *
  have d0 : In 4096 (Int.tdiv e1 2) := td t0
  have d1 : In 4096 (Int.tdiv e2 2) := td t1
  have d2 : In 4096 (Int.tdiv e3 2) := td t2
  have d3 : In 4096 (Int.tdiv e4 2) := td t3
  have d4 : In 16384 (Int.tdiv p0 2) := td ip0
  have d5 : In 16384 (Int.tdiv p1 2) := td ip1
  have w0 : ∀ {n : Int}, In 32768 n → IntKind.i64.wrap n = n := fun h => iw (by unfold In at h; omega) (by unfold In at h; omega)
  have hM : ∀ {x y : Int}, In 16384 (Int.tdiv x 2) → In 16384 (Int.tdiv y 2) → ∀ (gx gy : Nat) (w : World), w.cell? ⟨gx, 0, none⟩ = some (.int .i8 dx) → w.cell? ⟨gy, 0, none⟩ = some (.int .i8 dy) →
      Calls Try.prog 12 #[.agg #[.int .i64 x, .int .i64 y], .pointer (some ⟨gx, 0, none⟩), .pointer (some ⟨gy, 0, none⟩)] w (Ret (.agg #[.int .i64 (Int.tdiv x 2 + dx), .int .i64 (Int.tdiv y 2 + dy)]) w) := fun hx hy gx gy w k0 k1 =>
    WalkMove.moved _ _ _ _ dx dy _ _ gx gy (w0 (by unfold In at *; omega)) (w0 (by unfold In at *; omega)) (w0 (by unfold In at *; omega)) (w0 (by unfold In at *; omega)) (w0 (by unfold In at *; omega)) (w0 (by unfold In at *; omega)) w k0 k1
  have hN : ∀ {x y : Int}, In 16384 (Int.tdiv x 2) → In 16384 (Int.tdiv y 2) → ∀ w : World, Calls Try.prog 13 #[.agg #[.int .i64 x, .int .i64 y]] w (Ret (.agg #[.int .i64 (Int.tdiv x 2), .int .i64 (Int.tdiv y 2)]) w) := fun hx hy w =>
    WalkMove.half _ _ _ _ (w0 (by unfold In at *; omega)) (w0 (by unfold In at *; omega)) w
  have big : ∀ {n a : Int}, n ≤ 16384 → In n a → In 16384 a := by intro n a h h2; unfold In at *; omega
  have hM1 := hM (big (by omega) d0) (big (by omega) d1)
  have hM2 := hM (big (by omega) d2) (big (by omega) d3)
  have hM3 := hM d4 d5
  have hN1 := hN (big (by omega) d0) (big (by omega) d1)
  have hN2 := hN (big (by omega) d2) (big (by omega) d3)
  have hN3 := hN d4 d5
  clear hM hN
  generalize Int.tdiv e1 2 = h1 at *
  generalize Int.tdiv e2 2 = h2 at *
  generalize Int.tdiv e3 2 = h3 at *
  generalize Int.tdiv e4 2 = h4 at *
  generalize Int.tdiv p0 2 = z1 at *
  generalize Int.tdiv p1 2 = z2 at *
  have eS : sq (h1 + dx) (h2 + dy) (h3 + dx) (h4 + dy) (z1 + dx) (z2 + dy) = sq h1 h2 h3 h4 z1 z2 := by
    unfold sq; congr 1 <;> omega
  have eL : ln (h1 + dx) (h2 + dy) (h3 + dx) (h4 + dy) (z1 + dx) (z2 + dy) = ln h1 h2 h3 h4 z1 z2 := by
    unfold ln; congr 1 <;> omega
  have q1 := fun w => sq_calls (ax := h1 + dx) (ay := h2 + dy) (bx := h3 + dx) (bY := h4 + dy) (px := z1 + dx) (py := z2 + dy) (by unfold In at *; omega) (by unfold In at *; omega) (by unfold In at *; omega) (by unfold In at *; omega) (by unfold In at *; omega) (by unfold In at *; omega) w
  have q2 := fun w => sq_calls (ax := h1) (ay := h2) (bx := h3) (bY := h4) (px := z1) (py := z2) (by unfold In at *; omega) (by unfold In at *; omega) (by unfold In at *; omega) (by unfold In at *; omega) (by unfold In at *; omega) (by unfold In at *; omega) w
  have l1 := fun w => ln_calls (ax := h1 + dx) (ay := h2 + dy) (bx := h3 + dx) (bY := h4 + dy) (px := z1 + dx) (py := z2 + dy) (by unfold In at *; omega) (by unfold In at *; omega) (by unfold In at *; omega) (by unfold In at *; omega) (by unfold In at *; omega) (by unfold In at *; omega) w
  have l2 := fun w => ln_calls (ax := h1) (ay := h2) (bx := h3) (bY := h4) (px := z1) (py := z2) (by unfold In at *; omega) (by unfold In at *; omega) (by unfold In at *; omega) (by unfold In at *; omega) (by unfold In at *; omega) (by unfold In at *; omega) w
  have c1 := fun w => side_calls (ax := h1 + dx) (ay := h2 + dy) (bx := h3 + dx) (bY := h4 + dy) (px := z1 + dx) (py := z2 + dy) (by unfold In at *; omega) (by unfold In at *; omega) (by unfold In at *; omega) (by unfold In at *; omega) (by unfold In at *; omega) (by unfold In at *; omega) w
  have c2 := fun w => side_calls (ax := h1) (ay := h2) (bx := h3) (bY := h4) (px := z1) (py := z2) (by unfold In at *; omega) (by unfold In at *; omega) (by unfold In at *; omega) (by unfold In at *; omega) (by unfold In at *; omega) (by unfold In at *; omega) w
  rw [eS] at q1
  rw [eL] at l1
  rw [show h3 + dx - (h1 + dx) = h3 - h1 by omega, show h4 + dy - (h2 + dy) = h4 - h2 by omega, show z1 + dx - (h1 + dx) = z1 - h1 by omega, show z2 + dy - (h2 + dy) = z2 - h2 by omega] at c1
  exact WalkMove.move a0 a1 b0 b1 p0 p1 dx dy e1 e2 e3 e4 p0 p1 _ _ _ _ _ _ h1 h2 h3 h4 z1 z2 _ _ _ _ _ W (hid hE) (hid fun w => point _ _ (w0 ip0) (w0 ip1) w)
    (hid fun w k0 k1 => hM1 _ _ w k0 k1) (hid fun w k0 k1 => hM2 _ _ w k0 k1) (hid fun w k0 k1 => hM3 _ _ w k0 k1) (hid hN1) (hid hN2) (hid hN3) (hid q1) (hid q2) (hid l1) (hid l2) (hid c1) (hid c2)
end Go.Proofs.Ytfjgamiiddcffaa.PureMove
