/- FramePlace: where a pixel's middle is is what the document says, and moves with the pen. Conditions: none. -/
import Derived.Test.YtfbnaicnmkkohaaWalkPlace
namespace Go.Proofs.Ytfbnaicnmkkohaa.PlaceAll
open Go Go.RowKit Go.Lib Go.Proofs.YtfbnaicnmkkohaaW.PrintWords Go.Proofs.YtfbnaicnmkkohaaW.PrintLast Go.Proofs.YtfbnaicnmkkohaaW.PrintMore Go.Proofs.Ytfbnaicnmkkohaa.Core Go.Proofs.Ytfbnaicnmkkohaa.PFramePlace Go.Proofs.Ytfbnaicnmkkohaa.Repeat Go.Proofs.Ytfbnaicnmkkohaa.Draw
set_option linter.unusedVariables false
set_option linter.unusedSimpArgs false
theorem pen_f {t0 t1 t2 t3 t4 t5 t6 : Int} (h0 : 0 ≤ t0) (k0 : t0 ≤ 255) (h1 : 0 ≤ t1) (k1 : t1 ≤ 255) (h2 : 0 ≤ t2) (k2 : t2 ≤ 255) (h3 : 0 ≤ t3) (k3 : t3 ≤ 255) :
    ∃ LO HI, punchcutlaw19_Tip_Pen.f t0 t1 t2 t3 t4 t5 t6 = some (t0 % 40 - 12, t1 % 40 - 12, 1 + t2 % 64, 1 + t3 % 64, LO, HI, t6) := by
  unfold punchcutlaw19_Tip_Pen.f
  rw [Int.tmod_eq_emod_of_nonneg h0, Int.tmod_eq_emod_of_nonneg h1, Int.tmod_eq_emod_of_nonneg h2, Int.tmod_eq_emod_of_nonneg h3,
    w64 (n := t0 % 40) (by omega) (by omega), w64 (n := t1 % 40) (by omega) (by omega), w64 (n := t2 % 64) (by omega) (by omega), w64 (n := t3 % 64) (by omega) (by omega),
    w64 (n := t0 % 40 - 12) (by omega) (by omega), w64 (n := t1 % 40 - 12) (by omega) (by omega), w64 (n := 1 + t2 % 64) (by omega) (by omega), w64 (n := 1 + t3 % 64) (by omega) (by omega)]
  split
  · exact ⟨_, _, rfl⟩
  · exact ⟨_, _, rfl⟩
theorem off_bd {a R : Int} (h1 : -1000 ≤ a) (h2 : a ≤ 1000) (hR : 1 ≤ R) (hR2 : R ≤ 64) : -64000 ≤ a * R ∧ a * R ≤ 64000 := by
  have e1 : a * R ≤ 1000 * R := Int.mul_le_mul_of_nonneg_right (by omega) (by omega)
  have e2 : -1000 * R ≤ a * R := Int.mul_le_mul_of_nonneg_right (by omega) (by omega)
  omega
theorem place_f {PX PY RN RD LO HI INK x y : Int} (h1 : -100 ≤ PX) (h2 : PX ≤ 100) (h3 : -100 ≤ PY) (h4 : PY ≤ 100) (hN : 1 ≤ RN) (hN2 : RN ≤ 64) (hR : 1 ≤ RD) (hR2 : RD ≤ 64) (hx : -200 ≤ x) (hx2 : x ≤ 200) (hy : -200 ≤ y) (hy2 : y ≤ 200) :
    frame_Place.f PX PY RN RD LO HI INK x y = some ((2 * (x - PX) + 1) * RD, (2 * (y - PY) + 1) * RD, 2 * RN) := by
  unfold frame_Place.f
  have b1 := off_bd (a := 2 * (x - PX) + 1) (by omega) (by omega) hR hR2
  have b2 := off_bd (a := 2 * (y - PY) + 1) (by omega) (by omega) hR hR2
  rw [w64 (n := x - PX) (by omega) (by omega), w64 (n := y - PY) (by omega) (by omega), w64 (n := 2 * (x - PX)) (by omega) (by omega), w64 (n := 2 * (y - PY)) (by omega) (by omega), w64 (n := 2 * (x - PX) + 1) (by omega) (by omega), w64 (n := 2 * (y - PY) + 1) (by omega) (by omega), w64 (n := (2 * (x - PX) + 1) * RD) (by omega) (by omega), w64 (n := (2 * (y - PY) + 1) * RD) (by omega) (by omega), w64 (n := 2 * RN) (by omega) (by omega)]
theorem walk (t0 t1 t2 t3 t4 t5 t6 x y : Int) (w : World) (v0 : (Lit.int .u8 t0).wf = true) (v1 : (Lit.int .u8 t1).wf = true) (v2 : (Lit.int .u8 t2).wf = true) (v3 : (Lit.int .u8 t3).wf = true) (v4 : (Lit.int .u8 t4).wf = true) (v5 : (Lit.int .u8 t5).wf = true) (v6 : (Lit.int .u8 t6).wf = true) (v7 : (Lit.int .i8 x).wf = true) (v8 : (Lit.int .i8 y).wf = true) :
    Calls Try.prog 6 #[.agg #[.int .u8 t0, .int .u8 t1, .int .u8 t2, .int .u8 t3, .int .u8 t4, .int .u8 t5, .int .u8 t6], .int .i8 x, .int .i8 y] w fun e w' => e = .returned (.bool true) ∧ Below w.heap.size w w' := by
  have a0 := bounds_u8 v0
  have a1 := bounds_u8 v1
  have a2 := bounds_u8 v2
  have a3 := bounds_u8 v3
  have hx := bounds_i8 v7
  have hy := bounds_i8 v8
  obtain ⟨LO, HI, hp⟩ := pen_f (t4 := t4) (t5 := t5) (t6 := t6) a0.1 a0.2 a1.1 a1.2 a2.1 a2.2 a3.1 a3.2
  have hT := fun w => punchcutlaw19_Tip_Pen.calls _ _ _ _ _ _ _ _ _ _ _ _ _ _ w hp
  have c0 : -12 ≤ t0 % 40 - 12 ∧ t0 % 40 - 12 ≤ 27 := by omega
  have c1 : -12 ≤ t1 % 40 - 12 ∧ t1 % 40 - 12 ≤ 27 := by omega
  have c2 : 1 ≤ 1 + t2 % 64 ∧ 1 + t2 % 64 ≤ 64 := by omega
  have c3 : 1 ≤ 1 + t3 % 64 ∧ 1 + t3 % 64 ≤ 64 := by omega
  generalize t0 % 40 - 12 = PX at *
  generalize t1 % 40 - 12 = PY at *
  generalize 1 + t2 % 64 = RN at *
  generalize 1 + t3 % 64 = RD at *
  have b1 := off_bd (a := 2 * (x - PX) + 1) (by omega) (by omega) c3.1 c3.2
  have b2 := off_bd (a := 2 * (y - PY) + 1) (by omega) (by omega) c3.1 c3.2
  have hP := fun w => frame_Place.calls PX PY RN RD LO HI t6 x y _ _ _ w (place_f (by omega) (by omega) (by omega) (by omega) c2.1 c2.2 c3.1 c3.2 (by omega) (by omega) (by omega) (by omega))
  have hQ := fun w => frame_Place.calls (PX + 3) (PY - 5) RN RD LO HI t6 (x + 3) (y - 5) _ _ _ w (place_f (by omega) (by omega) (by omega) (by omega) c2.1 c2.2 c3.1 c3.2 (by omega) (by omega) (by omega) (by omega))
  rw [show x + 3 - (PX + 3) = x - PX by omega, show y - 5 - (PY - 5) = y - PY by omega] at hQ
  exact WalkPlace.place t0 t1 t2 t3 t4 t5 t6 x y PX PY RN RD LO HI t6 (PX + 3) (PY - 5) (x + 3) (y - 5) _ _ _ w (iw (by omega) (by omega)) (iw (by omega) (by omega)) (iw (by omega) (by omega)) (iw (by omega) (by omega)) (iw (by omega) (by omega)) (iw (by omega) (by omega))
    (iw (by omega) (by omega)) (iw (by omega) (by omega)) (iw (by omega) (by omega)) (iw (by omega) (by omega)) (iw (by omega) (by omega)) (iw (by omega) (by omega)) (iw (by omega) (by omega)) (iw (by omega) (by omega)) (iw (by omega) (by omega)) (hid hT) (hid hP) (hid hQ)
end Go.Proofs.Ytfbnaicnmkkohaa.PlaceAll
