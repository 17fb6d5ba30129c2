/- Parts of FrameDraw: two fields that are the same; a pixel is a byte; what an act and a tip bring. Conditions: as each states. -/
import Derived.Test.YtfbnaicnmkkohaaWalkOut
import Derived.Test.YtfbnaicnmkkohaaDraw16
import Derived.Test.YtfbnaicnmkkohaaPen
import Derived.Test.YtfbnaicnmkkohaaOneAll
import Derived.Test.YtfbnaicnmkkohaaFullAll
namespace Go.Proofs.Ytfbnaicnmkkohaa.Parts
open Go Go.RowKit Go.Lib Go.Proofs.YtfbnaicnmkkohaaW.PrintWords Go.Proofs.YtfbnaicnmkkohaaW.PrintLast Go.Proofs.YtfbnaicnmkkohaaW.PrintMore Go.Proofs.Ytfbnaicnmkkohaa.Core Go.Proofs.Ytfbnaicnmkkohaa.PFramePlace Go.Proofs.Ytfbnaicnmkkohaa.Repeat Go.Proofs.Ytfbnaicnmkkohaa.Frames Go.Proofs.Ytfbnaicnmkkohaa.Draw Go.Proofs.Ytfbnaicnmkkohaa.Drawn Go.Proofs.Ytfbnaicnmkkohaa.Awake Go.Proofs.Ytfbnaicnmkkohaa.Two Go.Proofs.Ytfbnaicnmkkohaa.Glue Go.Proofs.Ytfbnaicnmkkohaa.WalkFull Go.Proofs.Ytfbnaicnmkkohaa.Draw16 Go.Proofs.Ytfbnaicnmkkohaa.WalkField Go.Proofs.Ytfbnaicnmkkohaa.OneAll
set_option linter.unusedVariables false
set_option linter.unusedSimpArgs false
attribute [local go_sem ↓] Go.wp_at_zero Go.wp_at_succ
set_option maxHeartbeats 2000000 in
theorem same (W H : Int) (l : List Int) (B1 g1 c1 B2 g2 c2 : Nat) (w : World) (h1 : Row w B1 g1 c1 l) (h2 : Row w B2 g2 c2 l) :
    Calls Try.prog 11 #[.agg #[.int .i64 W, .int .i64 H, .slice (some ⟨g1, 0, none⟩) l.length c1], .agg #[.int .i64 W, .int .i64 H, .slice (some ⟨g2, 0, none⟩) l.length c2]] w (Ret (.bool true) w) := by
  have v1 := fun o o' => WalkOut.conv (row_alloc (o := o') (row_alloc (o := o) h1))
  have v2 := fun o o' => WalkOut.conv (row_alloc (o := o') (row_alloc (o := o) h2))
  generalize strOfNums l = st at *
  clear h1 h2
  go_enter Try.func11, Try.ntmps11
  go_wp2_with fail
  go_ret
  exact ⟨rfl, below_alloc (below_alloc (Below.refl _ _) _) _⟩
theorem frac_bd {AW AH : Int} {al : List Int} {u v den : Int} (hal : ∀ z ∈ al, 0 ≤ z ∧ z ≤ 255) (hd : 1 ≤ den) (hd2 : den ≤ 128) :
    1 ≤ (frac AW AH al u v den).2 ∧ (frac AW AH al u v den).2 ≤ 1099511627776 ∧ 0 ≤ (frac AW AH al u v den).1 ∧ (frac AW AH al u v den).1 ≤ 1099511627776 := by
  have hv := val_bd (W := AW) (H := AH) (l := al) (x := u) (y := v) (d := den) (m := 0) (M := 255) (by omega) (fun i k => tex_bd hal i k)
  have d0 : 0 < 2 * den * (2 * den) := Int.mul_pos (by omega) (by omega)
  have d1 : 2 * den * (2 * den) ≤ 256 * 256 := Int.mul_le_mul (by omega) (by omega) (by omega) (by omega)
  obtain ⟨p1, p2, p3, p4, p5, p6, p7⟩ := of_parts (n := val AW AH al u v den) (d := 2 * den * (2 * den)) (by omega) (by omega)
  exact ⟨p6, by show _ ≤ _; unfold frac; omega, p4, by show _ ≤ _; unfold frac; omega⟩
theorem col_bd {AW AH : Int} {al : List Int} {LO HI INK u v den old : Int} (hal : ∀ z ∈ al, 0 ≤ z ∧ z ≤ 255) (hd : 1 ≤ den) (hd2 : den ≤ 128) (hLH : LO < HI) (hI : 0 ≤ INK) (hI2 : INK ≤ 255) (ho : 0 ≤ old ∧ old ≤ 255) :
    0 ≤ col AW AH al LO HI INK u v den old ∧ col AW AH al LO HI INK u v den old ≤ 255 := by
  unfold col
  split
  · exact ho
  · have hc := cov_bd (n := (frac AW AH al u v den).1) (lo := LO) (hi := HI) (frac_bd (AW := AW) (AH := AH) (u := u) (v := v) hal hd hd2).1 hLH
    exact blend_between (m := 0) (M := 255) hc.1 hc.2 ho.1 hI ho.2 hI2
/-- what punchcutlaw19.draw answers, in plain numbers -/
theorem drew16 (W H : Nat) (AW AH PX PY RN RD LO HI INK : Int) (gf capf g cap : Nat) (al l : List Int) (D : Nat → Int) (w : World)
    (hW : 1 ≤ W) (hW2 : W ≤ 96) (hH : 1 ≤ H) (hH2 : H ≤ 96) (hl : l.length = W * H) (hlb : ∀ z ∈ l, 0 ≤ z ∧ z ≤ 255)
    (hAW : 1 ≤ AW) (hAW2 : AW ≤ 64) (hAH : 1 ≤ AH) (hAH2 : AH ≤ 64) (hal : (al.length : Int) = AW * AH) (hal2 : ∀ z ∈ al, 0 ≤ z ∧ z ≤ 255) (hcap : al.length ≤ cap)
    (hPX : -96 ≤ PX) (hPX2 : PX ≤ 96) (hPY : -96 ≤ PY) (hPY2 : PY ≤ 96) (hRN : 1 ≤ RN) (hRN2 : RN ≤ 64) (hRD : 1 ≤ RD) (hRD2 : RD ≤ 64) (hLO : 0 ≤ LO) (hLH : LO < HI) (hHI : HI ≤ 255) (hI : 0 ≤ INK) (hI2 : INK ≤ 255)
    (hcf : l.length ≤ capf) (hf : ∀ j, j < l.length → w.cell? ⟨gf, j, none⟩ = some (.int .u8 (l.getD j 0))) (hg : ∀ j, j < al.length → w.cell? ⟨g, j, none⟩ = some (.int .u8 (al.getD j 0)))
    (hD : ∀ k, k < l.length → D k = col AW AH al LO HI INK (uu PX RD (k % W)) (uu PY RD (k / W)) (2 * RN) (l.getD k 0)) :
    Calls Try.prog 16 #[.agg #[.int .i64 W, .int .i64 H, .slice (some ⟨gf, 0, none⟩) l.length capf], .agg #[.int .i64 AW, .int .i64 AH, .slice (some ⟨g, 0, none⟩) al.length cap], .agg #[.int .i64 PX, .int .i64 PY, .int .i64 RN, .int .i64 RD, .int .i64 LO, .int .i64 HI, .int .u8 INK]] w (Shown w W H ((List.range l.length).map D)) := by
  have hA1 : AW * AH ≤ 64 * 64 := Int.mul_le_mul hAW2 hAH2 (by omega) (by omega)
  have hWH : W * H ≤ 96 * 96 := Nat.mul_le_mul hW2 hH2
  have hWH1 : 1 ≤ W * H := Nat.mul_pos hW hH
  have hWH2 : W * H ≤ 96 * W := by rw [Nat.mul_comm]; exact Nat.mul_le_mul_right W hH2
  have hpar := fun u v => frac_bd (AW := AW) (AH := AH) (al := al) (u := u) (v := v) (den := 2 * RN) hal2 (by omega) (by omega)
  have b1 : AW * (2 * RN) ≤ 64 * 128 := Int.mul_le_mul hAW2 (by omega) (by omega) (by omega)
  have b2 : AH * (2 * RN) ≤ 64 * 128 := Int.mul_le_mul hAH2 (by omega) (by omega) (by omega)
  exact draw16 W H AW AH PX PY RN RD LO HI INK (2 * RN) gf capf g cap al l D w hW hW2 hAW hAW2 hAH hAH2 hRN hRN2 hRD hRD2 hPX hPX2 hPY hPY2 rfl hlb (by omega) hD
    (hid fun u v w' h1 h2 h3 h4 hc => bilin_At.calls 4194400 AW AH _ cap al u v (2 * RN) _ _ _ w' (reads_cells hc (by omega)) hcap (at_f (Nat.le_refl _) hAW hAW2 hAH hAH2 hal hal2 (by omega) (by omega) (by omega) (by omega) (by omega) (by omega)))
    (hid fun u v w' h1 h2 h3 h4 => ramp_Cover.calls 1 _ _ LO HI _ w' (cover_f (Nat.le_refl _) (hpar u v).2.2.1 (hpar u v).2.2.2 (hpar u v).1 (hpar u v).2.1 hLO hLH hHI))
    (hid fun o u v w' h1 h2 => (ramp_Blend.calls o INK _ _ w' (blend_f h1 h2 hI hI2 (cov_bd (hpar u v).1 hLH).1 (cov_bd (hpar u v).1 hLH).2)).mono fun e w2 ⟨h3, h4⟩ => ⟨h3, h4.below⟩)
    (by omega) (by omega) hcf hf hg
/-- a field and a pen that may be -/
structure Good (W H : Nat) (al : List Int) (PX PY RN RD LO HI INK : Int) : Prop where
  w1 : 1 ≤ W
  w2 : W ≤ 12
  h1 : 1 ≤ H
  h2 : H ≤ 12
  len : al.length = W * H
  bd : ∀ z ∈ al, 0 ≤ z ∧ z ≤ 255
  x1 : -12 ≤ PX
  x2 : PX ≤ 27
  y1 : -12 ≤ PY
  y2 : PY ≤ 27
  n1 : 1 ≤ RN
  n2 : RN ≤ 64
  d1 : 1 ≤ RD
  d2 : RD ≤ 64
  lo : 0 ≤ LO
  lh : LO < HI
  hi : HI ≤ 255
  i1 : 0 ≤ INK
  i2 : INK ≤ 255
theorem field_of (op key aw ah ink : Int) (h1 : 0 ≤ aw) (h2 : aw ≤ 255) (h3 : 0 ≤ ah) (h4 : ah ≤ 255) :
    ∃ (W H : Nat) (al : List Int), (∀ w, Calls Try.prog 13 #[.agg #[.int .u8 op, .int .u8 key, .int .u8 aw, .int .u8 ah, .int .u8 ink]] w (WalkField.Made w W H al)) ∧ 1 ≤ W ∧ W ≤ 12 ∧ 1 ≤ H ∧ H ≤ 12 ∧ al.length = W * H ∧ ∀ z ∈ al, 0 ≤ z ∧ z ≤ 255 := by
  have hS := fun w => WalkSome.some_calls op key aw ah ink w h1 h2 h3 h4
  obtain ⟨W, hW⟩ : ∃ W : Nat, (W : Int) = 1 + aw % 12 := ⟨(1 + aw % 12).toNat, by omega⟩
  obtain ⟨H, hH⟩ : ∃ H : Nat, (H : Int) = 1 + ah % 12 := ⟨(1 + ah % 12).toNat, by omega⟩
  rw [← hW, ← hH] at hS
  exact ⟨W, H, _, hS, by omega, by omega, by omega, by omega, by rw [texels_length, ← Int.natCast_mul, Int.toNat_natCast], texels_bd _ _⟩
theorem pen_of (t0 t1 t2 t3 t4 t5 t6 : Int) (h0 : 0 ≤ t0 ∧ t0 ≤ 255) (h1 : 0 ≤ t1 ∧ t1 ≤ 255) (h2 : 0 ≤ t2 ∧ t2 ≤ 255) (h3 : 0 ≤ t3 ∧ t3 ≤ 255) (h4 : 0 ≤ t4 ∧ t4 ≤ 255) (h5 : 0 ≤ t5 ∧ t5 ≤ 255) :
    ∃ PX PY RN RD LO HI : Int, (∀ w, Calls Try.prog 14 #[.agg #[.int .u8 t0, .int .u8 t1, .int .u8 t2, .int .u8 t3, .int .u8 t4, .int .u8 t5, .int .u8 t6]] w (Ret (.agg #[.int .i64 PX, .int .i64 PY, .int .i64 RN, .int .i64 RD, .int .i64 LO, .int .i64 HI, .int .u8 t6]) w)) ∧
      -12 ≤ PX ∧ PX ≤ 27 ∧ -12 ≤ PY ∧ PY ≤ 27 ∧ 1 ≤ RN ∧ RN ≤ 64 ∧ 1 ≤ RD ∧ RD ≤ 64 ∧ 0 ≤ LO ∧ LO < HI ∧ HI ≤ 255 := by
  obtain ⟨LO, HI, hp, hLO, hLH, hHI⟩ := Pen.pen_f (t6 := t6) h0.1 h0.2 h1.1 h1.2 h2.1 h2.2 h3.1 h3.2 h4.1 h4.2 h5.1 h5.2
  exact ⟨_, _, _, _, LO, HI, fun w => punchcutlaw19_Tip_Pen.calls _ _ _ _ _ _ _ _ _ _ _ _ _ _ w hp, by omega, by omega, by omega, by omega, by omega, by omega, by omega, by omega, hLO, hLH, hHI⟩
end Go.Proofs.Ytfbnaicnmkkohaa.Parts
