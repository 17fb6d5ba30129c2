/- Draw's contract in plain numbers; what may not be drawn is told. Conditions: as each states. -/
import Derived.Test.YtfbnaicnmkkohaaDraw
namespace Go.Proofs.Ytfbnaicnmkkohaa.Drawn
open Go Go.RowKit Go.Lib Go.Proofs.YtfbnaicnmkkohaaW.PrintWords Go.Proofs.YtfbnaicnmkkohaaW.PrintLast Go.Proofs.YtfbnaicnmkkohaaW.PrintMore Go.Proofs.Ytfbnaicnmkkohaa.Core Go.Proofs.Ytfbnaicnmkkohaa.PFramePlace Go.Proofs.Ytfbnaicnmkkohaa.Repeat Go.Proofs.Ytfbnaicnmkkohaa.Frames Go.Proofs.Ytfbnaicnmkkohaa.Glue Go.Proofs.Ytfbnaicnmkkohaa.Draw
set_option linter.unusedVariables false
set_option linter.unusedSimpArgs false
attribute [local go_sem ↓] Go.wp_at_zero Go.wp_at_succ
theorem reads_cells {w : World} {g : Nat} {l : List Int} (hk : ∀ k, k < l.length → w.cell? ⟨g, k, none⟩ = some (.int .u8 (l.getD k 0))) (hm : l.length ≤ 100000) : Kd.C (Kd.int .u8) w (some ⟨g, 0, none⟩) l.length l := by
  refine ⟨rfl, by omega, fun _ => ⟨⟨g, 0, none⟩, rfl, fun j p hp => ?_⟩⟩
  refine ⟨[.int .u8 p], rfl, rfl, fun i u hi => ?_⟩
  have hj : j < l.length := (List.getElem?_eq_some_iff.1 hp).1
  have hi0 : i = 0 := by
    rcases i with _ | i
    · rfl
    · simp at hi
  subst hi0
  simp at hi
  subst hi
  have := hk j hj
  rw [List.getD_eq_getElem?_getD, hp] at this
  show w.cell? ((⟨g, 0, none⟩ : Addr).add (j * 1 + 0)) = _
  by_cases h0 : j = 0 <;> simpa [Addr.add, h0] using this
theorem far (z : Int) (w : World) (h1 : -96 ≤ z) (h2 : z ≤ 96) : Calls Try.prog 26 #[.int .i64 z] w (Ret (.bool false) w) := by
  have n1 : ¬ z < -96 := by omega
  have n2 : ¬ 96 < z := by omega
  go_enter Try.func26, Try.ntmps26
  go_wp2_with fail
  go_ret
  exact ⟨rfl, Below.refl _ _⟩
theorem place {PX PY RN RD LO HI INK den : Int} (x y : Nat) (w : World) (hx : x < 96) (hy : y < 96) (hPX : -96 ≤ PX) (hPX2 : PX ≤ 96) (hPY : -96 ≤ PY) (hPY2 : PY ≤ 96) (hRN : 1 ≤ RN) (hRN2 : RN ≤ 64) (hRD : 1 ≤ RD) (hRD2 : RD ≤ 64) (hden : 2 * RN = den) :
    Calls Try.prog 20 #[.agg #[.int .i64 PX, .int .i64 PY, .int .i64 RN, .int .i64 RD, .int .i64 LO, .int .i64 HI, .int .u8 INK], .int .i64 x, .int .i64 y] w (Ret (.tuple #[.int .i64 (uu PX RD x), .int .i64 (uu PY RD y), .int .i64 den]) w) := by
  refine frame_Place.calls _ _ _ _ _ _ _ _ _ _ _ _ w ?_
  unfold frame_Place.f uu
  have b : ∀ {P : Int} (z : Nat), z < 96 → -96 ≤ P → P ≤ 96 → -24640 ≤ (2 * ((z : Int) - P) + 1) * RD ∧ (2 * ((z : Int) - P) + 1) * RD ≤ 24640 := by
    intro P z h1 h2 h3
    have e1 : (2 * ((z : Int) - P) + 1) * RD ≤ 385 * RD := Int.mul_le_mul_of_nonneg_right (by omega) (by omega)
    have e2 : -385 * RD ≤ (2 * ((z : Int) - P) + 1) * RD := Int.mul_le_mul_of_nonneg_right (by omega) (by omega)
    omega
  have b1 := b x hx hPX hPX2
  have b2 := b y hy hPY hPY2
  rw [w64 (n := (x : Int) - PX) (by omega) (by omega), w64 (n := (y : Int) - PY) (by omega) (by omega), w64 (n := 2 * ((x : Int) - PX)) (by omega) (by omega), w64 (n := 2 * ((y : Int) - PY)) (by omega) (by omega), w64 (n := 2 * ((x : Int) - PX) + 1) (by omega) (by omega), w64 (n := 2 * ((y : Int) - PY) + 1) (by omega) (by omega), w64 (n := _ * RD) (by omega) (by omega), w64 (n := _ * RD) (by omega) (by omega), w64 (n := 2 * RN) (by omega) (by omega), hden]
theorem drawn (W H : Nat) (AW AH PX PY RN RD LO HI INK den : Int) (g cap F T : Nat) (al l : List Int) (D : Nat → Int) (w : World)
    (hW : 1 ≤ W) (hW2 : W ≤ 96) (hH : 1 ≤ H) (hH2 : H ≤ 96) (hl : l.length = W * H) (hl2 : ∀ z ∈ l, 0 ≤ z ∧ z ≤ 255)
    (hAW : 1 ≤ AW) (hAW2 : AW ≤ 64) (hAH : 1 ≤ AH) (hAH2 : AH ≤ 64) (hal : (al.length : Int) = AW * AH) (hal2 : ∀ z ∈ al, 0 ≤ z ∧ z ≤ 255) (hcap : al.length ≤ cap)
    (hPX : -96 ≤ PX) (hPX2 : PX ≤ 96) (hPY : -96 ≤ PY) (hPY2 : PY ≤ 96) (hRN : 1 ≤ RN) (hRN2 : RN ≤ 64) (hRD : 1 ≤ RD) (hRD2 : RD ≤ 64) (hLO : 0 ≤ LO) (hLH : LO < HI) (hHI : HI ≤ 255) (hI : 0 ≤ INK) (hI2 : INK ≤ 255)
    (hden : 2 * RN = den) (hgT : g ≠ T) (hF : Frm w F T W H l) (hg : ∀ j, j < al.length → w.cell? ⟨g, j, none⟩ = some (.int .u8 (al.getD j 0)))
    (hD : ∀ y x, x < W → y < H → D (y * W + x) = col AW AH al LO HI INK (uu PX RD x) (uu PY RD y) den (l.getD (y * W + x) 0)) :
    Calls Try.prog 15 #[.pointer (some ⟨F, 0, none⟩), Value.agg #[Value.int IntKind.i64 AW, Value.int IntKind.i64 AH, Value.slice (some ⟨g, 0, none⟩) al.length cap], .agg #[.int .i64 PX, .int .i64 PY, .int .i64 RN, .int .i64 RD, .int .i64 LO, .int .i64 HI, .int .u8 INK]] w (fun e w' => e = .returned (.int .i64 0) ∧ Frm w' F T W H ((List.range l.length).map D) ∧ Sv T w w') := by
  have hA1 : AW * AH ≤ 64 * 64 := Int.mul_le_mul hAW2 hAH2 (by omega) (by omega)
  have hpar : ∀ u v, 1 ≤ (frac AW AH al u v den).2 ∧ (frac AW AH al u v den).2 ≤ 1099511627776 ∧ 0 ≤ (frac AW AH al u v den).1 ∧ (frac AW AH al u v den).1 ≤ 1099511627776 := by
    intro u v
    have hv := val_bd (W := AW) (H := AH) (l := al) (x := u) (y := v) (d := den) (m := 0) (M := 255) (by omega) (fun i k => tex_bd hal2 i k)
    have d0 : 0 < 2 * den * (2 * den) := Int.mul_pos (by omega) (by omega)
    have d1 : 2 * den * (2 * den) ≤ 256 * 256 := Int.mul_le_mul (by omega) (by omega) (by omega) (by omega)
    obtain ⟨p1, p2, p3, p4, p5, p6, p7⟩ := of_parts (n := val AW AH al u v den) (d := 2 * den * (2 * den)) (by omega) (by omega)
    exact ⟨p6, by show _ ≤ _; unfold frac; omega, p4, by show _ ≤ _; unfold frac; omega⟩
  refine draw W H AW AH PX PY RN RD LO HI INK den g cap F T al l D w hW hW2 hH hH2 hl hl2 hAW hAW2 hAH hAH2 hal hal2 hcap hPX hPX2 hPY hPY2 hRN hRN2 hRD hRD2 hLO hLH hHI hI hI2 hden hgT hF hg hD
    (hid fun w' hc => bilin_Right.calls AW AH _ cap al true w' (reads_cells hc (by omega)) hcap (right_f hAW hAW2 hAH hAH2 hal))
    (hid fun w' => frame_Right.calls RN RD true w' ?_) (hid fun z w' h1 h2 => far z w' h1 h2)
    (hid fun x y w' hx hy => place x y w' (by omega) (by omega) hPX hPX2 hPY hPY2 hRN hRN2 hRD hRD2 hden)
    (hid fun u v w' h1 h2 h3 h4 hc => ?_) (hid fun u v w' h1 h2 h3 h4 => ramp_Cover.calls 1 _ _ LO HI _ w' (cover_f (Nat.le_refl _) (hpar u v).2.2.1 (hpar u v).2.2.2 (hpar u v).1 (hpar u v).2.1 hLO hLH hHI))
    (hid fun o u v w' h1 h2 => (ramp_Blend.calls o INK _ _ w' (blend_f h1 h2 hI hI2 (cov_bd (hpar u v).1 hLH).1 (cov_bd (hpar u v).1 hLH).2)).mono fun e w2 ⟨h3, h4⟩ => ⟨h3, h4.below⟩)
  · unfold frame_Right.f; rw [if_pos (by omega), if_pos hRN2, if_pos (by omega), decide_eq_true hRD2]
  · have b1 : AW * den ≤ 64 * 128 := Int.mul_le_mul hAW2 (by omega) (by omega) (by omega)
    have b2 : AH * den ≤ 64 * 128 := Int.mul_le_mul hAH2 (by omega) (by omega) (by omega)
    exact bilin_At.calls 4194400 AW AH _ cap al u v den _ _ _ w' (reads_cells hc (by omega)) hcap (at_f (Nat.le_refl _) hAW hAW2 hAH hAH2 hal hal2 (by omega) (by omega) (by omega) (by omega) (by omega) (by omega))
/-- a field that is not right is not drawn -/
theorem bad (F : Nat) (AW AH a b c d e f i : Int) (A : Option Addr) (n cap : Nat) (w : World)
    (HR : Hid (∀ w', Calls Try.prog 18 #[.agg #[.int .i64 AW, .int .i64 AH, .slice A n cap]] w' (Ret (.bool false) w'))) :
    Calls Try.prog 15 #[.pointer (some ⟨F, 0, none⟩), .agg #[.int .i64 AW, .int .i64 AH, .slice A n cap], .agg #[.int .i64 a, .int .i64 b, .int .i64 c, .int .i64 d, .int .i64 e, .int .i64 f, .int .u8 i]] w (Ret (.int .i64 4) w) := by
  go_enter Try.func15, Try.ntmps15
  go_wp2_with (go_at_call 18; refine (HR.out _).mono ?_; rintro e w1 ⟨rfl, hw1⟩)
  go_ret
  exact ⟨rfl, below_step (below_alloc (below_alloc (Below.refl _ _) _) _) hw1⟩
end Go.Proofs.Ytfbnaicnmkkohaa.Drawn
