/- FrameOut: pixels away from a field stay, and ink of their tone changes none. Conditions: the parts are bytes. -/
import Derived.Test.YtfbnaicnmkkohaaWalkOut
import Derived.Test.YtfbnaicnmkkohaaPen
import Derived.Test.YtfbnaicnmkkohaaOneAll
import Derived.Test.YtfbnaicnmkkohaaFullAll
namespace Go.Proofs.Ytfbnaicnmkkohaa.OutAll
open Go Go.RowKit Go.Lib Go.Proofs.YtfbnaicnmkkohaaW.PrintWords Go.Proofs.YtfbnaicnmkkohaaW.PrintLast Go.Proofs.YtfbnaicnmkkohaaW.PrintMore Go.Proofs.Ytfbnaicnmkkohaa.Core Go.Proofs.Ytfbnaicnmkkohaa.PFramePlace Go.Proofs.Ytfbnaicnmkkohaa.Repeat Go.Proofs.Ytfbnaicnmkkohaa.Frames Go.Proofs.Ytfbnaicnmkkohaa.Glue Go.Proofs.Ytfbnaicnmkkohaa.Draw Go.Proofs.Ytfbnaicnmkkohaa.Drawn Go.Proofs.Ytfbnaicnmkkohaa.WalkField Go.Proofs.Ytfbnaicnmkkohaa.FullLaw Go.Proofs.Ytfbnaicnmkkohaa.OneAll
set_option linter.unusedVariables false
theorem off_bd {a R : Int} (h1 : -1000 ≤ a) (h2 : a ≤ 1000) (hR : 1 ≤ R) (hR2 : R ≤ 64) : -64000 ≤ a * R ∧ a * R ≤ 64000 := by
  have e1 : a * R ≤ 1000 * R := Int.mul_le_mul_of_nonneg_right (by omega) (by omega)
  have e2 : -1000 * R ≤ a * R := Int.mul_le_mul_of_nonneg_right (by omega) (by omega)
  omega
theorem walk (op key aw ah ink t0 t1 t2 t3 t4 t5 t6 tone : Int) (w : World) (v0 : (Lit.int .u8 op).wf = true) (v1 : (Lit.int .u8 key).wf = true) (v2 : (Lit.int .u8 aw).wf = true) (v3 : (Lit.int .u8 ah).wf = true) (v4 : (Lit.int .u8 ink).wf = true)
    (u0 : (Lit.int .u8 t0).wf = true) (u1 : (Lit.int .u8 t1).wf = true) (u2 : (Lit.int .u8 t2).wf = true) (u3 : (Lit.int .u8 t3).wf = true) (u4 : (Lit.int .u8 t4).wf = true) (u5 : (Lit.int .u8 t5).wf = true) (u6 : (Lit.int .u8 t6).wf = true) (v5 : (Lit.int .u8 tone).wf = true) :
    Calls Try.prog 5 #[.agg #[.int .u8 op, .int .u8 key, .int .u8 aw, .int .u8 ah, .int .u8 ink], .agg #[.int .u8 t0, .int .u8 t1, .int .u8 t2, .int .u8 t3, .int .u8 t4, .int .u8 t5, .int .u8 t6], .int .u8 tone] w fun e w' => e = .returned (.bool true) ∧ Below w.heap.size w w' := by
  have b2 := bounds_u8 v2
  have b3 := bounds_u8 v3
  have b5 := bounds_u8 v5
  have a0 := bounds_u8 u0
  have a1 := bounds_u8 u1
  have a2 := bounds_u8 u2
  have a3 := bounds_u8 u3
  have a4 := bounds_u8 u4
  have a5 := bounds_u8 u5
  have a6 := bounds_u8 u6
  have hS := fun w => WalkSome.some_calls op key aw ah ink w b2.1 b2.2 b3.1 b3.2
  obtain ⟨LO, HI, hp, hLO, hLH, hHI⟩ := Pen.pen_f (t6 := t6) a0.1 a0.2 a1.1 a1.2 a2.1 a2.2 a3.1 a3.2 a4.1 a4.2 a5.1 a5.2
  have hT := fun w => punchcutlaw19_Tip_Pen.calls _ _ _ _ _ _ _ _ _ _ _ _ _ _ w hp
  have c0 : -12 ≤ t0 % 40 - 12 ∧ t0 % 40 - 12 ≤ 27 := by omega
  have c1 : -12 ≤ t1 % 40 - 12 ∧ t1 % 40 - 12 ≤ 27 := by omega
  have c2 : 1 ≤ 1 + t2 % 64 ∧ 1 + t2 % 64 ≤ 64 := by omega
  have c3 : 1 ≤ 1 + t3 % 64 ∧ 1 + t3 % 64 ≤ 64 := by omega
  generalize t0 % 40 - 12 = PX at *
  generalize t1 % 40 - 12 = PY at *
  generalize 1 + t2 % 64 = RN at *
  generalize 1 + t3 % 64 = RD at *
  obtain ⟨R2, hR2⟩ : ∃ r, (if 2 * RD < RN then 2 * RD else RN) = r := ⟨_, rfl⟩
  have c4 : 1 ≤ R2 ∧ R2 ≤ 64 := by split at hR2 <;> omega
  obtain ⟨W, hW⟩ : ∃ W : Nat, (W : Int) = 1 + aw % 12 := ⟨(1 + aw % 12).toNat, by omega⟩
  obtain ⟨H, hH⟩ : ∃ H : Nat, (H : Int) = 1 + ah % 12 := ⟨(1 + ah % 12).toNat, by omega⟩
  have hWb : 1 ≤ W ∧ W ≤ 12 := by omega
  have hHb : 1 ≤ H ∧ H ≤ 12 := by omega
  rw [← hW, ← hH] at hS
  have hl : (texels ink ((W : Int) * H).toNat).length = W * H := by rw [texels_length, ← Int.natCast_mul, Int.toNat_natCast]
  have hl2 := texels_bd ink ((W : Int) * H).toNat
  generalize texels ink ((W : Int) * H).toNat = l at *
  have hWH : W * H ≤ 12 * 12 := Nat.mul_le_mul hWb.2 hHb.2
  have hWd : 0 ≤ (W : Int) * R2 ∧ (W : Int) * R2 ≤ 12 * 64 := ⟨Int.mul_nonneg (by omega) (by omega), Int.mul_le_mul (by omega) (by omega) (by omega) (by omega)⟩
  have hHd : 0 ≤ (H : Int) * R2 ∧ (H : Int) * R2 ≤ 12 * 64 := ⟨Int.mul_nonneg (by omega) (by omega), Int.mul_le_mul (by omega) (by omega) (by omega) (by omega)⟩
  let D : Nat → Int := fun k => col W H l LO HI t6 (uu PX RD (k % 60)) (uu PY RD (k / 60)) (2 * R2) tone
  have hLP : ((List.range 3600).map D).length = 3600 := by rw [List.length_map, List.length_range]
  have hml : (l.length : Int) = (W : Int) * H := by rw [hl, Int.natCast_mul]
  have hr : ∀ k, k < 3600 → (List.replicate 3600 tone).getD k 0 = tone := fun k hk => by rw [List.getD_eq_getElem?_getD, List.getElem?_replicate, if_pos hk]; rfl
  have hb : ∀ z ∈ List.replicate 3600 tone, 0 ≤ z ∧ z ≤ 255 := fun z hz => by have := List.eq_of_mem_replicate hz; omega
  refine WalkOut.out op key aw ah ink t0 t1 t2 t3 t4 t5 t6 tone PX PY RN RD R2 LO HI t6 W H l (List.replicate 3600 tone) ((List.range 3600).map D) w (hid hLP) (by omega) c3 hR2 (hid hS) (hid fun w => ?_)
    (hid fun k hk h => ?_) (hid fun k hk => ?_) (hid fun g cap F T w' hc hgT hF hg => ?_) (hid fun g cap F T w' hc hgT hF hg => ?_) (hid fun F T w' hF => ?_) (hid fun F T w' hF => ?_) (hid hT)
  · exact made 60 60 tone 60 60 3600 w rfl rfl rfl (by omega) (by omega)
  · rw [hLP] at hk
    rw [List.getD_eq_getElem?_getD, List.getElem?_map, List.getElem?_range hk]
    show D k = tone
    rw [show (k : Int) % 60 = ((k % 60 : Nat) : Int) by omega, show (k : Int) / 60 = ((k / 60 : Nat) : Int) by omega] at h
    exact col_out c4.1 c3.1 h
  · rw [hLP] at hk
    have q1 := off_bd (a := (k : Int) % 60 - PX) (by omega) (by omega) c3.1 c3.2
    have q2 := off_bd (a := (k : Int) / 60 - PY) (by omega) (by omega) c3.1 c3.2
    exact ⟨iw (by omega) (by omega), iw (by omega) (by omega), iw (by omega) (by omega), iw (by omega) (by omega), iw (by omega) (by omega), iw (by omega) (by omega)⟩
  · have h := drawn 60 60 W H PX PY R2 RD LO HI t6 (2 * R2) g cap F T l (List.replicate 3600 tone) D w' (by omega) (by omega) (by omega) (by omega) (by rw [List.length_replicate]) hb
      (by omega) (by omega) (by omega) (by omega) hml hl2 hc (by omega) (by omega) (by omega) (by omega) (by omega) (by omega) (by omega) (by omega) hLO hLH hHI a6.1 (by omega) rfl hgT hF hg
      (fun y x hx hy => by
        have hg60 := FullAll.grid_at (A := D) (H := 0) (y := y) hx
        rw [hr _ (by omega)]
        show col W H l LO HI t6 (uu PX RD ((y * 60 + x) % 60)) (uu PY RD ((y * 60 + x) / 60)) (2 * R2) tone = _
        rw [hg60.1, hg60.2])
    rw [List.length_replicate] at h
    exact h
  · have h := drawn 60 60 W H PX PY R2 RD LO HI tone (2 * R2) g cap F T l (List.replicate 3600 tone) (fun _ => tone) w' (by omega) (by omega) (by omega) (by omega) (by rw [List.length_replicate]) hb
      (by omega) (by omega) (by omega) (by omega) hml hl2 hc (by omega) (by omega) (by omega) (by omega) (by omega) (by omega) (by omega) (by omega) hLO hLH hHI b5.1 (by omega) rfl hgT hF hg
      (fun y x hx hy => by rw [hr _ (by omega), col_self])
    rw [List.length_replicate, show (List.range 3600).map (fun _ => tone) = List.replicate 3600 tone by rw [List.map_const', List.length_range]] at h
    exact h
  · exact pixels 60 60 _ F T w' (by rw [hLP]; omega) (by rw [hLP]; omega) hF
  · exact pixels 60 60 _ F T w' (by rw [List.length_replicate]; omega) (by rw [List.length_replicate]; omega) hF
end Go.Proofs.Ytfbnaicnmkkohaa.OutAll
