/- FrameFull: where all of a field covers its pixels are of the ink, all others of the tone. Conditions: the parts are bytes. -/
import Derived.Test.YtfbnaicnmkkohaaWalkFull
import Derived.Test.YtfbnaicnmkkohaaPlaceAll
import Derived.Test.YtfbnaicnmkkohaaOneAll
namespace Go.Proofs.Ytfbnaicnmkkohaa.FullAll
open Go Go.RowKit Go.Lib Go.Proofs.YtfbnaicnmkkohaaW.PrintWords Go.Proofs.YtfbnaicnmkkohaaW.PrintLast Go.Proofs.YtfbnaicnmkkohaaW.PrintMore Go.Proofs.Ytfbnaicnmkkohaa.Core Go.Proofs.Ytfbnaicnmkkohaa.PFramePlace Go.Proofs.Ytfbnaicnmkkohaa.Repeat Go.Proofs.Ytfbnaicnmkkohaa.Frames Go.Proofs.Ytfbnaicnmkkohaa.Glue Go.Proofs.Ytfbnaicnmkkohaa.Draw Go.Proofs.Ytfbnaicnmkkohaa.Drawn Go.Proofs.Ytfbnaicnmkkohaa.WalkField Go.Proofs.Ytfbnaicnmkkohaa.FullLaw Go.Proofs.Ytfbnaicnmkkohaa.OneAll
set_option linter.unusedVariables false
theorem grid_at {A : Nat → Int} {W H : Nat} {y x : Nat} (hx : x < W) : (y * W + x) % W = x ∧ (y * W + x) / W = y := by
  have h0 : 0 < W := by omega
  refine ⟨?_, ?_⟩
  · rw [Nat.mul_comm, Nat.mul_add_mod]; exact Nat.mod_eq_of_lt hx
  · rw [Nat.mul_comm, Nat.mul_add_div h0, Nat.div_eq_of_lt hx, Nat.add_zero]
theorem walk (op key aw ah ink t0 t1 t2 t3 t4 t5 t6 tone : Int) (w : World) (v0 : (Lit.int .u8 op).wf = true) (v1 : (Lit.int .u8 key).wf = true) (v2 : (Lit.int .u8 aw).wf = true) (v3 : (Lit.int .u8 ah).wf = true) (v4 : (Lit.int .u8 ink).wf = true)
    (u0 : (Lit.int .u8 t0).wf = true) (u1 : (Lit.int .u8 t1).wf = true) (u2 : (Lit.int .u8 t2).wf = true) (u3 : (Lit.int .u8 t3).wf = true) (u4 : (Lit.int .u8 t4).wf = true) (u5 : (Lit.int .u8 t5).wf = true) (u6 : (Lit.int .u8 t6).wf = true) (v5 : (Lit.int .u8 tone).wf = true) :
    Calls Try.prog 8 #[.agg #[.int .u8 op, .int .u8 key, .int .u8 aw, .int .u8 ah, .int .u8 ink], .agg #[.int .u8 t0, .int .u8 t1, .int .u8 t2, .int .u8 t3, .int .u8 t4, .int .u8 t5, .int .u8 t6], .int .u8 tone] w fun e w' => e = .returned (.bool true) ∧ Below w.heap.size w w' := by
  have b2 := bounds_u8 v2
  have b3 := bounds_u8 v3
  have b5 := bounds_u8 v5
  have a0 := bounds_u8 u0
  have a1 := bounds_u8 u1
  have a2 := bounds_u8 u2
  have a3 := bounds_u8 u3
  have a6 := bounds_u8 u6
  have hS := fun w => WalkSome.some_calls op key aw ah ink w b2.1 b2.2 b3.1 b3.2
  obtain ⟨LO, HI, hp⟩ := PlaceAll.pen_f (t4 := t4) (t5 := t5) (t6 := t6) a0.1 a0.2 a1.1 a1.2 a2.1 a2.2 a3.1 a3.2
  have hT := fun w => punchcutlaw19_Tip_Pen.calls _ _ _ _ _ _ _ _ _ _ _ _ _ _ w hp
  have c0 : -12 ≤ t0 % 40 - 12 ∧ t0 % 40 - 12 ≤ 27 := by omega
  have c1 : -12 ≤ t1 % 40 - 12 ∧ t1 % 40 - 12 ≤ 27 := by omega
  have c2 : 1 ≤ 1 + t2 % 64 ∧ 1 + t2 % 64 ≤ 64 := by omega
  have c3 : 1 ≤ 1 + t3 % 64 ∧ 1 + t3 % 64 ≤ 64 := by omega
  generalize t0 % 40 - 12 = PX at *
  generalize t1 % 40 - 12 = PY at *
  generalize 1 + t2 % 64 = RN at *
  generalize 1 + t3 % 64 = RD at *
  obtain ⟨W, hW⟩ : ∃ W : Nat, (W : Int) = 1 + aw % 12 := ⟨(1 + aw % 12).toNat, by omega⟩
  obtain ⟨H, hH⟩ : ∃ H : Nat, (H : Int) = 1 + ah % 12 := ⟨(1 + ah % 12).toNat, by omega⟩
  have hWb : 1 ≤ W ∧ W ≤ 12 := by omega
  have hHb : 1 ≤ H ∧ H ≤ 12 := by omega
  rw [← hW, ← hH] at hS
  have hl : (texels ink ((W : Int) * H).toNat).length = W * H := by rw [texels_length, ← Int.natCast_mul, Int.toNat_natCast]
  have hl2 := texels_bd ink ((W : Int) * H).toNat
  generalize texels ink ((W : Int) * H).toNat = l at *
  have hWH : W * H ≤ 12 * 12 := Nat.mul_le_mul hWb.2 hHb.2
  have hWd : 0 ≤ (W : Int) * (2 * RN) ∧ (W : Int) * (2 * RN) ≤ 12 * 128 := ⟨Int.mul_nonneg (by omega) (by omega), Int.mul_le_mul (by omega) (by omega) (by omega) (by omega)⟩
  have hHd : 0 ≤ (H : Int) * (2 * RN) ∧ (H : Int) * (2 * RN) ≤ 12 * 128 := ⟨Int.mul_nonneg (by omega) (by omega), Int.mul_le_mul (by omega) (by omega) (by omega) (by omega)⟩
  let D : Nat → Int := fun k => if uu PX RD (k % 40) < 0 ∨ (W : Int) * (2 * RN) < uu PX RD (k % 40) ∨ uu PY RD (k / 40) < 0 ∨ (H : Int) * (2 * RN) < uu PY RD (k / 40) then tone else t6
  have hLP : ((List.range 1600).map D).length = 1600 := by rw [List.length_map, List.length_range]
  have hm : ∀ z ∈ l.map hb, 128 ≤ z ∧ z ≤ 255 := fun z hz => by
    obtain ⟨y, hy, rfl⟩ := List.mem_map.1 hz
    exact hb_bd (hl2 y hy).1 (hl2 y hy).2
  have hml : ((l.map hb).length : Int) = (W : Int) * H := by rw [List.length_map, hl, Int.natCast_mul]
  refine WalkFull.full op key aw ah ink t0 t1 t2 t3 t4 t5 t6 tone PX PY RN RD LO HI t6 (2 * RN) W H l (List.replicate 1600 tone) ((List.range 1600).map D) w (hid hLP) (by omega) (hid hS) (hid fun w => ?_)
    (fun k hk => ?_) ⟨hWd.1, by omega⟩ ⟨hHd.1, by omega⟩ (hid fun g cap F T w' hc hgT hF hg => ?_) (hid fun F T w' hF => ?_) (hid fun k w' hk => ?_) (hid hT)
  · exact made 40 40 tone 40 40 1600 w rfl rfl rfl (by omega) (by omega)
  · rw [hLP] at hk
    rw [List.getD_eq_getElem?_getD, List.getElem?_map, List.getElem?_range hk]; rfl
  · have h := drawn 40 40 W H PX PY RN RD 5 100 t6 (2 * RN) g cap F T (l.map hb) (List.replicate 1600 tone) D w' (by omega) (by omega) (by omega) (by omega) (by rw [List.length_replicate]) (fun z hz => by have := List.eq_of_mem_replicate hz; omega)
      (by omega) (by omega) (by omega) (by omega) hml (fun z hz => by have := hm z hz; omega) (by rw [List.length_map]; exact hc) (by omega) (by omega) (by omega) (by omega) (by omega) (by omega) (by omega) (by omega) (by omega) (by omega) (by omega) a6.1 (by omega) rfl hgT hF (fun j hj => hg j (by rw [List.length_map] at hj; exact hj))
      (fun y x hx hy => by
        have hg40 := grid_at (A := D) (H := 0) (y := y) hx
        rw [col_full hm (by omega) (by omega) hml (by omega) (by omega)]
        show (if _ then _ else _) = _
        have hr : (List.replicate 1600 tone).getD (y * 40 + x) 0 = tone := by rw [List.getD_eq_getElem?_getD, List.getElem?_replicate, if_pos (by omega)]; rfl
        rw [hg40.1, hg40.2, hr])
    rw [List.length_replicate, List.length_map] at h
    exact h
  · exact pixels 40 40 _ F T w' (by rw [hLP]; omega) (by rw [hLP]; omega) hF
  · rw [hLP] at hk
    have h := place (LO := 5) (HI := 100) (INK := t6) (den := 2 * RN) (PX := PX) (PY := PY) (RN := RN) (RD := RD) (k % 40) (k / 40) w' (by omega) (by omega) (by omega) (by omega) (by omega) (by omega) (by omega) (by omega) (by omega) (by omega) rfl
    rw [Int.natCast_emod, Int.natCast_ediv] at h
    exact h
end Go.Proofs.Ytfbnaicnmkkohaa.FullAll
