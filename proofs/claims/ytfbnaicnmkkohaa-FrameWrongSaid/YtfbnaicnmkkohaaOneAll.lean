/- FrameOne: at a ratio of one each pixel has its own texel. Conditions: the parts are bytes. -/
import Derived.Test.YtfbnaicnmkkohaaWalkOne
import Derived.Test.YtfbnaicnmkkohaaGlue
namespace Go.Proofs.Ytfbnaicnmkkohaa.OneAll
open Go Go.RowKit Go.Lib Go.Proofs.YtfbnaicnmkkohaaW.PrintWords Go.Proofs.YtfbnaicnmkkohaaW.PrintLast Go.Proofs.YtfbnaicnmkkohaaW.PrintMore Go.Proofs.Ytfbnaicnmkkohaa.Core Go.Proofs.Ytfbnaicnmkkohaa.PFramePlace Go.Proofs.Ytfbnaicnmkkohaa.Repeat Go.Proofs.Ytfbnaicnmkkohaa.Frames Go.Proofs.Ytfbnaicnmkkohaa.Glue Go.Proofs.Ytfbnaicnmkkohaa.Draw Go.Proofs.Ytfbnaicnmkkohaa.Drawn Go.Proofs.Ytfbnaicnmkkohaa.WalkField Go.Proofs.Ytfbnaicnmkkohaa.OneLaw
set_option linter.unusedVariables false
theorem tx_bd (ink : Int) (k : Nat) : 0 ≤ tx ink k ∧ tx ink k ≤ 255 := bounds_u8 (wf_bits _ _ _ _)
theorem texels_bd (ink : Int) (n : Nat) : ∀ x ∈ texels ink n, 0 ≤ x ∧ x ≤ 255 := by
  intro x hx
  unfold texels at hx
  obtain ⟨k, _, rfl⟩ := List.mem_map.1 hx
  exact tx_bd ink k
theorem walk (op key aw ah ink tone pen : Int) (w : World) (v0 : (Lit.int .u8 op).wf = true) (v1 : (Lit.int .u8 key).wf = true) (v2 : (Lit.int .u8 aw).wf = true) (v3 : (Lit.int .u8 ah).wf = true) (v4 : (Lit.int .u8 ink).wf = true) (v5 : (Lit.int .u8 tone).wf = true) (v6 : (Lit.int .u8 pen).wf = true) :
    Calls Try.prog 7 #[.agg #[.int .u8 op, .int .u8 key, .int .u8 aw, .int .u8 ah, .int .u8 ink], .int .u8 tone, .int .u8 pen] w fun e w' => e = .returned (.bool true) ∧ Below w.heap.size w w' := by
  have b2 := bounds_u8 v2
  have b3 := bounds_u8 v3
  have b5 := bounds_u8 v5
  have b6 := bounds_u8 v6
  have hS := fun w => WalkSome.some_calls op key aw ah ink w b2.1 b2.2 b3.1 b3.2
  obtain ⟨W, hW⟩ : ∃ W : Nat, (W : Int) = 1 + aw % 12 := ⟨(1 + aw % 12).toNat, by omega⟩
  obtain ⟨H, hH⟩ : ∃ H : Nat, (H : Int) = 1 + ah % 12 := ⟨(1 + ah % 12).toNat, by omega⟩
  have hWb : 1 ≤ W ∧ W ≤ 12 := by omega
  have hHb : 1 ≤ H ∧ H ≤ 12 := by omega
  rw [← hW, ← hH] at hS
  have hl : (texels ink ((W : Int) * H).toNat).length = W * H := by rw [texels_length, ← Int.natCast_mul, Int.toNat_natCast]
  have hl2 := texels_bd ink ((W : Int) * H).toNat
  generalize texels ink ((W : Int) * H).toNat = l at *
  have hWH : W * H ≤ 12 * 12 := Nat.mul_le_mul hWb.2 hHb.2
  have hWH0 : 1 ≤ W * H := Nat.mul_pos hWb.1 hHb.1
  let D : Nat → Int := fun j => blend tone pen (cov (l.getD j 0) 1 50 200)
  have hz : ∀ k, k < l.length → 0 ≤ l.getD k 0 ∧ l.getD k 0 ≤ 255 := fun k hk => hl2 _ (by rw [List.getD_eq_getElem?_getD, List.getElem?_eq_getElem hk]; exact List.getElem_mem hk)
  refine WalkOne.one op key aw ah ink tone pen W H l D w (by omega) hl2 (hid hS) (hid fun w => ?_) (hid fun g cap F T w' hc hgT hF hg => ?_) (hid fun F T w' hF => ?_) (hid fun k w' hk => ?_) (hid fun k w' hk => ?_)
  · exact made W H tone W H l.length w (by unfold mx mn; split <;> split <;> omega) (by unfold mx mn; split <;> split <;> omega) (by rw [hl, Int.natCast_mul]) (by omega) (by omega)
  · have h := drawn W H W H 0 0 1 1 50 200 pen 2 g cap F T l (List.replicate l.length tone) D w' hWb.1 (by omega) hHb.1 (by omega) (by rw [List.length_replicate]; exact hl) (fun z hz => by have := List.eq_of_mem_replicate hz; omega)
      (by omega) (by omega) (by omega) (by omega) (by rw [hl, Int.natCast_mul]) hl2 hc (by omega) (by omega) (by omega) (by omega) (by omega) (by omega) (by omega) (by omega) (by omega) (by omega) (by omega) b6.1 (by omega) (by omega) hgT hF hg
      (fun y x hx hy => by
        rw [col_one hx hy hl2, List.getD_eq_getElem?_getD (l := List.replicate _ _), List.getElem?_replicate, if_pos (by rw [hl]; have := Nat.mul_le_mul_right W (show y + 1 ≤ H from hy); rw [Nat.add_mul, Nat.mul_comm H W] at this; omega)]; rfl)
    rw [List.length_replicate] at h
    exact h
  · exact pixels W H _ F T w' (by simp; omega) (by simp; omega) hF
  · exact ramp_Cover.calls 1 _ _ 50 200 _ w' (cover_f (Nat.le_refl _) (hz k hk).1 (by have := (hz k hk).2; omega) (by omega) (by omega) (by omega) (by omega) (by omega))
  · have hc := cov_bd (n := l.getD k 0) (d := 1) (lo := 50) (hi := 200) (by omega) (by omega)
    exact (ramp_Blend.calls tone pen _ _ w' (blend_f b5.1 (by omega) b6.1 (by omega) hc.1 hc.2)).mono fun e w2 ⟨h3, h4⟩ => ⟨h3, h4.below⟩
end Go.Proofs.Ytfbnaicnmkkohaa.OneAll
