/- Draw's contract for a field whose row begins anywhere in its block. Conditions: as each states. -/
import Derived.Test.YtfbnaicnmkkohaaDrawn
namespace Go.Proofs.Ytfbnaicnmkkohaa.DrawO
open Go Go.RowKit Go.Lib Go.Proofs.YtfbnaicnmkkohaaW.PrintWords Go.Proofs.YtfbnaicnmkkohaaW.PrintLast Go.Proofs.YtfbnaicnmkkohaaW.PrintMore Go.Proofs.Ytfbnaicnmkkohaa.Core Go.Proofs.Ytfbnaicnmkkohaa.PFramePlace Go.Proofs.Ytfbnaicnmkkohaa.Repeat Go.Proofs.Ytfbnaicnmkkohaa.Frames Go.Proofs.Ytfbnaicnmkkohaa.Glue Go.Proofs.Ytfbnaicnmkkohaa.Draw
set_option linter.unusedVariables false
set_option linter.unusedSimpArgs false
attribute [local go_sem ↓] Go.wp_at_zero Go.wp_at_succ
set_option maxRecDepth 100000 in
set_option maxHeartbeats 8000000 in
theorem drawO (off : Nat) (W H : Nat) (AW AH PX PY RN RD LO HI INK den : Int) (g cap F T : Nat) (al l : List Int) (D : Nat → Int) (w : World)
    (hW : 1 ≤ W) (hW2 : W ≤ 96) (hH : 1 ≤ H) (hH2 : H ≤ 96) (hl : l.length = W * H) (hl2 : ∀ z ∈ l, 0 ≤ z ∧ z ≤ 255)
    (hAW : 1 ≤ AW) (hAW2 : AW ≤ 64) (hAH : 1 ≤ AH) (hAH2 : AH ≤ 64) (hal : (al.length : Int) = AW * AH) (hal2 : ∀ z ∈ al, 0 ≤ z ∧ z ≤ 255) (hcap : al.length ≤ cap)
    (hPX : -96 ≤ PX) (hPX2 : PX ≤ 96) (hPY : -96 ≤ PY) (hPY2 : PY ≤ 96) (hRN : 1 ≤ RN) (hRN2 : RN ≤ 64) (hRD : 1 ≤ RD) (hRD2 : RD ≤ 64) (hLO : 0 ≤ LO) (hLH : LO < HI) (hHI : HI ≤ 255) (hI : 0 ≤ INK) (hI2 : INK ≤ 255)
    (hden : 2 * RN = den) (hgT : g ≠ T) (hF : Frm w F T W H l) (hg : ∀ j, j < al.length → w.cell? ⟨g, off + j, none⟩ = some (.int .u8 (al.getD j 0)))
    (hD : ∀ y x, x < W → y < H → D (y * W + x) = col AW AH al LO HI INK (uu PX RD x) (uu PY RD y) den (l.getD (y * W + x) 0))
    (HR : Hid (∀ w' : World, (∀ j, j < al.length → w'.cell? ⟨g, off + j, none⟩ = some (.int .u8 (al.getD j 0))) → Calls Try.prog 18 #[Value.agg #[Value.int IntKind.i64 AW, Value.int IntKind.i64 AH, Value.slice (some ⟨g, off, none⟩) al.length cap]] w' (Ret (.bool true) w')))
    (HQ : Hid (∀ w', Calls Try.prog 19 #[.agg #[.int .i64 RN, .int .i64 RD]] w' (Ret (.bool true) w')))
    (HF : Hid (∀ z w', -96 ≤ z → z ≤ 96 → Calls Try.prog 26 #[.int .i64 z] w' (Ret (.bool false) w')))
    (HP : Hid (∀ (x y : Nat) (w' : World), x < W → y < H → Calls Try.prog 20 #[Value.agg #[Value.int IntKind.i64 PX, Value.int IntKind.i64 PY, Value.int IntKind.i64 RN, Value.int IntKind.i64 RD, Value.int IntKind.i64 LO, Value.int IntKind.i64 HI, Value.int IntKind.u8 INK], .int .i64 x, .int .i64 y] w' (Ret (.tuple #[.int .i64 (uu PX RD x), .int .i64 (uu PY RD y), .int .i64 den]) w')))
    (HA : Hid (∀ (u v : Int) (w' : World), 0 ≤ u → u ≤ AW * den → 0 ≤ v → v ≤ AH * den → (∀ j, j < al.length → w'.cell? ⟨g, off + j, none⟩ = some (.int .u8 (al.getD j 0))) → Calls Try.prog 27 #[Value.agg #[Value.int IntKind.i64 AW, Value.int IntKind.i64 AH, Value.slice (some ⟨g, off, none⟩) al.length cap], .int .i64 u, .int .i64 v, .int .i64 den] w' (Ret (.tuple #[.agg #[.int .i64 (frac AW AH al u v den).1, .int .i64 (frac AW AH al u v den).2], .int .i64 0]) w')))
    (HC : Hid (∀ (u v : Int) (w' : World), 0 ≤ u → u ≤ AW * den → 0 ≤ v → v ≤ AH * den → Calls Try.prog 22 #[.agg #[.int .i64 (frac AW AH al u v den).1, .int .i64 (frac AW AH al u v den).2], .int .i64 LO, .int .i64 HI] w' (Ret (.int .u8 (cov (frac AW AH al u v den).1 (frac AW AH al u v den).2 LO HI)) w')))
    (HB : Hid (∀ (o u v : Int) (w' : World), 0 ≤ o → o ≤ 255 → Calls Try.prog 21 #[.int .u8 o, .int .u8 INK, .int .u8 (cov (frac AW AH al u v den).1 (frac AW AH al u v den).2 LO HI)] w' (Ret (.int .u8 (blend o INK (cov (frac AW AH al u v den).1 (frac AW AH al u v den).2 LO HI))) w'))) :
    Calls Try.prog 15 #[.pointer (some ⟨F, 0, none⟩), Value.agg #[Value.int IntKind.i64 AW, Value.int IntKind.i64 AH, Value.slice (some ⟨g, off, none⟩) al.length cap], Value.agg #[Value.int IntKind.i64 PX, Value.int IntKind.i64 PY, Value.int IntKind.i64 RN, Value.int IntKind.i64 RD, Value.int IntKind.i64 LO, Value.int IntKind.i64 HI, Value.int IntKind.u8 INK]] w (fun e w' => e = .returned (.int .i64 0) ∧ Frm w' F T W H ((List.range l.length).map D) ∧ Sv T w w') := by
  have n1 : ¬ LO < 0 := by omega
  have n2 : ¬ 255 < HI := by omega
  have n3 : ¬ HI ≤ LO := by omega
  have hgH := Lib.hid hg
  have hlH := Lib.hid hl2
  have hDH := Lib.hid hD
  clear hg hl2 hD hal2
  go_enter Try.func15, Try.ntmps15
  go_upto_region 2 with fail
  have pn0 : ((w.alloc (.cells #[.int .i64 AW, .int .i64 AH, .slice (some ⟨g, off, none⟩) al.length cap] 30)).alloc (.cells #[.int .i64 PX, .int .i64 PY, .int .i64 RN, .int .i64 RD, .int .i64 LO, .int .i64 HI, .int .u8 INK] 39)).cell? ⟨w.heap.size + 1, 0, none⟩ = some (.int .i64 PX) := by go_simp
  have pn1 : ((w.alloc (.cells #[.int .i64 AW, .int .i64 AH, .slice (some ⟨g, off, none⟩) al.length cap] 30)).alloc (.cells #[.int .i64 PX, .int .i64 PY, .int .i64 RN, .int .i64 RD, .int .i64 LO, .int .i64 HI, .int .u8 INK] 39)).cell? ⟨w.heap.size + 1, 1, none⟩ = some (.int .i64 PY) := by go_simp
  have pn2 : ((w.alloc (.cells #[.int .i64 AW, .int .i64 AH, .slice (some ⟨g, off, none⟩) al.length cap] 30)).alloc (.cells #[.int .i64 PX, .int .i64 PY, .int .i64 RN, .int .i64 RD, .int .i64 LO, .int .i64 HI, .int .u8 INK] 39)).cell? ⟨w.heap.size + 1, 2, none⟩ = some (.int .i64 RN) := by go_simp
  have pn3 : ((w.alloc (.cells #[.int .i64 AW, .int .i64 AH, .slice (some ⟨g, off, none⟩) al.length cap] 30)).alloc (.cells #[.int .i64 PX, .int .i64 PY, .int .i64 RN, .int .i64 RD, .int .i64 LO, .int .i64 HI, .int .u8 INK] 39)).cell? ⟨w.heap.size + 1, 3, none⟩ = some (.int .i64 RD) := by go_simp
  have pn4 : ((w.alloc (.cells #[.int .i64 AW, .int .i64 AH, .slice (some ⟨g, off, none⟩) al.length cap] 30)).alloc (.cells #[.int .i64 PX, .int .i64 PY, .int .i64 RN, .int .i64 RD, .int .i64 LO, .int .i64 HI, .int .u8 INK] 39)).cell? ⟨w.heap.size + 1, 4, none⟩ = some (.int .i64 LO) := by go_simp
  have pn5 : ((w.alloc (.cells #[.int .i64 AW, .int .i64 AH, .slice (some ⟨g, off, none⟩) al.length cap] 30)).alloc (.cells #[.int .i64 PX, .int .i64 PY, .int .i64 RN, .int .i64 RD, .int .i64 LO, .int .i64 HI, .int .u8 INK] 39)).cell? ⟨w.heap.size + 1, 5, none⟩ = some (.int .i64 HI) := by go_simp
  have pn6 : ((w.alloc (.cells #[.int .i64 AW, .int .i64 AH, .slice (some ⟨g, off, none⟩) al.length cap] 30)).alloc (.cells #[.int .i64 PX, .int .i64 PY, .int .i64 RN, .int .i64 RD, .int .i64 LO, .int .i64 HI, .int .u8 INK] 39)).cell? ⟨w.heap.size + 1, 6, none⟩ = some (.int .u8 INK) := by go_simp
  have fa0 : ((w.alloc (.cells #[.int .i64 AW, .int .i64 AH, .slice (some ⟨g, off, none⟩) al.length cap] 30)).alloc (.cells #[.int .i64 PX, .int .i64 PY, .int .i64 RN, .int .i64 RD, .int .i64 LO, .int .i64 HI, .int .u8 INK] 39)).cell? ⟨w.heap.size, 0, none⟩ = some (.int .i64 AW) := by go_simp
  have fa1 : ((w.alloc (.cells #[.int .i64 AW, .int .i64 AH, .slice (some ⟨g, off, none⟩) al.length cap] 30)).alloc (.cells #[.int .i64 PX, .int .i64 PY, .int .i64 RN, .int .i64 RD, .int .i64 LO, .int .i64 HI, .int .u8 INK] 39)).cell? ⟨w.heap.size, 1, none⟩ = some (.int .i64 AH) := by go_simp
  have fa2 : ((w.alloc (.cells #[.int .i64 AW, .int .i64 AH, .slice (some ⟨g, off, none⟩) al.length cap] 30)).alloc (.cells #[.int .i64 PX, .int .i64 PY, .int .i64 RN, .int .i64 RD, .int .i64 LO, .int .i64 HI, .int .u8 INK] 39)).cell? ⟨w.heap.size, 2, none⟩ = some (.slice (some ⟨g, off, none⟩) al.length cap) := by go_simp
  have hB : Below w.heap.size w ((w.alloc (.cells #[.int .i64 AW, .int .i64 AH, .slice (some ⟨g, off, none⟩) al.length cap] 30)).alloc (.cells #[.int .i64 PX, .int .i64 PY, .int .i64 RN, .int .i64 RD, .int .i64 LO, .int .i64 HI, .int .u8 INK] 39)) := below_alloc (below_alloc (Below.refl _ _) _) _
  have hgB : Hid (∀ j, j < al.length → ((w.alloc (.cells #[.int .i64 AW, .int .i64 AH, .slice (some ⟨g, off, none⟩) al.length cap] 30)).alloc (.cells #[.int .i64 PX, .int .i64 PY, .int .i64 RN, .int .i64 RD, .int .i64 LO, .int .i64 HI, .int .u8 INK] 39)).cell? ⟨g, off + j, none⟩ = some (.int .u8 (al.getD j 0))) := fun j hj => cell_later hB (hgH.out j hj)
  have lF : F < w.heap.size := blk_lt hF.1
  have lT : T < w.heap.size := blk_lt hF.2.1
  have hFT := hF.2.2
  have hFH := Lib.hid hF
  clear hF
  generalize ((w.alloc (.cells #[.int .i64 AW, .int .i64 AH, .slice (some ⟨g, off, none⟩) al.length cap] 30)).alloc (.cells #[.int .i64 PX, .int .i64 PY, .int .i64 RN, .int .i64 RD, .int .i64 LO, .int .i64 HI, .int .u8 INK] 39)) = wb at *
  go_upto_region 4 with (first
    | (go_at_call 18; refine (HR.out _ hgB.out).mono ?_; rintro e w1 ⟨rfl, hq⟩; replace pn0 := cell_later hq pn0; replace pn1 := cell_later hq pn1; replace pn2 := cell_later hq pn2; replace pn3 := cell_later hq pn3; replace pn4 := cell_later hq pn4; replace pn5 := cell_later hq pn5; replace pn6 := cell_later hq pn6; replace fa0 := cell_later hq fa0; replace fa1 := cell_later hq fa1; replace fa2 := cell_later hq fa2; replace hB := below_step hB hq)
    | (go_at_call 19; refine (HQ.out _).mono ?_; rintro e w2 ⟨rfl, hq⟩; replace pn0 := cell_later hq pn0; replace pn1 := cell_later hq pn1; replace pn2 := cell_later hq pn2; replace pn3 := cell_later hq pn3; replace pn4 := cell_later hq pn4; replace pn5 := cell_later hq pn5; replace pn6 := cell_later hq pn6; replace fa0 := cell_later hq fa0; replace fa1 := cell_later hq fa1; replace fa2 := cell_later hq fa2; replace hB := below_step hB hq)
    | (go_at_call_of 26 (Value.int IntKind.i64 PX); refine (HF.out _ _ hPX hPX2).mono ?_; rintro e w3 ⟨rfl, hq⟩; replace pn0 := cell_later hq pn0; replace pn1 := cell_later hq pn1; replace pn2 := cell_later hq pn2; replace pn3 := cell_later hq pn3; replace pn4 := cell_later hq pn4; replace pn5 := cell_later hq pn5; replace pn6 := cell_later hq pn6; replace fa0 := cell_later hq fa0; replace fa1 := cell_later hq fa1; replace fa2 := cell_later hq fa2; replace hB := below_step hB hq)
    | (go_at_call_of 26 (Value.int IntKind.i64 PY); refine (HF.out _ _ hPY hPY2).mono ?_; rintro e w4 ⟨rfl, hq⟩; replace pn0 := cell_later hq pn0; replace pn1 := cell_later hq pn1; replace pn2 := cell_later hq pn2; replace pn3 := cell_later hq pn3; replace pn4 := cell_later hq pn4; replace pn5 := cell_later hq pn5; replace pn6 := cell_later hq pn6; replace fa0 := cell_later hq fa0; replace fa1 := cell_later hq fa1; replace fa2 := cell_later hq fa2; replace hB := below_step hB hq))
  obtain ⟨wz, hwz⟩ : ∃ wz, wz = w4 := ⟨_, rfl⟩
  rw [← hwz] at pn0 pn1 pn2 pn3 pn4 pn5 pn6 fa0 fa1 fa2 hB ⊢
  clear hwz hq
  have bF : wz.heap[F]? = some (.cells #[.int .i64 W, .int .i64 H, .slice (some ⟨T, 0, none⟩) l.length l.length] 63 (0, 0)) := (hB.block F lF).trans hFH.out.1
  have bT : wz.heap[T]? = some (.cells ((cur l D 0).map (Value.int .u8)).toArray 5 (0, 0)) := by rw [cur_zero]; exact (hB.block T lT).trans hFH.out.2.1
  have hgZ : Hid (∀ j, j < al.length → wz.cell? ⟨g, off + j, none⟩ = some (.int .u8 (al.getD j 0))) := fun j hj => cell_later hB (hgH.out j hj)
  have f0 : wz.cell? ⟨F, 0, none⟩ = some (.int .i64 W) := blk_cell bF 0
  have f1 : wz.cell? ⟨F, 1, none⟩ = some (.int .i64 H) := blk_cell bF 1
  have f2 : wz.cell? ⟨F, 2, none⟩ = some (.slice (some ⟨T, 0, none⟩) l.length l.length) := blk_cell bF 2
  have bFH := Lib.hid bF
  have hBH := Lib.hid hB
  have lz : w.heap.size + 1 < wz.heap.size := World.block_lt_of_cell? _ _ pn0
  have lzT : T < wz.heap.size := blk_lt bT
  clear bF hB hgH hgB n1 n2 n3
  go_upto_region 5 with fail
  go_loopw [59] (OutI wz F T W H l D) (fun i _ => (H - intOf i).toNat)
  case atStart => exact ⟨0, rfl, by omega, by rw [Nat.zero_mul]; exact bT, Sv.refl _ _⟩
  case round =>
    obtain ⟨y, rfl, hy, hTy, hSy⟩ := hrel
    have hTy2 := Lib.hid hTy
    clear hTy
    by_cases hyH : y = H
    · subst hyH
      have g0 : ¬ (y : Int) < (y : Int) := by omega
      go_wp2_with fail
      go_ret
      refine ⟨rfl, ⟨?_, ?_, hFT⟩, Sv.after hBH.out hSy⟩
      · have := (hSy.block F (blk_lt bFH.out) hFT).trans bFH.out
        simpa [hl] using this
      · have := hTy2.out
        rw [cur_full (by rw [hl, Nat.mul_comm]; omega), hl] at this
        exact this
    · have g0 : (y : Int) < (H : Int) := by omega
      have g1 : IntKind.i64.wrap ((y : Int) + 1) = (y : Int) + 1 := iw (by omega) (by omega)
      have e0 := hSy.cell (a := ⟨F, 0, none⟩) hFT f0
      go_upto_region 7 with fail
      go_step3
      go_wp2_with fail
      go_step3
      go_upto_region 8 with fail
      go_loopw [67] (InI wz F T W y l D) (fun i _ => (W - intOf i).toNat)
      case atStart => exact ⟨0, rfl, by omega, by rw [Nat.add_zero]; exact hTy2.out, hSy⟩
      case round =>
        obtain ⟨x, rfl, hx, hTx, hSx⟩ := hrel
        by_cases hxW : x = W
        · subst hxW
          have g2 : ¬ (x : Int) < (x : Int) := by omega
          go_wp2_with fail
          refine ⟨⟨y + 1, by congr 1, by omega, by rw [Nat.add_mul, Nat.one_mul]; exact hTx, hSx⟩, by simp [intOf]; omega⟩
        · have g2 : (x : Int) < (W : Int) := by omega
          have g3 : IntKind.i64.wrap ((x : Int) + 1) = (x : Int) + 1 := iw (by omega) (by omega)
          have hxl : x < W := by omega
          have hyl : y < H := by omega
          have hm1 : (y + 1) * W ≤ H * W := Nat.mul_le_mul_right W (by omega)
          have hm2 : (y + 1) * W = y * W + W := by rw [Nat.add_mul, Nat.one_mul]
          have hm3 : H * W = W * H := Nat.mul_comm _ _
          have hp : y * W + x < l.length := by omega
          have hDp := hDH.out y x hxl hyl
          have hTxH := Lib.hid hTx
          clear hTx
          have px0 := hSx.cell (a := ⟨w.heap.size + 1, 0, none⟩) (by show w.heap.size + 1 ≠ T; omega) pn0
          have px1 := hSx.cell (a := ⟨w.heap.size + 1, 1, none⟩) (by show w.heap.size + 1 ≠ T; omega) pn1
          have px2 := hSx.cell (a := ⟨w.heap.size + 1, 2, none⟩) (by show w.heap.size + 1 ≠ T; omega) pn2
          have px3 := hSx.cell (a := ⟨w.heap.size + 1, 3, none⟩) (by show w.heap.size + 1 ≠ T; omega) pn3
          have px4 := hSx.cell (a := ⟨w.heap.size + 1, 4, none⟩) (by show w.heap.size + 1 ≠ T; omega) pn4
          have px5 := hSx.cell (a := ⟨w.heap.size + 1, 5, none⟩) (by show w.heap.size + 1 ≠ T; omega) pn5
          have px6 := hSx.cell (a := ⟨w.heap.size + 1, 6, none⟩) (by show w.heap.size + 1 ≠ T; omega) pn6
          have ax0 := hSx.cell (a := ⟨w.heap.size, 0, none⟩) (by show w.heap.size ≠ T; omega) fa0
          have ax1 := hSx.cell (a := ⟨w.heap.size, 1, none⟩) (by show w.heap.size ≠ T; omega) fa1
          have ax2 := hSx.cell (a := ⟨w.heap.size, 2, none⟩) (by show w.heap.size ≠ T; omega) fa2
          have k1 : IntKind.i64.wrap (AW * den) = AW * den := by
            have q1 : 0 ≤ AW * den := Int.mul_nonneg (by omega) (by omega)
            have q2 : AW * den ≤ 64 * 128 := Int.mul_le_mul hAW2 (by omega) (by omega) (by omega)
            exact iw (by omega) (by omega)
          have k2 : IntKind.i64.wrap (AH * den) = AH * den := by
            have q1 : 0 ≤ AH * den := Int.mul_nonneg (by omega) (by omega)
            have q2 : AH * den ≤ 64 * 128 := Int.mul_le_mul hAH2 (by omega) (by omega) (by omega)
            exact iw (by omega) (by omega)
          unfold col at hDp
          by_cases c1 : uu PX RD x < 0
          · rw [if_pos (.inl c1)] at hDp
            have t1 : decide (uu PX RD x < 0) = true := decide_eq_true c1
            go_wp2_with (go_at_call 20; refine (HP.out x y _ hxl hyl).mono ?_; rintro e w5 ⟨rfl, hq⟩; have aw0 := cell_later hq ax0; have aw1 := cell_later hq ax1; have aw2 := cell_later hq ax2; have pw0 := cell_later hq px0; have pw1 := cell_later hq px1; have pw2 := cell_later hq px2; have pw3 := cell_later hq px3; have pw4 := cell_later hq px4; have pw5 := cell_later hq px5; have pw6 := cell_later hq px6)
            refine ⟨⟨x + 1, by congr 1, by omega, ?_, hSx.step hq⟩, by simp [intOf]; omega⟩
            rw [show y * W + (x + 1) = y * W + x + 1 by omega, cur_same (p := y * W + x) (by omega) (fun j h1 h2 _ => by rw [show j = y * W + x by omega]; exact hDp)]
            exact (hq.block T (blk_lt hTxH.out)).trans hTxH.out
          · by_cases c2 : AW * den < uu PX RD x
            · rw [if_pos (.inr (.inl c2))] at hDp
              go_wp2_with (go_at_call 20; refine (HP.out x y _ hxl hyl).mono ?_; rintro e w5 ⟨rfl, hq⟩; have aw0 := cell_later hq ax0; have aw1 := cell_later hq ax1; have aw2 := cell_later hq ax2; have pw0 := cell_later hq px0; have pw1 := cell_later hq px1; have pw2 := cell_later hq px2; have pw3 := cell_later hq px3; have pw4 := cell_later hq px4; have pw5 := cell_later hq px5; have pw6 := cell_later hq px6)
              refine ⟨⟨x + 1, by congr 1, by omega, ?_, hSx.step hq⟩, by simp [intOf]; omega⟩
              rw [show y * W + (x + 1) = y * W + x + 1 by omega, cur_same (p := y * W + x) (by omega) (fun j h1 h2 _ => by rw [show j = y * W + x by omega]; exact hDp)]
              exact (hq.block T (blk_lt hTxH.out)).trans hTxH.out
            · by_cases c3 : uu PY RD y < 0
              · have hrow : ∀ j, y * W + x ≤ j → j < y * W + W → D j = l.getD j 0 := by
                  intro j h1 h2
                  have hd := hDH.out y (j - y * W) (by omega) hyl
                  rw [show y * W + (j - y * W) = j by omega] at hd
                  rw [hd]; unfold col; rw [if_pos (.inr (.inr (.inl c3)))]
                go_wp2_with (go_at_call 20; refine (HP.out x y _ hxl hyl).mono ?_; rintro e w5 ⟨rfl, hq⟩; have aw0 := cell_later hq ax0; have aw1 := cell_later hq ax1; have aw2 := cell_later hq ax2; have pw0 := cell_later hq px0; have pw1 := cell_later hq px1; have pw2 := cell_later hq px2; have pw3 := cell_later hq px3; have pw4 := cell_later hq px4; have pw5 := cell_later hq px5; have pw6 := cell_later hq px6)
                rw [Exit.noGoto_normal]
                go_wp2_with fail
                refine ⟨⟨y + 1, by congr 1, by omega, ?_, hSx.step hq⟩, by simp [intOf]; omega⟩
                rw [hm2, cur_same (p := y * W + x) (by omega) (fun j h1 h2 _ => hrow j h1 h2)]
                exact (hq.block T (blk_lt hTxH.out)).trans hTxH.out
              · by_cases c4 : AH * den < uu PY RD y
                · have hrow : ∀ j, y * W + x ≤ j → j < y * W + W → D j = l.getD j 0 := by
                    intro j h1 h2
                    have hd := hDH.out y (j - y * W) (by omega) hyl
                    rw [show y * W + (j - y * W) = j by omega] at hd
                    rw [hd]; unfold col; rw [if_pos (.inr (.inr (.inr c4)))]
                  go_wp2_with (go_at_call 20; refine (HP.out x y _ hxl hyl).mono ?_; rintro e w5 ⟨rfl, hq⟩; have aw0 := cell_later hq ax0; have aw1 := cell_later hq ax1; have aw2 := cell_later hq ax2; have pw0 := cell_later hq px0; have pw1 := cell_later hq px1; have pw2 := cell_later hq px2; have pw3 := cell_later hq px3; have pw4 := cell_later hq px4; have pw5 := cell_later hq px5; have pw6 := cell_later hq px6)
                  rw [Exit.noGoto_normal]
                  go_wp2_with fail
                  refine ⟨⟨y + 1, by congr 1, by omega, ?_, hSx.step hq⟩, by simp [intOf]; omega⟩
                  rw [hm2, cur_same (p := y * W + x) (by omega) (fun j h1 h2 _ => hrow j h1 h2)]
                  exact (hq.block T (blk_lt hTxH.out)).trans hTxH.out
                · rw [if_neg (by omega)] at hDp
                  have hm5 : H * W ≤ 96 * 96 := Nat.mul_le_mul hH2 hW2
                  obtain ⟨at_, hat⟩ : ∃ a : Nat, a = y * W + x := ⟨_, rfl⟩
                  have m0 : (y : Int) * (W : Int) + (x : Int) = (at_ : Int) := by rw [hat]; push_cast; rfl
                  have m3 : (y : Int) * (W : Int) = ((y * W : Nat) : Int) := by push_cast; rfl
                  have m1 : IntKind.i64.wrap ((y : Int) * (W : Int)) = (y : Int) * (W : Int) := iw (by omega) (by omega)
                  have m2 : IntKind.i64.wrap ((y : Int) * (W : Int) + (x : Int)) = (at_ : Int) := by rw [m0]; exact iw (by omega) (by omega)
                  clear m0 m3
                  have hatH := Lib.hid hat
                  clear hat
                  go_upto_region 15 with (first | (go_at_call 20; refine (HP.out x y _ hxl hyl).mono ?_; rintro e w5 ⟨rfl, hq⟩; have aw0 := cell_later hq ax0; have aw1 := cell_later hq ax1; have aw2 := cell_later hq ax2; have pw0 := cell_later hq px0; have pw1 := cell_later hq px1; have pw2 := cell_later hq px2; have pw3 := cell_later hq px3; have pw4 := cell_later hq px4; have pw5 := cell_later hq px5; have pw6 := cell_later hq px6) | (go_at_call 27; refine (HA.out (uu PX RD x) (uu PY RD y) _ (by omega) (by omega) (by omega) (by omega) (fun j hj => cell_later hq (hSx.cell hgT (hgZ.out j hj)))).mono ?_; rintro e w6 ⟨rfl, hq2⟩; have z0 := cell_later hq2 (cell_later hq (hSx.cell (a := ⟨F, 0, none⟩) hFT f0)); have z2 := cell_later hq2 (cell_later hq (hSx.cell (a := ⟨F, 2, none⟩) hFT f2)); have lz0 : F < w6.heap.size := World.block_lt_of_cell? _ _ z0; have pz0 := cell_later hq2 pw0; have pz1 := cell_later hq2 pw1; have pz2 := cell_later hq2 pw2; have pz3 := cell_later hq2 pw3; have pz4 := cell_later hq2 pw4; have pz5 := cell_later hq2 pw5; have pz6 := cell_later hq2 pw6; have lp0 : w.heap.size + 1 < w6.heap.size := World.block_lt_of_cell? _ _ pz0))
                  have zT : w6.heap[T]? = some (.cells ((cur l D (y * W + x)).map (Value.int .u8)).toArray 5 (0, 0)) := (hq2.block T (Nat.lt_of_lt_of_le (blk_lt hTxH.out) hq.size)).trans ((hq.block T (blk_lt hTxH.out)).trans hTxH.out)
                  have hat := hatH.out
                  rw [← hat] at zT hp hDp
                  have hlD : T < w6.heap.size := blk_lt zT
                  have hFD : F < w6.heap.size := lz0
                  have fe0 : (w6.alloc (.cells #[.int .i64 (frac AW AH al (uu PX RD x) (uu PY RD y) den).1, .int .i64 (frac AW AH al (uu PX RD x) (uu PY RD y) den).2] 59)).cell? ⟨w6.heap.size, 0, none⟩ = some (.int .i64 (frac AW AH al (uu PX RD x) (uu PY RD y) den).1) := by go_simp
                  have fe1 : (w6.alloc (.cells #[.int .i64 (frac AW AH al (uu PX RD x) (uu PY RD y) den).1, .int .i64 (frac AW AH al (uu PX RD x) (uu PY RD y) den).2] 59)).cell? ⟨w6.heap.size, 1, none⟩ = some (.int .i64 (frac AW AH al (uu PX RD x) (uu PY RD y) den).2) := by go_simp
                  have fe2 := cell_later (below_alloc (Below.refl _ _) (.cells #[.int .i64 (frac AW AH al (uu PX RD x) (uu PY RD y) den).1, .int .i64 (frac AW AH al (uu PX RD x) (uu PY RD y) den).2] 59)) z2
                  have fe4 := cell_later (below_alloc (Below.refl _ _) (.cells #[.int .i64 (frac AW AH al (uu PX RD x) (uu PY RD y) den).1, .int .i64 (frac AW AH al (uu PX RD x) (uu PY RD y) den).2] 59)) pz4
                  have fe5 := cell_later (below_alloc (Below.refl _ _) (.cells #[.int .i64 (frac AW AH al (uu PX RD x) (uu PY RD y) den).1, .int .i64 (frac AW AH al (uu PX RD x) (uu PY RD y) den).2] 59)) pz5
                  have fe6 := cell_later (below_alloc (Below.refl _ _) (.cells #[.int .i64 (frac AW AH al (uu PX RD x) (uu PY RD y) den).1, .int .i64 (frac AW AH al (uu PX RD x) (uu PY RD y) den).2] 59)) pz6
                  have hTf : (w6.alloc (.cells #[.int .i64 (frac AW AH al (uu PX RD x) (uu PY RD y) den).1, .int .i64 (frac AW AH al (uu PX RD x) (uu PY RD y) den).2] 59)).heap[T]? = some (.cells ((cur l D at_).map (Value.int .u8)).toArray 5 (0, 0)) := blk_alloc zT _
                  have svf : Sv T wz (w6.alloc (.cells #[.int .i64 (frac AW AH al (uu PX RD x) (uu PY RD y) den).1, .int .i64 (frac AW AH al (uu PX RD x) (uu PY RD y) den).2] 59)) := ((hSx.step hq).step hq2).step (below_alloc (Below.refl _ _) _)
                  obtain ⟨old, hold0⟩ : ∃ old, l.getD at_ 0 = old := ⟨_, rfl⟩
                  have hold : 0 ≤ old ∧ old ≤ 255 := by
                    rw [← hold0, List.getD_eq_getElem?_getD, List.getElem?_eq_getElem hp]; exact hlH.out _ (List.getElem_mem hp)
                  have hDat : D at_ = blend old INK (cov (frac AW AH al (uu PX RD x) (uu PY RD y) den).1 (frac AW AH al (uu PX RD x) (uu PY RD y) den).2 LO HI) := by rw [hDp, hold0]
                  have pixf : (w6.alloc (.cells #[.int .i64 (frac AW AH al (uu PX RD x) (uu PY RD y) den).1, .int .i64 (frac AW AH al (uu PX RD x) (uu PY RD y) den).2] 59)).cell? ⟨T, at_, none⟩ = some (.int .u8 old) := by
                    rw [blk_cell hTf at_, List.getElem?_toArray, List.getElem?_map, cur_get hp, if_neg (by omega), hold0]; rfl
                  have hszf : (w6.alloc (.cells #[.int .i64 (frac AW AH al (uu PX RD x) (uu PY RD y) den).1, .int .i64 (frac AW AH al (uu PX RD x) (uu PY RD y) den).2] 59)).heap.size = w6.heap.size + 1 := by simp
                  have i1 : (0 : Int) ≤ (at_ : Int) := by omega
                  have i2 : (at_ : Int) < (l.length : Int) := by omega
                  have i3 : (at_ : Int) < (W : Int) * (H : Int) := by rw [← Int.natCast_mul, ← hl]; omega
                  clear hat
                  clear zT z0 z2 pz0 pz1 pz2 pz3 pz4 pz5 pz6 pw0 pw1 pw2 pw3 pw4 pw5 pw6 aw0 aw1 aw2 px0 px1 px2 px3 px4 px5 px6 ax0 ax1 ax2
                  generalize w6.alloc (.cells #[.int .i64 (frac AW AH al (uu PX RD x) (uu PY RD y) den).1, .int .i64 (frac AW AH al (uu PX RD x) (uu PY RD y) den).2] 59) = wf at *
                  refine wp_region_held_drew (S := fun w' => w'.cell? ⟨F, 2, none⟩ = some (.slice (some ⟨T, 0, none⟩) l.length l.length) ∧ w'.cell? ⟨w.heap.size + 1, 4, none⟩ = some (.int .i64 LO) ∧ w'.cell? ⟨w.heap.size + 1, 5, none⟩ = some (.int .i64 HI) ∧ w'.cell? ⟨w.heap.size + 1, 6, none⟩ = some (.int .u8 INK) ∧ w'.cell? ⟨w6.heap.size, 0, none⟩ = some (.int .i64 (frac AW AH al (uu PX RD x) (uu PY RD y) den).1) ∧ w'.cell? ⟨w6.heap.size, 1, none⟩ = some (.int .i64 (frac AW AH al (uu PX RD x) (uu PY RD y) den).2)) (by kernel_rfl) ⟨fe2, fe4, fe5, fe6, fe0, fe1⟩ (fun hHeld0 => ?_)
                  refine wpAnyH_take (i := 0) (oi := { dst := some 117, op := Op.move (Operand.tmp 0), type := 26, pos := "frame.go:63", after := #[], guard := none }) (v := ?v0) rfl (by kernel_rfl) (by kernel_rfl) (by kernel_rfl) (fun _ _ _ h => h) (Or.inl ⟨by rfl, ?hy0⟩) (by assumption) ?rest0
                  case hy0 => (intro w hSw; (try dsimp only at hSw); go_simp; try with_reducible rfl)
                  try simp only [Act.put, List.setIfInBounds_toArray, List.set_cons_zero, List.set_cons_succ]
                  refine wpAnyH_take (i := 1) (oi := { dst := some 118, op := Op.nilCheck (Operand.tmp 117), type := 0, pos := "frame.go:63", after := #[{ on := 0, ground := Ground.data }], guard := none }) (v := ?v1) rfl (by kernel_rfl) (by kernel_rfl) (by kernel_rfl) (fun _ _ _ h => h) (Or.inl ⟨by rfl, ?hy1⟩) (by assumption) ?rest1
                  case hy1 => (intro w hSw; (try dsimp only at hSw); go_simp; try with_reducible rfl)
                  try simp only [Act.put, List.setIfInBounds_toArray, List.set_cons_zero, List.set_cons_succ]
                  refine wpAnyH_take (i := 2) (oi := { dst := some 119, op := Op.fieldAddr 63 (Operand.tmp 118) 0, type := 0, pos := "frame.go:63", after := #[{ on := 1, ground := Ground.data }], guard := none }) (v := ?v2) rfl (by kernel_rfl) (by kernel_rfl) (by kernel_rfl) (fun _ _ _ h => h) (Or.inl ⟨by rfl, ?hy2⟩) (by assumption) ?rest2
                  case hy2 => (intro w hSw; (try dsimp only at hSw); go_simp; try with_reducible rfl)
                  try simp only [Act.put, List.setIfInBounds_toArray, List.set_cons_zero, List.set_cons_succ]
                  refine wpAnyH_take (i := 3) (oi := { dst := some 120, op := Op.fieldAddr 30 (Operand.tmp 119) 2, type := 0, pos := "frame.go:63", after := #[{ on := 2, ground := Ground.data }], guard := none }) (v := ?v3) rfl (by kernel_rfl) (by kernel_rfl) (by kernel_rfl) (fun _ _ _ h => h) (Or.inl ⟨by rfl, ?hy3⟩) (by assumption) ?rest3
                  case hy3 => (intro w hSw; (try dsimp only at hSw); go_simp; try with_reducible rfl)
                  try simp only [Act.put, List.setIfInBounds_toArray, List.set_cons_zero, List.set_cons_succ]
                  refine wpAnyH_take (i := 4) (oi := { dst := some 121, op := Op.load 28 (Operand.tmp 120), type := 28, pos := "frame.go:63", after := #[{ on := 3, ground := Ground.data }], guard := none }) (v := ?v4) rfl (by kernel_rfl) (by kernel_rfl) (by kernel_rfl) (fun _ _ _ h => h) (Or.inl ⟨by rfl, ?hy4⟩) (by assumption) ?rest4
                  case hy4 => (intro w hSw; (try dsimp only at hSw); go_simp; try with_reducible rfl)
                  try simp only [Act.put, List.setIfInBounds_toArray, List.set_cons_zero, List.set_cons_succ]
                  refine wpAnyH_take (i := 5) (oi := { dst := some 122, op := Op.move (Operand.tmp 15), type := 3, pos := "frame.go:63", after := #[], guard := none }) (v := ?v5) rfl (by kernel_rfl) (by kernel_rfl) (by kernel_rfl) (fun _ _ _ h => h) (Or.inl ⟨by rfl, ?hy5⟩) (by assumption) ?rest5
                  case hy5 => (intro w hSw; (try dsimp only at hSw); go_simp; try with_reducible rfl)
                  try simp only [Act.put, List.setIfInBounds_toArray, List.set_cons_zero, List.set_cons_succ]
                  refine wpAnyH_take (i := 6) (oi := { dst := some 123, op := Op.move (Operand.tmp 0), type := 26, pos := "frame.go:63", after := #[], guard := none }) (v := ?v6) rfl (by kernel_rfl) (by kernel_rfl) (by kernel_rfl) (fun _ _ _ h => h) (Or.inl ⟨by rfl, ?hy6⟩) (by assumption) ?rest6
                  case hy6 => (intro w hSw; (try dsimp only at hSw); go_simp; try with_reducible rfl)
                  try simp only [Act.put, List.setIfInBounds_toArray, List.set_cons_zero, List.set_cons_succ]
                  refine wpAnyH_take (i := 7) (oi := { dst := some 124, op := Op.nilCheck (Operand.tmp 123), type := 0, pos := "frame.go:63", after := #[{ on := 6, ground := Ground.data }], guard := none }) (v := ?v7) rfl (by kernel_rfl) (by kernel_rfl) (by kernel_rfl) (fun _ _ _ h => h) (Or.inl ⟨by rfl, ?hy7⟩) (by assumption) ?rest7
                  case hy7 => (intro w hSw; (try dsimp only at hSw); go_simp; try with_reducible rfl)
                  try simp only [Act.put, List.setIfInBounds_toArray, List.set_cons_zero, List.set_cons_succ]
                  refine wpAnyH_take (i := 8) (oi := { dst := some 125, op := Op.fieldAddr 63 (Operand.tmp 124) 0, type := 0, pos := "frame.go:63", after := #[{ on := 7, ground := Ground.data }], guard := none }) (v := ?v8) rfl (by kernel_rfl) (by kernel_rfl) (by kernel_rfl) (fun _ _ _ h => h) (Or.inl ⟨by rfl, ?hy8⟩) (by assumption) ?rest8
                  case hy8 => (intro w hSw; (try dsimp only at hSw); go_simp; try with_reducible rfl)
                  try simp only [Act.put, List.setIfInBounds_toArray, List.set_cons_zero, List.set_cons_succ]
                  refine wpAnyH_take (i := 9) (oi := { dst := some 126, op := Op.fieldAddr 30 (Operand.tmp 125) 2, type := 0, pos := "frame.go:63", after := #[{ on := 8, ground := Ground.data }], guard := none }) (v := ?v9) rfl (by kernel_rfl) (by kernel_rfl) (by kernel_rfl) (fun _ _ _ h => h) (Or.inl ⟨by rfl, ?hy9⟩) (by assumption) ?rest9
                  case hy9 => (intro w hSw; (try dsimp only at hSw); go_simp; try with_reducible rfl)
                  try simp only [Act.put, List.setIfInBounds_toArray, List.set_cons_zero, List.set_cons_succ]
                  refine wpAnyH_take (i := 10) (oi := { dst := some 127, op := Op.load 28 (Operand.tmp 126), type := 28, pos := "frame.go:63", after := #[{ on := 9, ground := Ground.data }], guard := none }) (v := ?v10) rfl (by kernel_rfl) (by kernel_rfl) (by kernel_rfl) (fun _ _ _ h => h) (Or.inl ⟨by rfl, ?hy10⟩) (by assumption) ?rest10
                  case hy10 => (intro w hSw; (try dsimp only at hSw); go_simp; try with_reducible rfl)
                  try simp only [Act.put, List.setIfInBounds_toArray, List.set_cons_zero, List.set_cons_succ]
                  refine wpAnyH_take (i := 11) (oi := { dst := some 128, op := Op.move (Operand.tmp 15), type := 3, pos := "frame.go:63", after := #[], guard := none }) (v := ?v11) rfl (by kernel_rfl) (by kernel_rfl) (by kernel_rfl) (fun _ _ _ h => h) (Or.inl ⟨by rfl, ?hy11⟩) (by assumption) ?rest11
                  case hy11 => (intro w hSw; (try dsimp only at hSw); go_simp; try with_reducible rfl)
                  try simp only [Act.put, List.setIfInBounds_toArray, List.set_cons_zero, List.set_cons_succ]
                  refine wpAnyH_take (i := 12) (oi := { dst := some 129, op := Op.indexAddr 28 (Operand.tmp 127) (Operand.tmp 128), type := 0, pos := "frame.go:63", after := #[{ on := 10, ground := Ground.data }, { on := 11, ground := Ground.data }], guard := none }) (v := ?v12) rfl (by kernel_rfl) (by kernel_rfl) (by kernel_rfl) (fun _ _ _ h => h) (Or.inl ⟨by rfl, ?hy12⟩) (by assumption) ?rest12
                  case hy12 => (intro w hSw; (try dsimp only at hSw); go_simp; try with_reducible rfl)
                  try simp only [Act.put, List.setIfInBounds_toArray, List.set_cons_zero, List.set_cons_succ]
                  refine wpAnyH_take (i := 14) (oi := { dst := some 131, op := Op.fieldAddr 39 (Operand.tmp 5) 5, type := 0, pos := "frame.go:63", after := #[], guard := none }) (v := ?v14) rfl (by kernel_rfl) (by kernel_rfl) (by kernel_rfl) (fun _ _ _ h => h) (Or.inl ⟨by rfl, ?hy14⟩) (by assumption) ?rest14
                  case hy14 => (intro w hSw; (try dsimp only at hSw); go_simp; try with_reducible rfl)
                  try simp only [Act.put, List.setIfInBounds_toArray, List.set_cons_zero, List.set_cons_succ]
                  refine wpAnyH_take (i := 15) (oi := { dst := some 132, op := Op.load 5 (Operand.tmp 131), type := 5, pos := "frame.go:63", after := #[{ on := 14, ground := Ground.data }], guard := none }) (v := ?v15) rfl (by kernel_rfl) (by kernel_rfl) (by kernel_rfl) (fun _ _ _ h => h) (Or.inl ⟨by rfl, ?hy15⟩) (by assumption) ?rest15
                  case hy15 => (intro w hSw; (try dsimp only at hSw); go_simp; try with_reducible rfl)
                  try simp only [Act.put, List.setIfInBounds_toArray, List.set_cons_zero, List.set_cons_succ]
                  refine wpAnyH_take (i := 16) (oi := { dst := some 133, op := Op.load 59 (Operand.tmp 13), type := 59, pos := "frame.go:63", after := #[], guard := none }) (v := ?v16) rfl (by kernel_rfl) (by kernel_rfl) (by kernel_rfl) (fun _ _ _ h => h) (Or.inl ⟨by rfl, ?hy16⟩) (by assumption) ?rest16
                  case hy16 => (intro w hSw; (try dsimp only at hSw); go_simp; try with_reducible rfl)
                  try simp only [Act.put, List.setIfInBounds_toArray, List.set_cons_zero, List.set_cons_succ]
                  refine wpAnyH_take (i := 17) (oi := { dst := some 134, op := Op.fieldAddr 39 (Operand.tmp 5) 3, type := 0, pos := "frame.go:63", after := #[], guard := none }) (v := ?v17) rfl (by kernel_rfl) (by kernel_rfl) (by kernel_rfl) (fun _ _ _ h => h) (Or.inl ⟨by rfl, ?hy17⟩) (by assumption) ?rest17
                  case hy17 => (intro w hSw; (try dsimp only at hSw); go_simp; try with_reducible rfl)
                  try simp only [Act.put, List.setIfInBounds_toArray, List.set_cons_zero, List.set_cons_succ]
                  refine wpAnyH_take (i := 18) (oi := { dst := some 135, op := Op.load 3 (Operand.tmp 134), type := 3, pos := "frame.go:63", after := #[{ on := 17, ground := Ground.data }], guard := none }) (v := ?v18) rfl (by kernel_rfl) (by kernel_rfl) (by kernel_rfl) (fun _ _ _ h => h) (Or.inl ⟨by rfl, ?hy18⟩) (by assumption) ?rest18
                  case hy18 => (intro w hSw; (try dsimp only at hSw); go_simp; try with_reducible rfl)
                  try simp only [Act.put, List.setIfInBounds_toArray, List.set_cons_zero, List.set_cons_succ]
                  refine wpAnyH_take (i := 19) (oi := { dst := some 136, op := Op.fieldAddr 39 (Operand.tmp 5) 4, type := 0, pos := "frame.go:63", after := #[], guard := none }) (v := ?v19) rfl (by kernel_rfl) (by kernel_rfl) (by kernel_rfl) (fun _ _ _ h => h) (Or.inl ⟨by rfl, ?hy19⟩) (by assumption) ?rest19
                  case hy19 => (intro w hSw; (try dsimp only at hSw); go_simp; try with_reducible rfl)
                  try simp only [Act.put, List.setIfInBounds_toArray, List.set_cons_zero, List.set_cons_succ]
                  refine wpAnyH_take (i := 20) (oi := { dst := some 137, op := Op.load 3 (Operand.tmp 136), type := 3, pos := "frame.go:63", after := #[{ on := 19, ground := Ground.data }], guard := none }) (v := ?v20) rfl (by kernel_rfl) (by kernel_rfl) (by kernel_rfl) (fun _ _ _ h => h) (Or.inl ⟨by rfl, ?hy20⟩) (by assumption) ?rest20
                  case hy20 => (intro w hSw; (try dsimp only at hSw); go_simp; try with_reducible rfl)
                  try simp only [Act.put, List.setIfInBounds_toArray, List.set_cons_zero, List.set_cons_succ]
                  
                  refine wpAnyH_ready (rs := [13, 21]) (by kernel_rfl) (by simp) ?_
                  refine AllReadyH.cons (o := { dst := some 130, op := Op.load 5 (Operand.tmp 129), type := 5, pos := "frame.go:63", after := #[{ on := 12, ground := Ground.data }], guard := none }) rfl (fun K hK => ?_) (AllReadyH.cons (o := { dst := some 138, op := Op.call { callee := Callee.value (Operand.func 22), args := #[Operand.tmp 133, Operand.tmp 135, Operand.tmp 137], argTypes := #[59, 3, 3] }, type := 5, pos := "frame.go:63", after := #[{ on := 16, ground := Ground.data }, { on := 18, ground := Ground.data }, { on := 20, ground := Ground.data }], guard := none }) rfl (fun K hK => ?_) AllReadyH.nil)
                  · go_simp
                    refine hK.out _ _ (by assumption) (fun hHeldLa => ?_)
                    clear hK K
                    try simp only [Act.put, List.setIfInBounds_toArray, List.set_cons_zero, List.set_cons_succ]
                    refine wpAnyH_ready (rs := [21]) (by kernel_rfl) (by simp) ?_
                    refine AllReadyH.cons (o := { dst := some 138, op := Op.call { callee := Callee.value (Operand.func 22), args := #[Operand.tmp 133, Operand.tmp 135, Operand.tmp 137], argTypes := #[59, 3, 3] }, type := 5, pos := "frame.go:63", after := #[{ on := 16, ground := Ground.data }, { on := 18, ground := Ground.data }, { on := 20, ground := Ground.data }], guard := none }) rfl (fun K hK => ?_) AllReadyH.nil
                    go_simp
                    refine (HC.out (uu PX RD x) (uu PY RD y) _ (by omega) (by omega) (by omega) (by omega)).mono ?_; rintro e w7 ⟨rfl, hq3⟩
                    have pixC : w7.cell? ⟨T, at_, none⟩ = some (.int .u8 old) := cell_later hq3 (show wf.drew.cell? _ = _ from pixf)
                    have blkC : w7.heap[T]? = some (.cells ((cur l D at_).map (Value.int .u8)).toArray 5 (0, 0)) := (hq3.block T (by show T < wf.heap.size; omega)).trans hTf
                    have svC : Sv T wz w7 := (svf).step (below_step (below_drew1 (Below.refl _ _)) hq3)
                    have szC := hq3.size
                    go_wp2_with fail
                    refine hK.out _ _ ?_ (fun hHeldCa => ?_)
                    · (try dsimp only)
                      (go_split_ands; (repeat' apply And.intro) <;> (repeat' (first | with_reducible assumption | (refine cell_later hq3 ?_; assumption))))
                    clear hK K hq3
                    try simp only [Act.put, List.setIfInBounds_toArray, List.set_cons_zero, List.set_cons_succ]
                    refine wpAnyH_ready (rs := [22]) (by kernel_rfl) (by simp) ?_
                    refine AllReadyH.cons (o := { dst := some 139, op := Op.call { callee := Callee.value (Operand.func 21), args := #[Operand.tmp 130, Operand.tmp 132, Operand.tmp 138], argTypes := #[5, 5, 5] }, type := 5, pos := "frame.go:63", after := #[{ on := 13, ground := Ground.data }, { on := 15, ground := Ground.data }, { on := 21, ground := Ground.data }, { on := 21, ground := Ground.chain }], guard := none }) rfl (fun K hK => ?_) AllReadyH.nil
                    go_simp
                    refine (HB.out old (uu PX RD x) (uu PY RD y) _ hold.1 hold.2).mono ?_; rintro e w8 ⟨rfl, hq3⟩
                    have pixB : w8.cell? ⟨T, at_, none⟩ = some (.int .u8 old) := cell_later hq3 pixC
                    have blkB : w8.heap[T]? = some (.cells ((cur l D at_).map (Value.int .u8)).toArray 5 (0, 0)) := (hq3.block T (blk_lt blkC)).trans blkC
                    have frzB := blk_frozen blkB at_
                    have svB : Sv T wz w8 := svC.step (below_step (Below.refl _ _) hq3)
                    go_wp2_with fail
                    refine hK.out _ _ ?_ (fun hHeldBa => ?_)
                    · (try dsimp only)
                      (go_split_ands; (repeat' apply And.intro) <;> (repeat' (first | with_reducible assumption | (refine cell_later hq3 ?_; assumption))))
                    clear hK K hq3
                    try simp only [Act.put, List.setIfInBounds_toArray, List.set_cons_zero, List.set_cons_succ]
                    refine wpAnyH_take (i := 23) (oi := { dst := some 140, op := Op.indexAddr 28 (Operand.tmp 121) (Operand.tmp 122), type := 0, pos := "frame.go:63", after := #[{ on := 4, ground := Ground.data }, { on := 5, ground := Ground.data }, { on := 0, ground := Ground.phase }, { on := 1, ground := Ground.phase }, { on := 2, ground := Ground.phase }, { on := 3, ground := Ground.phase }, { on := 4, ground := Ground.phase }, { on := 5, ground := Ground.phase }, { on := 6, ground := Ground.phase }, { on := 7, ground := Ground.phase }, { on := 8, ground := Ground.phase }, { on := 9, ground := Ground.phase }, { on := 10, ground := Ground.phase }, { on := 11, ground := Ground.phase }, { on := 12, ground := Ground.phase }, { on := 13, ground := Ground.phase }, { on := 14, ground := Ground.phase }, { on := 15, ground := Ground.phase }, { on := 16, ground := Ground.phase }, { on := 17, ground := Ground.phase }, { on := 18, ground := Ground.phase }, { on := 19, ground := Ground.phase }, { on := 20, ground := Ground.phase }, { on := 21, ground := Ground.phase }, { on := 22, ground := Ground.phase }], guard := none }) (v := ?v23a) rfl (by kernel_rfl) (by kernel_rfl) (by kernel_rfl) (fun _ _ _ h => h) (Or.inl ⟨by rfl, ?hy23a⟩) (by assumption) ?rest23a
                    case hy23a => (intro w hSw; (try dsimp only at hSw); go_simp; try with_reducible rfl)
                    try simp only [Act.put, List.setIfInBounds_toArray, List.set_cons_zero, List.set_cons_succ]
                    refine wpAnyH_ready (rs := [24]) (by kernel_rfl) (by simp) ?_
                    refine AllReadyH.cons (o := { dst := none, op := Op.store 5 (Operand.tmp 140) (Operand.tmp 139), type := 0, pos := "frame.go:63", after := #[{ on := 23, ground := Ground.data }, { on := 22, ground := Ground.data }, { on := 22, ground := Ground.chain }, { on := 0, ground := Ground.phase }, { on := 1, ground := Ground.phase }, { on := 2, ground := Ground.phase }, { on := 3, ground := Ground.phase }, { on := 4, ground := Ground.phase }, { on := 5, ground := Ground.phase }, { on := 6, ground := Ground.phase }, { on := 7, ground := Ground.phase }, { on := 8, ground := Ground.phase }, { on := 9, ground := Ground.phase }, { on := 10, ground := Ground.phase }, { on := 11, ground := Ground.phase }, { on := 12, ground := Ground.phase }, { on := 13, ground := Ground.phase }, { on := 14, ground := Ground.phase }, { on := 15, ground := Ground.phase }, { on := 16, ground := Ground.phase }, { on := 17, ground := Ground.phase }, { on := 18, ground := Ground.phase }, { on := 19, ground := Ground.phase }, { on := 20, ground := Ground.phase }, { on := 21, ground := Ground.phase }, { on := 22, ground := Ground.phase }], guard := none }) rfl (fun K hK => ?_) AllReadyH.nil
                    go_simp
                    refine hK.out _ _ ?_ (fun hHeldEa => ?_)
                    · (try dsimp only)
                      (go_split_ands; (repeat' apply And.intro) <;> (refine (World.cell?_setCell_far _ _ _ _ ?_).trans (by assumption); dsimp only; omega))
                    clear hK K
                    try simp only [Act.put, List.setIfInBounds_toArray, List.set_cons_zero, List.set_cons_succ]
                    refine wpAnyH_done (by kernel_rfl) ?_ _
                    go_wp2_with fail
                    refine ⟨⟨x + 1, by congr 1, by omega, ?_, svB.put _ _⟩, by simp [intOf]; omega⟩
                    have hatE := hatH.out
                    rw [show y * W + (x + 1) = at_ + 1 by omega, ← cur_set hp, hDat]
                    exact blk_put blkB at_ _ rfl
                  · go_simp
                    refine (HC.out (uu PX RD x) (uu PY RD y) _ (by omega) (by omega) (by omega) (by omega)).mono ?_; rintro e w7 ⟨rfl, hq3⟩
                    have pixC : w7.cell? ⟨T, at_, none⟩ = some (.int .u8 old) := cell_later hq3 (show wf.drew.cell? _ = _ from pixf)
                    have blkC : w7.heap[T]? = some (.cells ((cur l D at_).map (Value.int .u8)).toArray 5 (0, 0)) := (hq3.block T (by show T < wf.heap.size; omega)).trans hTf
                    have svC : Sv T wz w7 := (svf).step (below_step (below_drew1 (Below.refl _ _)) hq3)
                    have szC := hq3.size
                    go_wp2_with fail
                    refine hK.out _ _ ?_ (fun hHeldCb => ?_)
                    · (try dsimp only)
                      (go_split_ands; (repeat' apply And.intro) <;> (repeat' (first | with_reducible assumption | (refine cell_later hq3 ?_; assumption))))
                    clear hK K hq3
                    try simp only [Act.put, List.setIfInBounds_toArray, List.set_cons_zero, List.set_cons_succ]
                    refine wpAnyH_ready (rs := [13]) (by kernel_rfl) (by simp) ?_
                    refine AllReadyH.cons (o := { dst := some 130, op := Op.load 5 (Operand.tmp 129), type := 5, pos := "frame.go:63", after := #[{ on := 12, ground := Ground.data }], guard := none }) rfl (fun K hK => ?_) AllReadyH.nil
                    go_simp
                    refine hK.out _ _ (by assumption) (fun hHeldLb => ?_)
                    clear hK K
                    try simp only [Act.put, List.setIfInBounds_toArray, List.set_cons_zero, List.set_cons_succ]
                    refine wpAnyH_ready (rs := [22]) (by kernel_rfl) (by simp) ?_
                    refine AllReadyH.cons (o := { dst := some 139, op := Op.call { callee := Callee.value (Operand.func 21), args := #[Operand.tmp 130, Operand.tmp 132, Operand.tmp 138], argTypes := #[5, 5, 5] }, type := 5, pos := "frame.go:63", after := #[{ on := 13, ground := Ground.data }, { on := 15, ground := Ground.data }, { on := 21, ground := Ground.data }, { on := 21, ground := Ground.chain }], guard := none }) rfl (fun K hK => ?_) AllReadyH.nil
                    go_simp
                    refine (HB.out old (uu PX RD x) (uu PY RD y) _ hold.1 hold.2).mono ?_; rintro e w8 ⟨rfl, hq3⟩
                    have pixB : w8.cell? ⟨T, at_, none⟩ = some (.int .u8 old) := cell_later hq3 pixC
                    have blkB : w8.heap[T]? = some (.cells ((cur l D at_).map (Value.int .u8)).toArray 5 (0, 0)) := (hq3.block T (blk_lt blkC)).trans blkC
                    have frzB := blk_frozen blkB at_
                    have svB : Sv T wz w8 := svC.step (below_step (Below.refl _ _) hq3)
                    go_wp2_with fail
                    refine hK.out _ _ ?_ (fun hHeldBb => ?_)
                    · (try dsimp only)
                      (go_split_ands; (repeat' apply And.intro) <;> (repeat' (first | with_reducible assumption | (refine cell_later hq3 ?_; assumption))))
                    clear hK K hq3
                    try simp only [Act.put, List.setIfInBounds_toArray, List.set_cons_zero, List.set_cons_succ]
                    refine wpAnyH_take (i := 23) (oi := { dst := some 140, op := Op.indexAddr 28 (Operand.tmp 121) (Operand.tmp 122), type := 0, pos := "frame.go:63", after := #[{ on := 4, ground := Ground.data }, { on := 5, ground := Ground.data }, { on := 0, ground := Ground.phase }, { on := 1, ground := Ground.phase }, { on := 2, ground := Ground.phase }, { on := 3, ground := Ground.phase }, { on := 4, ground := Ground.phase }, { on := 5, ground := Ground.phase }, { on := 6, ground := Ground.phase }, { on := 7, ground := Ground.phase }, { on := 8, ground := Ground.phase }, { on := 9, ground := Ground.phase }, { on := 10, ground := Ground.phase }, { on := 11, ground := Ground.phase }, { on := 12, ground := Ground.phase }, { on := 13, ground := Ground.phase }, { on := 14, ground := Ground.phase }, { on := 15, ground := Ground.phase }, { on := 16, ground := Ground.phase }, { on := 17, ground := Ground.phase }, { on := 18, ground := Ground.phase }, { on := 19, ground := Ground.phase }, { on := 20, ground := Ground.phase }, { on := 21, ground := Ground.phase }, { on := 22, ground := Ground.phase }], guard := none }) (v := ?v23b) rfl (by kernel_rfl) (by kernel_rfl) (by kernel_rfl) (fun _ _ _ h => h) (Or.inl ⟨by rfl, ?hy23b⟩) (by assumption) ?rest23b
                    case hy23b => (intro w hSw; (try dsimp only at hSw); go_simp; try with_reducible rfl)
                    try simp only [Act.put, List.setIfInBounds_toArray, List.set_cons_zero, List.set_cons_succ]
                    refine wpAnyH_ready (rs := [24]) (by kernel_rfl) (by simp) ?_
                    refine AllReadyH.cons (o := { dst := none, op := Op.store 5 (Operand.tmp 140) (Operand.tmp 139), type := 0, pos := "frame.go:63", after := #[{ on := 23, ground := Ground.data }, { on := 22, ground := Ground.data }, { on := 22, ground := Ground.chain }, { on := 0, ground := Ground.phase }, { on := 1, ground := Ground.phase }, { on := 2, ground := Ground.phase }, { on := 3, ground := Ground.phase }, { on := 4, ground := Ground.phase }, { on := 5, ground := Ground.phase }, { on := 6, ground := Ground.phase }, { on := 7, ground := Ground.phase }, { on := 8, ground := Ground.phase }, { on := 9, ground := Ground.phase }, { on := 10, ground := Ground.phase }, { on := 11, ground := Ground.phase }, { on := 12, ground := Ground.phase }, { on := 13, ground := Ground.phase }, { on := 14, ground := Ground.phase }, { on := 15, ground := Ground.phase }, { on := 16, ground := Ground.phase }, { on := 17, ground := Ground.phase }, { on := 18, ground := Ground.phase }, { on := 19, ground := Ground.phase }, { on := 20, ground := Ground.phase }, { on := 21, ground := Ground.phase }, { on := 22, ground := Ground.phase }], guard := none }) rfl (fun K hK => ?_) AllReadyH.nil
                    go_simp
                    refine hK.out _ _ ?_ (fun hHeldEb => ?_)
                    · (try dsimp only)
                      (go_split_ands; (repeat' apply And.intro) <;> (refine (World.cell?_setCell_far _ _ _ _ ?_).trans (by assumption); dsimp only; omega))
                    clear hK K
                    try simp only [Act.put, List.setIfInBounds_toArray, List.set_cons_zero, List.set_cons_succ]
                    refine wpAnyH_done (by kernel_rfl) ?_ _
                    go_wp2_with fail
                    refine ⟨⟨x + 1, by congr 1, by omega, ?_, svB.put _ _⟩, by simp [intOf]; omega⟩
                    have hatE := hatH.out
                    rw [show y * W + (x + 1) = at_ + 1 by omega, ← cur_set hp, hDat]
                    exact blk_put blkB at_ _ rfl
end Go.Proofs.Ytfbnaicnmkkohaa.DrawO
