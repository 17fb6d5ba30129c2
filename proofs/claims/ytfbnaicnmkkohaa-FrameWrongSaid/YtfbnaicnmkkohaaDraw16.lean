/- What punchcutlaw19.draw answers: pixel by pixel. Conditions: the field, the pen and the frame are right. -/
import Derived.Test.YtfbnaicnmkkohaaWalkFull
import Derived.Deep.AppendLies

namespace Go.Proofs.Ytfbnaicnmkkohaa.Draw16
open Go Go.RowKit Go.Lib Go.Proofs.YtfbnaicnmkkohaaW.PrintWords Go.Proofs.YtfbnaicnmkkohaaW.PrintLast Go.Proofs.YtfbnaicnmkkohaaW.PrintMore Go.Proofs.Ytfbnaicnmkkohaa.Core Go.Proofs.Ytfbnaicnmkkohaa.PFramePlace Go.Proofs.Ytfbnaicnmkkohaa.Repeat Go.Proofs.Ytfbnaicnmkkohaa.Frames Go.Proofs.Ytfbnaicnmkkohaa.Draw Go.Proofs.Ytfbnaicnmkkohaa.Drawn Go.Proofs.Ytfbnaicnmkkohaa.Awake Go.Proofs.Ytfbnaicnmkkohaa.Two Go.Proofs.Ytfbnaicnmkkohaa.WalkFull
set_option linter.unusedVariables false
set_option linter.unusedSimpArgs false
attribute [local go_sem ↓] Go.wp_at_zero Go.wp_at_succ
theorem row_c {w : World} {T j : Nat} {l : List Int} {u : Value} (hT : ∀ j, j < l.length → w.cell? ⟨T, j, none⟩ = some (.int .u8 (l.getD j 0))) (hu : (l.map (Value.int .u8))[j]? = some u) : w.cell? ((⟨T, 0, none⟩ : Addr).add j) = some u := by
  have hj : j < l.length := by
    have := (List.getElem?_eq_some_iff.1 hu).1; simpa using this
  have h := hT j hj
  rw [List.getElem?_map, List.getElem?_eq_getElem hj] at hu
  rw [List.getD_eq_getElem?_getD, List.getElem?_eq_getElem hj] at h
  rw [Addr.add_mid, Nat.zero_add, h]
  simpa using hu
theorem row_cD {w : World} {T j : Nat} {l : List Int} {u : Value} (hT : ∀ j, j < l.length → w.cell? ⟨T, j, none⟩ = some (.int .u8 (l.getD j 0))) (hu : (l.map (Value.int .u8))[j]? = some u) : w.drew.cell? ((⟨T, 0, none⟩ : Addr).add j) = some u := row_c hT hu
theorem row_cA {w : World} {T j : Nat} {l : List Int} {u : Value} {o : Obj} (hT : ∀ j, j < l.length → w.cell? ⟨T, j, none⟩ = some (.int .u8 (l.getD j 0))) (hu : (l.map (Value.int .u8))[j]? = some u) : (w.alloc o).cell? ((⟨T, 0, none⟩ : Addr).add j) = some u := keepA (row_c hT hu)
theorem row_cAD {w : World} {T j : Nat} {l : List Int} {u : Value} {o : Obj} (hT : ∀ j, j < l.length → w.cell? ⟨T, j, none⟩ = some (.int .u8 (l.getD j 0))) (hu : (l.map (Value.int .u8))[j]? = some u) : (w.drew.alloc o).cell? ((⟨T, 0, none⟩ : Addr).add j) = some u := row_cA (w := w.drew) hT hu
theorem sv_drewN {T : Nat} {w w1 : World} (h : Sv T w w1) (n : Nat) : Sv T w (w1.drewN n) := ⟨h.os, h.tape, h.output, h.size, h.block⟩
theorem cur_put {l : List Int} {D : Nat → Int} {k : Nat} (hk : k < l.length) : (cur l D k).set k (D k) = cur l D (k + 1) := by
  refine List.ext_getElem? fun j => ?_
  rw [List.getElem?_set]
  by_cases hj : j < l.length
  · rw [cur_get hj, cur_get hj]
    by_cases e : k = j
    · subst e; rw [if_pos rfl, if_pos (by rw [cur_length]; omega), if_pos (by omega)]
    · rw [if_neg e]
      by_cases c : j < k
      · rw [if_pos c, if_pos (by omega)]
      · rw [if_neg c, if_neg (by omega)]
  · rw [List.getElem?_eq_none (by rw [cur_length]; omega), List.getElem?_eq_none (by rw [cur_length]; omega), if_neg (by omega)]
theorem row_put {w : World} {B g cap k : Nat} {l : List Int} {D : Nat → Int} (h : Row w B g cap (cur l D k)) (hk : k < l.length) : Row (w.setCell ⟨g, k, none⟩ (.int .u8 (D k))) B g cap (cur l D (k + 1)) := by
  have := own_put h k (D k)
  rw [Int.toNat_natCast, cur_put hk, show (cur l D k).length = (cur l D (k + 1)).length by rw [cur_length, cur_length]] at this
  exact this
def LoopC (wb : World) (B gn capn : Nat) (l : List Int) (D : Nat → Int) (s27 : Value) (w' : World) : Prop := ∃ k : Nat, s27 = .int .i64 k ∧ k ≤ l.length ∧ Row w' B gn capn (cur l D k) ∧ Sv gn wb w'
theorem row_text {w : World} {B g cap : Nat} {l : List Int} (h : Row w B g cap l) : (∀ j, j < l.length → w.cell? ⟨g, j, none⟩ = some (.int .u8 (l.getD j 0))) ∧ (∀ j, w.frozen? ⟨g, j, none⟩ = false) := by
  have hh := h
  obtain ⟨hn, h0 | ⟨g', c', cu, hv, hB, hb, hc, hm, hs, ht⟩⟩ := hh
  · simp at h0
  · simp only [Value.slice.injEq, Option.some.injEq, Addr.mk.injEq, and_true, true_and] at hv
    obtain ⟨rfl, rfl⟩ := hv
    refine ⟨fun j hj => ?_, fun j => blk_frozen hb j⟩
    rw [World.ownsRow.cellAt h j (by omega), List.getElem?_map, List.getD_eq_getElem?_getD, List.getElem?_eq_getElem hj]; rfl
theorem row_pix {w : World} {B g cap k : Nat} {l : List Int} {D : Nat → Int} (h : Row w B g cap (cur l D k)) (hk : k < l.length) : w.cell? ⟨g, k, none⟩ = some (.int .u8 (l.getD k 0)) := by
  rw [(row_text h).1 k (by rw [cur_length]; exact hk), List.getD_eq_getElem?_getD, cur_get hk, if_neg (by omega)]; rfl
theorem pix_bd {a R : Int} (h1 : -1000 ≤ a) (h2 : a ≤ 1000) (hR : 1 ≤ R) (hR2 : R ≤ 64) : -64000 ≤ a * R ∧ a * R ≤ 64000 := by
  have e1 : a * R ≤ 1000 * R := Int.mul_le_mul_of_nonneg_right (by omega) (by omega)
  have e2 : -1000 * R ≤ a * R := Int.mul_le_mul_of_nonneg_right (by omega) (by omega)
  omega
set_option maxRecDepth 100000 in
set_option maxHeartbeats 8000000 in
theorem draw16 (W H : Nat) (AW AH PX PY RN RD LO HI INK den : Int) (gf capf g cap : Nat) (al l : List Int) (D : Nat → Int) (w : World)
    (hW : 1 ≤ W) (hW2 : W ≤ 96) (hAW : 1 ≤ AW) (hAW2 : AW ≤ 64) (hAH : 1 ≤ AH) (hAH2 : AH ≤ 64) (hRN : 1 ≤ RN) (hRN2 : RN ≤ 64) (hRD : 1 ≤ RD) (hRD2 : RD ≤ 64) (hPX : -96 ≤ PX) (hPX2 : PX ≤ 96) (hPY : -96 ≤ PY) (hPY2 : PY ≤ 96) (hden : 2 * RN = den) (hlb : ∀ z ∈ l, 0 ≤ z ∧ z ≤ 255) (hl96 : l.length ≤ 96 * W)
    (hD : ∀ k, k < l.length → D k = col AW AH al LO HI INK (uu PX RD (k % W)) (uu PY RD (k / W)) den (l.getD k 0))
    (HA : Hid (∀ (u v : Int) (w' : World), 0 ≤ u → u ≤ AW * den → 0 ≤ v → v ≤ AH * den → (∀ j, j < al.length → w'.cell? ⟨g, j, none⟩ = some (.int .u8 (al.getD j 0))) → Calls Try.prog 27 #[Value.agg #[Value.int IntKind.i64 AW, Value.int IntKind.i64 AH, Value.slice (some ⟨g, 0, none⟩) al.length cap], .int .i64 u, .int .i64 v, .int .i64 den] w' (Ret (.tuple #[.agg #[.int .i64 (frac AW AH al u v den).1, .int .i64 (frac AW AH al u v den).2], .int .i64 0]) w')))
    (HC : Hid (∀ (u v : Int) (w' : World), 0 ≤ u → u ≤ AW * den → 0 ≤ v → v ≤ AH * den → Calls Try.prog 22 #[.agg #[.int .i64 (frac AW AH al u v den).1, .int .i64 (frac AW AH al u v den).2], .int .i64 LO, .int .i64 HI] w' (Ret (.int .u8 (cov (frac AW AH al u v den).1 (frac AW AH al u v den).2 LO HI)) w')))
    (HB : Hid (∀ (o u v : Int) (w' : World), 0 ≤ o → o ≤ 255 → Calls Try.prog 21 #[.int .u8 o, .int .u8 INK, .int .u8 (cov (frac AW AH al u v den).1 (frac AW AH al u v den).2 LO HI)] w' (Ret (.int .u8 (blend o INK (cov (frac AW AH al u v den).1 (frac AW AH al u v den).2 LO HI))) w')))
    (hl1 : 1 ≤ l.length) (hl2 : l.length ≤ 10000) (hcf : l.length ≤ capf)
    (hf : ∀ j, j < l.length → w.cell? ⟨gf, j, none⟩ = some (.int .u8 (l.getD j 0))) (hg : ∀ j, j < al.length → w.cell? ⟨g, j, none⟩ = some (.int .u8 (al.getD j 0))) :
    Calls Try.prog 16 #[.agg #[.int .i64 W, .int .i64 H, .slice (some ⟨gf, 0, none⟩) l.length capf], .agg #[.int .i64 AW, .int .i64 AH, .slice (some ⟨g, 0, none⟩) al.length cap], .agg #[.int .i64 PX, .int .i64 PY, .int .i64 RN, .int .i64 RD, .int .i64 LO, .int .i64 HI, .int .u8 INK]] w (Shown w W H ((List.range l.length).map D)) := by
  obtain ⟨i0, hi, hz0, hz1, hz2⟩ := info_parts byte_info
  have hlH := Lib.hid hlb
  have hDH := Lib.hid hD
  clear hlb hD
  have hfH := Lib.hid hf
  have hgH := Lib.hid hg
  have lgw := Lib.hid (fun j (hj : j < al.length) => World.block_lt_of_cell? _ _ (hg j hj))
  clear hf hg
  go_enter Try.func16, Try.ntmps16
  go_upto_region 1 with fail
  have f0 : ((((w.alloc (.cells #[.int .i64 W, .int .i64 H, .slice (some ⟨gf, 0, none⟩) l.length capf] 30)).alloc (.cells #[.int .i64 AW, .int .i64 AH, .slice (some ⟨g, 0, none⟩) al.length cap] 30)).alloc (.cells #[.int .i64 PX, .int .i64 PY, .int .i64 RN, .int .i64 RD, .int .i64 LO, .int .i64 HI, .int .u8 INK] 39)).alloc (.cells #[.int .i64 0, .int .i64 0, .slice none 0 0] 30)).cell? ⟨w.heap.size, 0, none⟩ = some (.int .i64 W) := by go_simp
  have f1 : ((((w.alloc (.cells #[.int .i64 W, .int .i64 H, .slice (some ⟨gf, 0, none⟩) l.length capf] 30)).alloc (.cells #[.int .i64 AW, .int .i64 AH, .slice (some ⟨g, 0, none⟩) al.length cap] 30)).alloc (.cells #[.int .i64 PX, .int .i64 PY, .int .i64 RN, .int .i64 RD, .int .i64 LO, .int .i64 HI, .int .u8 INK] 39)).alloc (.cells #[.int .i64 0, .int .i64 0, .slice none 0 0] 30)).cell? ⟨w.heap.size, 1, none⟩ = some (.int .i64 H) := by go_simp
  have f2 : ((((w.alloc (.cells #[.int .i64 W, .int .i64 H, .slice (some ⟨gf, 0, none⟩) l.length capf] 30)).alloc (.cells #[.int .i64 AW, .int .i64 AH, .slice (some ⟨g, 0, none⟩) al.length cap] 30)).alloc (.cells #[.int .i64 PX, .int .i64 PY, .int .i64 RN, .int .i64 RD, .int .i64 LO, .int .i64 HI, .int .u8 INK] 39)).alloc (.cells #[.int .i64 0, .int .i64 0, .slice none 0 0] 30)).cell? ⟨w.heap.size, 2, none⟩ = some (.slice (some ⟨gf, 0, none⟩) l.length capf) := by go_simp
  have e0 : ((((w.alloc (.cells #[.int .i64 W, .int .i64 H, .slice (some ⟨gf, 0, none⟩) l.length capf] 30)).alloc (.cells #[.int .i64 AW, .int .i64 AH, .slice (some ⟨g, 0, none⟩) al.length cap] 30)).alloc (.cells #[.int .i64 PX, .int .i64 PY, .int .i64 RN, .int .i64 RD, .int .i64 LO, .int .i64 HI, .int .u8 INK] 39)).alloc (.cells #[.int .i64 0, .int .i64 0, .slice none 0 0] 30)).cell? ⟨w.heap.size + 1, 0, none⟩ = some (.int .i64 AW) := by go_simp
  have e1 : ((((w.alloc (.cells #[.int .i64 W, .int .i64 H, .slice (some ⟨gf, 0, none⟩) l.length capf] 30)).alloc (.cells #[.int .i64 AW, .int .i64 AH, .slice (some ⟨g, 0, none⟩) al.length cap] 30)).alloc (.cells #[.int .i64 PX, .int .i64 PY, .int .i64 RN, .int .i64 RD, .int .i64 LO, .int .i64 HI, .int .u8 INK] 39)).alloc (.cells #[.int .i64 0, .int .i64 0, .slice none 0 0] 30)).cell? ⟨w.heap.size + 1, 1, none⟩ = some (.int .i64 AH) := by go_simp
  have e2 : ((((w.alloc (.cells #[.int .i64 W, .int .i64 H, .slice (some ⟨gf, 0, none⟩) l.length capf] 30)).alloc (.cells #[.int .i64 AW, .int .i64 AH, .slice (some ⟨g, 0, none⟩) al.length cap] 30)).alloc (.cells #[.int .i64 PX, .int .i64 PY, .int .i64 RN, .int .i64 RD, .int .i64 LO, .int .i64 HI, .int .u8 INK] 39)).alloc (.cells #[.int .i64 0, .int .i64 0, .slice none 0 0] 30)).cell? ⟨w.heap.size + 1, 2, none⟩ = some (.slice (some ⟨g, 0, none⟩) al.length cap) := by go_simp
  have p0 : ((((w.alloc (.cells #[.int .i64 W, .int .i64 H, .slice (some ⟨gf, 0, none⟩) l.length capf] 30)).alloc (.cells #[.int .i64 AW, .int .i64 AH, .slice (some ⟨g, 0, none⟩) al.length cap] 30)).alloc (.cells #[.int .i64 PX, .int .i64 PY, .int .i64 RN, .int .i64 RD, .int .i64 LO, .int .i64 HI, .int .u8 INK] 39)).alloc (.cells #[.int .i64 0, .int .i64 0, .slice none 0 0] 30)).cell? ⟨w.heap.size + 1 + 1, 0, none⟩ = some (.int .i64 PX) := by go_simp
  have p1 : ((((w.alloc (.cells #[.int .i64 W, .int .i64 H, .slice (some ⟨gf, 0, none⟩) l.length capf] 30)).alloc (.cells #[.int .i64 AW, .int .i64 AH, .slice (some ⟨g, 0, none⟩) al.length cap] 30)).alloc (.cells #[.int .i64 PX, .int .i64 PY, .int .i64 RN, .int .i64 RD, .int .i64 LO, .int .i64 HI, .int .u8 INK] 39)).alloc (.cells #[.int .i64 0, .int .i64 0, .slice none 0 0] 30)).cell? ⟨w.heap.size + 1 + 1, 1, none⟩ = some (.int .i64 PY) := by go_simp
  have p2 : ((((w.alloc (.cells #[.int .i64 W, .int .i64 H, .slice (some ⟨gf, 0, none⟩) l.length capf] 30)).alloc (.cells #[.int .i64 AW, .int .i64 AH, .slice (some ⟨g, 0, none⟩) al.length cap] 30)).alloc (.cells #[.int .i64 PX, .int .i64 PY, .int .i64 RN, .int .i64 RD, .int .i64 LO, .int .i64 HI, .int .u8 INK] 39)).alloc (.cells #[.int .i64 0, .int .i64 0, .slice none 0 0] 30)).cell? ⟨w.heap.size + 1 + 1, 2, none⟩ = some (.int .i64 RN) := by go_simp
  have p3 : ((((w.alloc (.cells #[.int .i64 W, .int .i64 H, .slice (some ⟨gf, 0, none⟩) l.length capf] 30)).alloc (.cells #[.int .i64 AW, .int .i64 AH, .slice (some ⟨g, 0, none⟩) al.length cap] 30)).alloc (.cells #[.int .i64 PX, .int .i64 PY, .int .i64 RN, .int .i64 RD, .int .i64 LO, .int .i64 HI, .int .u8 INK] 39)).alloc (.cells #[.int .i64 0, .int .i64 0, .slice none 0 0] 30)).cell? ⟨w.heap.size + 1 + 1, 3, none⟩ = some (.int .i64 RD) := by go_simp
  have p4 : ((((w.alloc (.cells #[.int .i64 W, .int .i64 H, .slice (some ⟨gf, 0, none⟩) l.length capf] 30)).alloc (.cells #[.int .i64 AW, .int .i64 AH, .slice (some ⟨g, 0, none⟩) al.length cap] 30)).alloc (.cells #[.int .i64 PX, .int .i64 PY, .int .i64 RN, .int .i64 RD, .int .i64 LO, .int .i64 HI, .int .u8 INK] 39)).alloc (.cells #[.int .i64 0, .int .i64 0, .slice none 0 0] 30)).cell? ⟨w.heap.size + 1 + 1, 4, none⟩ = some (.int .i64 LO) := by go_simp
  have p5 : ((((w.alloc (.cells #[.int .i64 W, .int .i64 H, .slice (some ⟨gf, 0, none⟩) l.length capf] 30)).alloc (.cells #[.int .i64 AW, .int .i64 AH, .slice (some ⟨g, 0, none⟩) al.length cap] 30)).alloc (.cells #[.int .i64 PX, .int .i64 PY, .int .i64 RN, .int .i64 RD, .int .i64 LO, .int .i64 HI, .int .u8 INK] 39)).alloc (.cells #[.int .i64 0, .int .i64 0, .slice none 0 0] 30)).cell? ⟨w.heap.size + 1 + 1, 5, none⟩ = some (.int .i64 HI) := by go_simp
  have p6 : ((((w.alloc (.cells #[.int .i64 W, .int .i64 H, .slice (some ⟨gf, 0, none⟩) l.length capf] 30)).alloc (.cells #[.int .i64 AW, .int .i64 AH, .slice (some ⟨g, 0, none⟩) al.length cap] 30)).alloc (.cells #[.int .i64 PX, .int .i64 PY, .int .i64 RN, .int .i64 RD, .int .i64 LO, .int .i64 HI, .int .u8 INK] 39)).alloc (.cells #[.int .i64 0, .int .i64 0, .slice none 0 0] 30)).cell? ⟨w.heap.size + 1 + 1, 6, none⟩ = some (.int .u8 INK) := by go_simp
  have rb : FreshB ((((w.alloc (.cells #[.int .i64 W, .int .i64 H, .slice (some ⟨gf, 0, none⟩) l.length capf] 30)).alloc (.cells #[.int .i64 AW, .int .i64 AH, .slice (some ⟨g, 0, none⟩) al.length cap] 30)).alloc (.cells #[.int .i64 PX, .int .i64 PY, .int .i64 RN, .int .i64 RD, .int .i64 LO, .int .i64 HI, .int .u8 INK] 39)).alloc (.cells #[.int .i64 0, .int .i64 0, .slice none 0 0] 30)) (w.heap.size + 1 + 1 + 1) := fb_new (by simp)
  have hB : Below w.heap.size w ((((w.alloc (.cells #[.int .i64 W, .int .i64 H, .slice (some ⟨gf, 0, none⟩) l.length capf] 30)).alloc (.cells #[.int .i64 AW, .int .i64 AH, .slice (some ⟨g, 0, none⟩) al.length cap] 30)).alloc (.cells #[.int .i64 PX, .int .i64 PY, .int .i64 RN, .int .i64 RD, .int .i64 LO, .int .i64 HI, .int .u8 INK] 39)).alloc (.cells #[.int .i64 0, .int .i64 0, .slice none 0 0] 30)) := below_alloc (below_alloc (below_alloc (below_alloc (Below.refl _ _) _) _) _) _
  have sB : w.heap.size + 1 + 1 + 1 < ((((w.alloc (.cells #[.int .i64 W, .int .i64 H, .slice (some ⟨gf, 0, none⟩) l.length capf] 30)).alloc (.cells #[.int .i64 AW, .int .i64 AH, .slice (some ⟨g, 0, none⟩) al.length cap] 30)).alloc (.cells #[.int .i64 PX, .int .i64 PY, .int .i64 RN, .int .i64 RD, .int .i64 LO, .int .i64 HI, .int .u8 INK] 39)).alloc (.cells #[.int .i64 0, .int .i64 0, .slice none 0 0] 30)).heap.size := by simp
  have hgf := Lib.hid (fun j hj => cell_later hB (hfH.out j hj))
  have hgg := Lib.hid (fun j hj => cell_later hB (hgH.out j hj))
  clear hfH hgH
  generalize ((((w.alloc (.cells #[.int .i64 W, .int .i64 H, .slice (some ⟨gf, 0, none⟩) l.length capf] 30)).alloc (.cells #[.int .i64 AW, .int .i64 AH, .slice (some ⟨g, 0, none⟩) al.length cap] 30)).alloc (.cells #[.int .i64 PX, .int .i64 PY, .int .i64 RN, .int .i64 RD, .int .i64 LO, .int .i64 HI, .int .u8 INK] 39)).alloc (.cells #[.int .i64 0, .int .i64 0, .slice none 0 0] 30)) = wb at *
  have rbH := Lib.hid rb
  clear rb
  go_cut [7] (fun s7 wr => ∃ q gn capn : Nat, s7 = .pointer (some ⟨q, 0, none⟩) ∧ LaidB wr q W H (.slice (some ⟨gn, 0, none⟩) l.length capn) ∧ Row wr wb.heap.size gn capn l ∧ wb.heap.size ≤ q ∧ Below wb.heap.size wb wr)
  case first =>
    refine wp_region_held_drew (S := fun w' => w'.cell? ⟨w.heap.size, 0, none⟩ = some (.int .i64 W) ∧ w'.cell? ⟨w.heap.size, 1, none⟩ = some (.int .i64 H) ∧ w'.cell? ⟨w.heap.size, 2, none⟩ = some (.slice (some ⟨gf, 0, none⟩) l.length capf)) (by kernel_rfl) ⟨f0, f1, f2⟩ (fun hHeld0 => ?_)
    refine wpAnyH_take (i := 0) (oi := { dst := some 16, op := Go.Op.fieldAddr 30 (Go.Operand.tmp 3) 0, type := 0, pos := "law.go:40", after := #[], guard := none }) (v := ?v0R) rfl (by kernel_rfl) (by kernel_rfl) (by kernel_rfl) (fun _ _ _ h => h) (Or.inl ⟨by rfl, ?hy0R⟩) (by assumption) ?rest0R
    case hy0R => (intro w hSw; (try dsimp only at hSw); go_simp; try with_reducible rfl)
    try simp only [Act.put, List.setIfInBounds_toArray, List.set_cons_zero, List.set_cons_succ]
    refine wpAnyH_take (i := 1) (oi := { dst := some 17, op := Go.Op.load 3 (Go.Operand.tmp 16), type := 3, pos := "law.go:40", after := #[{ on := 0, ground := Go.Ground.data }], guard := none }) (v := ?v1R) rfl (by kernel_rfl) (by kernel_rfl) (by kernel_rfl) (fun _ _ _ h => h) (Or.inl ⟨by rfl, ?hy1R⟩) (by assumption) ?rest1R
    case hy1R => (intro w hSw; (try dsimp only at hSw); go_simp; try with_reducible rfl)
    try simp only [Act.put, List.setIfInBounds_toArray, List.set_cons_zero, List.set_cons_succ]
    refine wpAnyH_take (i := 2) (oi := { dst := some 18, op := Go.Op.fieldAddr 30 (Go.Operand.tmp 3) 1, type := 0, pos := "law.go:40", after := #[], guard := none }) (v := ?v2R) rfl (by kernel_rfl) (by kernel_rfl) (by kernel_rfl) (fun _ _ _ h => h) (Or.inl ⟨by rfl, ?hy2R⟩) (by assumption) ?rest2R
    case hy2R => (intro w hSw; (try dsimp only at hSw); go_simp; try with_reducible rfl)
    try simp only [Act.put, List.setIfInBounds_toArray, List.set_cons_zero, List.set_cons_succ]
    refine wpAnyH_take (i := 3) (oi := { dst := some 19, op := Go.Op.load 3 (Go.Operand.tmp 18), type := 3, pos := "law.go:40", after := #[{ on := 2, ground := Go.Ground.data }], guard := none }) (v := ?v3R) rfl (by kernel_rfl) (by kernel_rfl) (by kernel_rfl) (fun _ _ _ h => h) (Or.inl ⟨by rfl, ?hy3R⟩) (by assumption) ?rest3R
    case hy3R => (intro w hSw; (try dsimp only at hSw); go_simp; try with_reducible rfl)
    try simp only [Act.put, List.setIfInBounds_toArray, List.set_cons_zero, List.set_cons_succ]
    refine wpAnyH_take (i := 4) (oi := { dst := some 20, op := Go.Op.fieldAddr 30 (Go.Operand.tmp 3) 2, type := 0, pos := "law.go:40", after := #[], guard := none }) (v := ?v4R) rfl (by kernel_rfl) (by kernel_rfl) (by kernel_rfl) (fun _ _ _ h => h) (Or.inl ⟨by rfl, ?hy4R⟩) (by assumption) ?rest4R
    case hy4R => (intro w hSw; (try dsimp only at hSw); go_simp; try with_reducible rfl)
    try simp only [Act.put, List.setIfInBounds_toArray, List.set_cons_zero, List.set_cons_succ]
    refine wpAnyH_take (i := 5) (oi := { dst := some 21, op := Go.Op.load 28 (Go.Operand.tmp 20), type := 28, pos := "law.go:40", after := #[{ on := 4, ground := Go.Ground.data }], guard := none }) (v := ?v5R) rfl (by kernel_rfl) (by kernel_rfl) (by kernel_rfl) (fun _ _ _ h => h) (Or.inl ⟨by rfl, ?hy5R⟩) (by assumption) ?rest5R
    case hy5R => (intro w hSw; (try dsimp only at hSw); go_simp; try with_reducible rfl)
    try simp only [Act.put, List.setIfInBounds_toArray, List.set_cons_zero, List.set_cons_succ]
    refine wpAnyH_ready (rs := [6, 8]) (by kernel_rfl) (by simp) ?_
    refine AllReadyH.cons (o := { dst := some 22, op := Go.Op.call { callee := Go.Callee.builtin Go.Builtin.append, args := #[Go.Operand.const (Go.Value.slice none 0 0), Go.Operand.tmp 21], argTypes := #[28, 28] }, type := 28, pos := "law.go:40", after := #[{ on := 5, ground := Go.Ground.data }], guard := none }) rfl (fun K hK => ?_) (AllReadyH.cons (o := { dst := some 7, op := Go.Op.alloc 30, type := 0, pos := "law.go:40", after := #[], guard := none }) rfl (fun K hK => ?_) AllReadyH.nil)
    · refine step_append_lies _ (by rfl) _ _ 28 (by rfl) wb.heap.size 5 i0 (.int .u8 0) 1 1 Try.underlying28 hi hz0 hz1 hz2 rfl (by omega) (.slice none 0 0) 0 [] (by rfl) (own_nil _ _ _ _) ⟨gf, 0, none⟩ l.length capf (l.map (Value.int .u8)) (by rfl) (by simp) (fun j u hu => row_cD hgf.out hu) (by simp [Value.oneCell']) (by omega) (by unfold maxLen; omega) (by omega) (by exact Nat.le_refl _) _ rfl ?_
      intro gn capn w1 hown hgrow hat hlt
      simp only [Nat.zero_add, List.nil_append] at hown ⊢
      have hbq : Below (wb.drew).heap.size (wb.drew) w1 := (Below.refl _ _).grown hgrow (Nat.le_refl _) (fun b hb => by simp [Value.ownBlock] at hb)
      have Bw1 : Below wb.heap.size wb w1 := below_step (by (repeat' (first | with_reducible assumption | with_reducible exact Below.refl _ _ | with_reducible refine below_alloc ?_ _ | with_reducible refine below_drew1 ?_ | with_reducible refine below_set ?_ ?_ | omega))) hbq
      have sw1 := Bw1.size
      have Rw1 : Row w1 wb.heap.size gn capn l := hown
      clear hown hgrow hat hlt
      refine hK.out _ _ ?_ (fun hHeld1 => ?_)
      · (try dsimp only)
        (go_split_ands; (repeat' apply And.intro) <;> (repeat' (first | with_reducible assumption | with_reducible refine keepA ?_ | with_reducible refine keepD ?_ | with_reducible refine keepS ?_ ?_ | (dsimp only; omega) | (refine cell_later hbq ?_; assumption))))
      clear hK K
      try simp only [Act.put, List.setIfInBounds_toArray, List.set_cons_zero, List.set_cons_succ]
      clear hbq
      refine wpAnyH_take (i := 7) (oi := { dst := some 23, op := Go.Op.build 30 #[(0, Go.Operand.tmp 17), (1, Go.Operand.tmp 19), (2, Go.Operand.tmp 22)], type := 30, pos := "law.go:40", after := #[{ on := 1, ground := Go.Ground.data }, { on := 3, ground := Go.Ground.data }, { on := 6, ground := Go.Ground.data }], guard := none }) (v := ?v7A) rfl (by kernel_rfl) (by kernel_rfl) (by kernel_rfl) (fun _ _ _ h => h) (Or.inl ⟨by rfl, ?hy7A⟩) (by assumption) ?rest7A
      case hy7A => (intro w hSw; (try dsimp only at hSw); go_simp; try with_reducible rfl)
      try simp only [Act.put, List.setIfInBounds_toArray, List.set_cons_zero, List.set_cons_succ]
      refine wpAnyH_ready (rs := [8]) (by kernel_rfl) (by simp) ?_
      refine AllReadyH.cons (o := { dst := some 7, op := Go.Op.alloc 30, type := 0, pos := "law.go:40", after := #[], guard := none }) rfl (fun K hK => ?_) AllReadyH.nil
      go_simp
      refine hK.out _ _ ?_ (fun hHeld2 => ?_)
      · (try dsimp only)
        (go_split_ands; (repeat' apply And.intro) <;> (repeat' (first | with_reducible assumption | with_reducible refine keepA ?_ | with_reducible refine keepD ?_ | with_reducible refine keepS ?_ ?_ | (dsimp only; omega) | (refine cell_later hbq ?_; assumption))))
      clear hK K
      try simp only [Act.put, List.setIfInBounds_toArray, List.set_cons_zero, List.set_cons_succ]
      refine wpAnyH_ready (rs := [9]) (by kernel_rfl) (by simp) ?_
      refine AllReadyH.cons (o := { dst := none, op := Go.Op.store 30 (Go.Operand.tmp 7) (Go.Operand.tmp 23), type := 0, pos := "law.go:40", after := #[{ on := 8, ground := Go.Ground.data }, { on := 7, ground := Go.Ground.data }, { on := 6, ground := Go.Ground.chain }, { on := 0, ground := Go.Ground.phase }, { on := 1, ground := Go.Ground.phase }, { on := 2, ground := Go.Ground.phase }, { on := 3, ground := Go.Ground.phase }, { on := 4, ground := Go.Ground.phase }, { on := 5, ground := Go.Ground.phase }, { on := 6, ground := Go.Ground.phase }, { on := 7, ground := Go.Ground.phase }, { on := 8, ground := Go.Ground.phase }], guard := none }) rfl (fun K hK => ?_) AllReadyH.nil
      go_simp
      refine hK.out _ _ ?_ (fun hHeld3 => ?_)
      · (try dsimp only)
        (go_split_ands; (repeat' apply And.intro) <;> (repeat' (first | with_reducible assumption | with_reducible refine keepA ?_ | with_reducible refine keepD ?_ | with_reducible refine keepS ?_ ?_ | (dsimp only; omega) | (refine cell_later hbq ?_; assumption))))
      clear hK K
      try simp only [Act.put, List.setIfInBounds_toArray, List.set_cons_zero, List.set_cons_succ]
      refine wpAnyH_done (by kernel_rfl) ?_ _
      go_wp2_with fail
      go_meet
      refine ⟨_, gn, capn, rfl, ?_, ?_, ?_, ?_⟩ <;> (repeat' (first | with_reducible assumption | (with_reducible refine fb_new ?_; first | rfl | exact sz1 _ _ | exact szB | exact szP) | (with_reducible refine fp_new ?_; first | rfl | exact sz1 _ _ | exact szB | exact szP) | (with_reducible refine lb_new ?_; first | rfl | exact sz1 _ _ | exact szB | exact szP) | (with_reducible refine lp_new ?_; first | rfl | exact sz1 _ _ | exact szB | exact szP) | with_reducible refine lb_set ?_ | with_reducible refine lp_set ?_ | with_reducible refine fb_alloc ?_ | with_reducible refine fp_alloc ?_ | with_reducible refine lb_alloc ?_ | with_reducible refine lp_alloc ?_ | with_reducible refine fp_setB ?_ ?_ | with_reducible refine fb_setP ?_ ?_ | with_reducible refine lp_setB ?_ ?_ | with_reducible refine lb_setP ?_ ?_ | with_reducible refine fb_drew ?_ | with_reducible refine fp_drew ?_ | with_reducible refine lb_drew ?_ | with_reducible refine lp_drew ?_ | with_reducible refine row_setB ?_ ?_ | with_reducible refine row_setP ?_ ?_ | with_reducible refine row_alloc ?_ | with_reducible refine row_drew ?_ | with_reducible exact Below.refl _ _ | with_reducible refine below_alloc ?_ _ | with_reducible refine below_drew1 ?_ | with_reducible refine below_set ?_ ?_ | exact Nat.le_refl _ | omega))
    · go_simp
      refine hK.out _ _ ?_ (fun hHeld4 => ?_)
      · (try dsimp only)
        (go_split_ands; (repeat' apply And.intro) <;> (repeat' (first | with_reducible assumption | with_reducible refine keepA ?_ | with_reducible refine keepD ?_ | with_reducible refine keepS ?_ ?_ | (dsimp only; omega) | (refine cell_later hbq ?_; assumption))))
      clear hK K
      try simp only [Act.put, List.setIfInBounds_toArray, List.set_cons_zero, List.set_cons_succ]
      refine wpAnyH_ready (rs := [6]) (by kernel_rfl) (by simp) ?_
      refine AllReadyH.cons (o := { dst := some 22, op := Go.Op.call { callee := Go.Callee.builtin Go.Builtin.append, args := #[Go.Operand.const (Go.Value.slice none 0 0), Go.Operand.tmp 21], argTypes := #[28, 28] }, type := 28, pos := "law.go:40", after := #[{ on := 5, ground := Go.Ground.data }], guard := none }) rfl (fun K hK => ?_) AllReadyH.nil
      refine step_append_lies _ (by rfl) _ _ 28 (by rfl) wb.heap.size 5 i0 (.int .u8 0) 1 1 Try.underlying28 hi hz0 hz1 hz2 rfl (by omega) (.slice none 0 0) 0 [] (by rfl) (own_nil _ _ _ _) ⟨gf, 0, none⟩ l.length capf (l.map (Value.int .u8)) (by rfl) (by simp) (fun j u hu => row_cAD hgf.out hu) (by simp [Value.oneCell']) (by omega) (by unfold maxLen; omega) (by omega) (by simp) _ rfl ?_
      intro gn capn w1 hown hgrow hat hlt
      simp only [Nat.zero_add, List.nil_append] at hown ⊢
      have hbq : Below ((wb.alloc (.cells #[.int .i64 0, .int .i64 0, .slice none 0 0] 30)).drew).heap.size ((wb.alloc (.cells #[.int .i64 0, .int .i64 0, .slice none 0 0] 30)).drew) w1 := (Below.refl _ _).grown hgrow (Nat.le_refl _) (fun b hb => by simp [Value.ownBlock] at hb)
      have Bw1 : Below wb.heap.size wb w1 := below_step (by (repeat' (first | with_reducible assumption | with_reducible exact Below.refl _ _ | with_reducible refine below_alloc ?_ _ | with_reducible refine below_drew1 ?_ | with_reducible refine below_set ?_ ?_ | omega))) hbq
      have sw1 := Bw1.size
      have Rw1 : Row w1 wb.heap.size gn capn l := hown
      clear hown hgrow hat hlt
      have fbw : FreshB w1 wb.heap.size := fb_laterD hbq (fb_new rfl)
      have fbc := fb_cells fbw
      go_split_ands
      refine hK.out _ _ ?_ (fun hHeld5 => ?_)
      · (try dsimp only)
        (go_split_ands; (repeat' apply And.intro) <;> (repeat' (first | with_reducible assumption | with_reducible refine keepA ?_ | with_reducible refine keepD ?_ | with_reducible refine keepS ?_ ?_ | (dsimp only; omega) | (refine cell_later hbq ?_; assumption))))
      clear hK K
      try simp only [Act.put, List.setIfInBounds_toArray, List.set_cons_zero, List.set_cons_succ]
      clear hbq
      refine wpAnyH_take (i := 7) (oi := { dst := some 23, op := Go.Op.build 30 #[(0, Go.Operand.tmp 17), (1, Go.Operand.tmp 19), (2, Go.Operand.tmp 22)], type := 30, pos := "law.go:40", after := #[{ on := 1, ground := Go.Ground.data }, { on := 3, ground := Go.Ground.data }, { on := 6, ground := Go.Ground.data }], guard := none }) (v := ?v7B) rfl (by kernel_rfl) (by kernel_rfl) (by kernel_rfl) (fun _ _ _ h => h) (Or.inl ⟨by rfl, ?hy7B⟩) (by assumption) ?rest7B
      case hy7B => (intro w hSw; (try dsimp only at hSw); go_simp; try with_reducible rfl)
      try simp only [Act.put, List.setIfInBounds_toArray, List.set_cons_zero, List.set_cons_succ]
      refine wpAnyH_ready (rs := [9]) (by kernel_rfl) (by simp) ?_
      refine AllReadyH.cons (o := { dst := none, op := Go.Op.store 30 (Go.Operand.tmp 7) (Go.Operand.tmp 23), type := 0, pos := "law.go:40", after := #[{ on := 8, ground := Go.Ground.data }, { on := 7, ground := Go.Ground.data }, { on := 6, ground := Go.Ground.chain }, { on := 0, ground := Go.Ground.phase }, { on := 1, ground := Go.Ground.phase }, { on := 2, ground := Go.Ground.phase }, { on := 3, ground := Go.Ground.phase }, { on := 4, ground := Go.Ground.phase }, { on := 5, ground := Go.Ground.phase }, { on := 6, ground := Go.Ground.phase }, { on := 7, ground := Go.Ground.phase }, { on := 8, ground := Go.Ground.phase }], guard := none }) rfl (fun K hK => ?_) AllReadyH.nil
      go_simp
      refine hK.out _ _ ?_ (fun hHeld6 => ?_)
      · (try dsimp only)
        (go_split_ands; (repeat' apply And.intro) <;> (repeat' (first | with_reducible assumption | with_reducible refine keepA ?_ | with_reducible refine keepD ?_ | with_reducible refine keepS ?_ ?_ | (dsimp only; omega) | (refine cell_later hbq ?_; assumption))))
      clear hK K
      try simp only [Act.put, List.setIfInBounds_toArray, List.set_cons_zero, List.set_cons_succ]
      refine wpAnyH_done (by kernel_rfl) ?_ _
      go_wp2_with fail
      go_meet
      refine ⟨_, gn, capn, rfl, ?_, ?_, ?_, ?_⟩ <;> (repeat' (first | with_reducible assumption | (with_reducible refine fb_new ?_; first | rfl | exact sz1 _ _ | exact szB | exact szP) | (with_reducible refine fp_new ?_; first | rfl | exact sz1 _ _ | exact szB | exact szP) | (with_reducible refine lb_new ?_; first | rfl | exact sz1 _ _ | exact szB | exact szP) | (with_reducible refine lp_new ?_; first | rfl | exact sz1 _ _ | exact szB | exact szP) | with_reducible refine lb_set ?_ | with_reducible refine lp_set ?_ | with_reducible refine fb_alloc ?_ | with_reducible refine fp_alloc ?_ | with_reducible refine lb_alloc ?_ | with_reducible refine lp_alloc ?_ | with_reducible refine fp_setB ?_ ?_ | with_reducible refine fb_setP ?_ ?_ | with_reducible refine lp_setB ?_ ?_ | with_reducible refine lb_setP ?_ ?_ | with_reducible refine fb_drew ?_ | with_reducible refine fp_drew ?_ | with_reducible refine lb_drew ?_ | with_reducible refine lp_drew ?_ | with_reducible refine row_setB ?_ ?_ | with_reducible refine row_setP ?_ ?_ | with_reducible refine row_alloc ?_ | with_reducible refine row_drew ?_ | with_reducible exact Below.refl _ _ | with_reducible refine below_alloc ?_ _ | with_reducible refine below_drew1 ?_ | with_reducible refine below_set ?_ ?_ | exact Nat.le_refl _ | omega))
  case rest =>
    obtain ⟨q, gn, capn, rfl, hq, hr, hqb, hbr⟩ := hcut
    have f0 := cell_later hbr f0
    replace f1 := cell_later hbr f1
    replace f2 := cell_later hbr f2
    replace e0 := cell_later hbr e0
    replace e1 := cell_later hbr e1
    replace e2 := cell_later hbr e2
    replace p0 := cell_later hbr p0
    replace p1 := cell_later hbr p1
    replace p2 := cell_later hbr p2
    replace p3 := cell_later hbr p3
    replace p4 := cell_later hbr p4
    replace p5 := cell_later hbr p5
    replace p6 := cell_later hbr p6

    have rbc := Lib.hid (fb_later hbr rbH.out)
    have hgc := Lib.hid (fun j hj => cell_later hbr (hgg.out j hj))
    have hBc := Lib.hid (below_step hB hbr)
    have hgn : wb.heap.size ≤ gn := own_base hr gn rfl
    have hqg : q ≠ gn := fun e => own_ne hr hq (by decide) (by simp [Value.ownBlock, e])
    have q2 : wc.cell? ⟨q, 2, none⟩ = some (.slice (some ⟨gn, 0, none⟩) l.length capn) := blk_cell hq 2
    have hcn : l.length ≤ capn := own_cap hr
    have lq : q < wc.heap.size := blk_lt hq
    have lgn : gn < wc.heap.size := own_lt hr gn rfl
    have scb := hbr.size
    have hrH := Lib.hid hr
    have hqH := Lib.hid hq
    clear hr hq hbr rbH hgg hB hgf
    go_upto_region 3 with fail
    go_loopw [27] (LoopC wc wb.heap.size gn capn l D) (fun i _ => (l.length - intOf i).toNat)
    case atStart => exact ⟨0, rfl, Nat.zero_le _, by rw [cur_zero]; exact hrH.out, Sv.refl _ _⟩
    case round =>
      obtain ⟨k, rfl, hk, hrk, hSk⟩ := hrel
      by_cases hlt : k < l.length
      · have hlt' : (k : Int) < l.length := by omega
        have hDk := hDH.out k hlt
        have x0 := hSk.cell (a := ⟨w.heap.size, 0, none⟩) (by show w.heap.size ≠ gn; omega) f0
        have y0 := hSk.cell (a := ⟨w.heap.size + 1 + 1, 0, none⟩) (by show w.heap.size + 1 + 1 ≠ gn; omega) p0
        have y1 := hSk.cell (a := ⟨w.heap.size + 1 + 1, 1, none⟩) (by show w.heap.size + 1 + 1 ≠ gn; omega) p1
        have y2 := hSk.cell (a := ⟨w.heap.size + 1 + 1, 2, none⟩) (by show w.heap.size + 1 + 1 ≠ gn; omega) p2
        have y3 := hSk.cell (a := ⟨w.heap.size + 1 + 1, 3, none⟩) (by show w.heap.size + 1 + 1 ≠ gn; omega) p3

        have hW0 : (0 : Int) < (W : Int) := by omega
        have hW1 : (W : Int) ≠ 0 := by omega
        have mb := Int.emod_nonneg (k : Int) hW1
        have mb2 := Int.emod_lt_of_pos (k : Int) hW0
        have db : 0 ≤ (k : Int) / W := Int.ediv_nonneg (by omega) (by omega)
        have db2 : (k : Int) / W < 96 + 1 := Int.ediv_lt_of_lt_mul hW0 (by rw [Int.add_mul]; omega)
        obtain ⟨A, hA⟩ : ∃ A, (k : Int) % W - PX = A := ⟨_, rfl⟩
        obtain ⟨B, hB⟩ : ∃ B, (k : Int) / W - PY = B := ⟨_, rfl⟩
        have ab : -1000 ≤ 2 * A + 1 ∧ 2 * A + 1 ≤ 1000 := by omega
        have bb : -1000 ≤ 2 * B + 1 ∧ 2 * B + 1 ≤ 1000 := by omega
        obtain ⟨U, hU⟩ : ∃ U, uu PX RD (k % W) = U := ⟨_, rfl⟩
        obtain ⟨V, hV⟩ : ∃ V, uu PY RD (k / W) = V := ⟨_, rfl⟩
        rw [hU, hV] at hDk
        have eU : (2 * A + 1) * RD = U := by rw [← hU, ← hA]; unfold uu; rw [Int.natCast_emod]
        have eV : (2 * B + 1) * RD = V := by rw [← hV, ← hB]; unfold uu; rw [Int.natCast_ediv]
        have q1 := pix_bd ab.1 ab.2 hRD hRD2
        have q3 := pix_bd bb.1 bb.2 hRD hRD2
        rw [eU] at q1
        rw [eV] at q3
        have k1 : IntKind.i64.wrap ((k : Int) % W - PX) = A := by rw [hA]; exact iw (by omega) (by omega)
        have k2 : IntKind.i64.wrap ((k : Int) / W - PY) = B := by rw [hB]; exact iw (by omega) (by omega)
        have k3 : IntKind.i64.wrap (2 * A) = 2 * A := iw (by omega) (by omega)
        have k4 : IntKind.i64.wrap (2 * A + 1) = 2 * A + 1 := iw (by omega) (by omega)
        have k5 : IntKind.i64.wrap ((2 * A + 1) * RD) = U := by rw [eU]; exact iw (by omega) (by omega)
        have k6 : IntKind.i64.wrap (2 * B) = 2 * B := iw (by omega) (by omega)
        have k7 : IntKind.i64.wrap (2 * B + 1) = 2 * B + 1 := iw (by omega) (by omega)
        have k8 : IntKind.i64.wrap ((2 * B + 1) * RD) = V := by rw [eV]; exact iw (by omega) (by omega)
        have k9 : IntKind.i64.wrap (2 * RN) = den := by rw [hden]; exact iw (by omega) (by omega)
        have wd : 0 ≤ AW * den ∧ AW * den ≤ 64 * 128 := ⟨Int.mul_nonneg (by omega) (by omega), Int.mul_le_mul (by omega) (by omega) (by omega) (by omega)⟩
        have hd : 0 ≤ AH * den ∧ AH * den ≤ 64 * 128 := ⟨Int.mul_nonneg (by omega) (by omega), Int.mul_le_mul (by omega) (by omega) (by omega) (by omega)⟩
        have j1 : IntKind.i64.wrap (AW * den) = AW * den := iw (by omega) (by omega)
        have j2 : IntKind.i64.wrap (AH * den) = AH * den := iw (by omega) (by omega)
        have dH := Lib.hid hden
        clear hden hA hB hU hV eU eV
        go_upto_region 5 with fail
        go_quiet (fail)
        generalize hwa : wr.drewN nq = wa
        have hSa : Sv gn wc wa := by rw [← hwa]; exact sv_drewN hSk _
        have ra : Row wa wb.heap.size gn capn (cur l D k) := by rw [← hwa]; exact hrk
        clear hwa hSk hrk x0 y0 y1 y2 y3
        have y2 := hSa.cell (a := ⟨w.heap.size + 1 + 1, 2, none⟩) (by show w.heap.size + 1 + 1 ≠ gn; omega) p2
        have y3 := hSa.cell (a := ⟨w.heap.size + 1 + 1, 3, none⟩) (by show w.heap.size + 1 + 1 ≠ gn; omega) p3
        go_upto_region 6 with fail
        go_quiet (fail)
        generalize hwx : wa.drewN nq = wx
        have hSx : Sv gn wc wx := by rw [← hwx]; exact sv_drewN hSa _
        have rx : Row wx wb.heap.size gn capn (cur l D k) := by rw [← hwx]; exact ra
        clear hwx hSa ra y2 y3 k1 k2 k3 k4 k5 k6 k7 k8 k9
        have a0 := hSx.cell (a := ⟨w.heap.size + 1, 0, none⟩) (by show w.heap.size + 1 ≠ gn; omega) e0
        have a1 := hSx.cell (a := ⟨w.heap.size + 1, 1, none⟩) (by show w.heap.size + 1 ≠ gn; omega) e1
        have a2 := hSx.cell (a := ⟨w.heap.size + 1, 2, none⟩) (by show w.heap.size + 1 ≠ gn; omega) e2
        have y0 := hSx.cell (a := ⟨w.heap.size + 1 + 1, 0, none⟩) (by show w.heap.size + 1 + 1 ≠ gn; omega) p0
        have y1 := hSx.cell (a := ⟨w.heap.size + 1 + 1, 1, none⟩) (by show w.heap.size + 1 + 1 ≠ gn; omega) p1
        have y2 := hSx.cell (a := ⟨w.heap.size + 1 + 1, 2, none⟩) (by show w.heap.size + 1 + 1 ≠ gn; omega) p2
        have y3 := hSx.cell (a := ⟨w.heap.size + 1 + 1, 3, none⟩) (by show w.heap.size + 1 + 1 ≠ gn; omega) p3
        have y4 := hSx.cell (a := ⟨w.heap.size + 1 + 1, 4, none⟩) (by show w.heap.size + 1 + 1 ≠ gn; omega) p4
        have y5 := hSx.cell (a := ⟨w.heap.size + 1 + 1, 5, none⟩) (by show w.heap.size + 1 + 1 ≠ gn; omega) p5
        have y6 := hSx.cell (a := ⟨w.heap.size + 1 + 1, 6, none⟩) (by show w.heap.size + 1 + 1 ≠ gn; omega) p6

        have z2 := hSx.cell (a := ⟨q, 2, none⟩) hqg q2
        have rxH := Lib.hid rx
        have hSxH := Lib.hid hSx
        clear rx hSx
        unfold col at hDk
        by_cases c1 : U < 0
        · rw [if_pos (.inl c1)] at hDk
          have t1 : decide (U < 0) = true := decide_eq_true c1
          go_wp2_with fail
          exact ⟨⟨k + 1, by congr 1, by omega, by rw [cur_same (p := k) (by omega) (fun j h1 h2 _ => by rw [show j = k by omega]; exact hDk)]; exact rxH.out, hSxH.out⟩, by simp [intOf]; omega⟩
        · by_cases c2 : V < 0
          · rw [if_pos (.inr (.inr (.inl c2)))] at hDk
            go_wp2_with fail
            exact ⟨⟨k + 1, by congr 1, by omega, by rw [cur_same (p := k) (by omega) (fun j h1 h2 _ => by rw [show j = k by omega]; exact hDk)]; exact rxH.out, hSxH.out⟩, by simp [intOf]; omega⟩
          · by_cases c3 : AW * den < U
            · rw [if_pos (.inr (.inl c3))] at hDk
              go_wp2_with fail
              exact ⟨⟨k + 1, by congr 1, by omega, by rw [cur_same (p := k) (by omega) (fun j h1 h2 _ => by rw [show j = k by omega]; exact hDk)]; exact rxH.out, hSxH.out⟩, by simp [intOf]; omega⟩
            · by_cases c4 : AH * den < V
              · rw [if_pos (.inr (.inr (.inr c4)))] at hDk
                go_wp2_with fail
                exact ⟨⟨k + 1, by congr 1, by omega, by rw [cur_same (p := k) (by omega) (fun j h1 h2 _ => by rw [show j = k by omega]; exact hDk)]; exact rxH.out, hSxH.out⟩, by simp [intOf]; omega⟩
              · rw [if_neg (by omega)] at hDk
                go_upto_region 9 with (go_at_call 27; refine (HA.out U V _ (by omega) (by omega) (by omega) (by omega) (fun j hj => hSxH.out.cell (a := ⟨g, j, none⟩) (by show g ≠ gn; have h8 : g < w.heap.size := lgw.out j hj; omega) (hgc.out j hj))).mono ?_; rintro e w5 ⟨rfl, hq5⟩)
                have rowf5 : Row w5 wb.heap.size gn capn (cur l D k) := row_later hq5 rxH.out
                have svf5 : Sv gn wc w5 := hSxH.out.step hq5
                have z5 := cell_later hq5 z2
                have v4 := cell_later hq5 y4
                have v5 := cell_later hq5 y5
                have v6 := cell_later hq5 y6
                have fe0 : (w5.alloc (.cells #[.int .i64 (frac AW AH al U V den).1, .int .i64 (frac AW AH al U V den).2] 59)).cell? ⟨w5.heap.size, 0, none⟩ = some (.int .i64 (frac AW AH al U V den).1) := by go_simp
                have fe1 : (w5.alloc (.cells #[.int .i64 (frac AW AH al U V den).1, .int .i64 (frac AW AH al U V den).2] 59)).cell? ⟨w5.heap.size, 1, none⟩ = some (.int .i64 (frac AW AH al U V den).2) := by go_simp
                have fz : (w5.alloc (.cells #[.int .i64 (frac AW AH al U V den).1, .int .i64 (frac AW AH al U V den).2] 59)).cell? ⟨q, 2, none⟩ = some (.slice (some ⟨gn, 0, none⟩) l.length capn) := keepA z5
                have f4 : (w5.alloc (.cells #[.int .i64 (frac AW AH al U V den).1, .int .i64 (frac AW AH al U V den).2] 59)).cell? ⟨w.heap.size + 1 + 1, 4, none⟩ = some (.int .i64 LO) := keepA v4
                have f5 : (w5.alloc (.cells #[.int .i64 (frac AW AH al U V den).1, .int .i64 (frac AW AH al U V den).2] 59)).cell? ⟨w.heap.size + 1 + 1, 5, none⟩ = some (.int .i64 HI) := keepA v5
                have f6 : (w5.alloc (.cells #[.int .i64 (frac AW AH al U V den).1, .int .i64 (frac AW AH al U V den).2] 59)).cell? ⟨w.heap.size + 1 + 1, 6, none⟩ = some (.int .u8 INK) := keepA v6
                have rowf := Lib.hid (row_alloc (o := .cells #[.int .i64 (frac AW AH al U V den).1, .int .i64 (frac AW AH al U V den).2] 59) rowf5)
                have svf : Sv gn wc (w5.alloc (.cells #[.int .i64 (frac AW AH al U V den).1, .int .i64 (frac AW AH al U V den).2] 59)) := svf5.step (below_alloc (Below.refl _ _) _)
                obtain ⟨old, hold0⟩ : ∃ old, l.getD k 0 = old := ⟨_, rfl⟩
                have hold : 0 ≤ old ∧ old ≤ 255 := by
                  rw [← hold0, List.getD_eq_getElem?_getD, List.getElem?_eq_getElem hlt]; exact hlH.out _ (List.getElem_mem hlt)
                have hDk2 : D k = blend old INK (cov (frac AW AH al U V den).1 (frac AW AH al U V den).2 LO HI) := by rw [hDk, hold0]
                have pixf : (w5.alloc (.cells #[.int .i64 (frac AW AH al U V den).1, .int .i64 (frac AW AH al U V den).2] 59)).cell? ⟨gn, k, none⟩ = some (.int .u8 old) := by rw [row_pix rowf.out hlt, hold0]
                have lgn5 : gn < w5.heap.size := own_lt rowf5 gn rfl
                have lq5 : q < w5.heap.size := World.block_lt_of_cell? _ _ z5
                have lp5 : w.heap.size + 1 + 1 < w5.heap.size := World.block_lt_of_cell? _ _ v4
                have i1 : (0 : Int) ≤ (k : Int) := by omega
                have i2 : (k : Int) < (l.length : Int) := by omega
                have i4 : l.length ≤ capn := hcn
                clear z5 v4 v5 v6 a0 a1 a2 y0 y1 y2 y3 y4 y5 y6 z2 rowf5 svf5 hDk hold0
                generalize (w5.alloc (.cells #[.int .i64 (frac AW AH al U V den).1, .int .i64 (frac AW AH al U V den).2] 59)) = wf at *
                refine wp_region_held_drew (S := fun w' => w'.cell? ⟨q, 2, none⟩ = some (.slice (some ⟨gn, 0, none⟩) l.length capn) ∧ w'.cell? ⟨w.heap.size + 1 + 1, 4, none⟩ = some (.int .i64 LO) ∧ w'.cell? ⟨w.heap.size + 1 + 1, 5, none⟩ = some (.int .i64 HI) ∧ w'.cell? ⟨w.heap.size + 1 + 1, 6, none⟩ = some (.int .u8 INK) ∧ w'.cell? ⟨w5.heap.size, 0, none⟩ = some (.int .i64 (frac AW AH al U V den).1) ∧ w'.cell? ⟨w5.heap.size, 1, none⟩ = some (.int .i64 (frac AW AH al U V den).2)) (by kernel_rfl) ⟨fz, f4, f5, f6, fe0, fe1⟩ (fun hHeld0 => ?_)
                refine wpAnyH_take (i := 0) (oi := { dst := some 92, op := Go.Op.fieldAddr 30 (Go.Operand.tmp 7) 2, type := 0, pos := "law.go:48", after := #[], guard := none }) (v := ?v0) rfl (by kernel_rfl) (by kernel_rfl) (by kernel_rfl) (fun _ _ _ h => h) (Or.inl ⟨by rfl, ?hy0⟩) (by assumption) ?rest0
                case hy0 => (intro w hSw; (try dsimp only at hSw); go_simp; try with_reducible rfl)
                try simp only [Act.put, List.setIfInBounds_toArray, List.set_cons_zero, List.set_cons_succ]
                refine wpAnyH_take (i := 1) (oi := { dst := some 93, op := Go.Op.load 28 (Go.Operand.tmp 92), type := 28, pos := "law.go:48", after := #[{ on := 0, ground := Go.Ground.data }], guard := none }) (v := ?v1) rfl (by kernel_rfl) (by kernel_rfl) (by kernel_rfl) (fun _ _ _ h => h) (Or.inl ⟨by rfl, ?hy1⟩) (by assumption) ?rest1
                case hy1 => (intro w hSw; (try dsimp only at hSw); go_simp; try with_reducible rfl)
                try simp only [Act.put, List.setIfInBounds_toArray, List.set_cons_zero, List.set_cons_succ]
                refine wpAnyH_take (i := 2) (oi := { dst := some 94, op := Go.Op.move (Go.Operand.tmp 8), type := 3, pos := "law.go:48", after := #[], guard := none }) (v := ?v2) rfl (by kernel_rfl) (by kernel_rfl) (by kernel_rfl) (fun _ _ _ h => h) (Or.inl ⟨by rfl, ?hy2⟩) (by assumption) ?rest2
                case hy2 => (intro w hSw; (try dsimp only at hSw); go_simp; try with_reducible rfl)
                try simp only [Act.put, List.setIfInBounds_toArray, List.set_cons_zero, List.set_cons_succ]
                refine wpAnyH_take (i := 3) (oi := { dst := some 95, op := Go.Op.fieldAddr 30 (Go.Operand.tmp 7) 2, type := 0, pos := "law.go:48", after := #[], guard := none }) (v := ?v3) rfl (by kernel_rfl) (by kernel_rfl) (by kernel_rfl) (fun _ _ _ h => h) (Or.inl ⟨by rfl, ?hy3⟩) (by assumption) ?rest3
                case hy3 => (intro w hSw; (try dsimp only at hSw); go_simp; try with_reducible rfl)
                try simp only [Act.put, List.setIfInBounds_toArray, List.set_cons_zero, List.set_cons_succ]
                refine wpAnyH_take (i := 4) (oi := { dst := some 96, op := Go.Op.load 28 (Go.Operand.tmp 95), type := 28, pos := "law.go:48", after := #[{ on := 3, ground := Go.Ground.data }], guard := none }) (v := ?v4) rfl (by kernel_rfl) (by kernel_rfl) (by kernel_rfl) (fun _ _ _ h => h) (Or.inl ⟨by rfl, ?hy4⟩) (by assumption) ?rest4
                case hy4 => (intro w hSw; (try dsimp only at hSw); go_simp; try with_reducible rfl)
                try simp only [Act.put, List.setIfInBounds_toArray, List.set_cons_zero, List.set_cons_succ]
                refine wpAnyH_take (i := 5) (oi := { dst := some 97, op := Go.Op.move (Go.Operand.tmp 8), type := 3, pos := "law.go:48", after := #[], guard := none }) (v := ?v5) rfl (by kernel_rfl) (by kernel_rfl) (by kernel_rfl) (fun _ _ _ h => h) (Or.inl ⟨by rfl, ?hy5⟩) (by assumption) ?rest5
                case hy5 => (intro w hSw; (try dsimp only at hSw); go_simp; try with_reducible rfl)
                try simp only [Act.put, List.setIfInBounds_toArray, List.set_cons_zero, List.set_cons_succ]
                refine wpAnyH_take (i := 6) (oi := { dst := some 98, op := Go.Op.indexAddr 28 (Go.Operand.tmp 96) (Go.Operand.tmp 97), type := 0, pos := "law.go:48", after := #[{ on := 4, ground := Go.Ground.data }, { on := 5, ground := Go.Ground.data }], guard := none }) (v := ?v6) rfl (by kernel_rfl) (by kernel_rfl) (by kernel_rfl) (fun _ _ _ h => h) (Or.inl ⟨by rfl, ?hy6⟩) (by assumption) ?rest6
                case hy6 => (intro w hSw; (try dsimp only at hSw); go_simp; try with_reducible rfl)
                try simp only [Act.put, List.setIfInBounds_toArray, List.set_cons_zero, List.set_cons_succ]
                refine wpAnyH_take (i := 8) (oi := { dst := some 100, op := Go.Op.fieldAddr 39 (Go.Operand.tmp 5) 5, type := 0, pos := "law.go:48", after := #[], guard := none }) (v := ?v8) rfl (by kernel_rfl) (by kernel_rfl) (by kernel_rfl) (fun _ _ _ h => h) (Or.inl ⟨by rfl, ?hy8⟩) (by assumption) ?rest8
                case hy8 => (intro w hSw; (try dsimp only at hSw); go_simp; try with_reducible rfl)
                try simp only [Act.put, List.setIfInBounds_toArray, List.set_cons_zero, List.set_cons_succ]
                refine wpAnyH_take (i := 9) (oi := { dst := some 101, op := Go.Op.load 5 (Go.Operand.tmp 100), type := 5, pos := "law.go:48", after := #[{ on := 8, ground := Go.Ground.data }], guard := none }) (v := ?v9) rfl (by kernel_rfl) (by kernel_rfl) (by kernel_rfl) (fun _ _ _ h => h) (Or.inl ⟨by rfl, ?hy9⟩) (by assumption) ?rest9
                case hy9 => (intro w hSw; (try dsimp only at hSw); go_simp; try with_reducible rfl)
                try simp only [Act.put, List.setIfInBounds_toArray, List.set_cons_zero, List.set_cons_succ]
                refine wpAnyH_take (i := 10) (oi := { dst := some 102, op := Go.Op.load 59 (Go.Operand.tmp 14), type := 59, pos := "law.go:48", after := #[], guard := none }) (v := ?v10) rfl (by kernel_rfl) (by kernel_rfl) (by kernel_rfl) (fun _ _ _ h => h) (Or.inl ⟨by rfl, ?hy10⟩) (by assumption) ?rest10
                case hy10 => (intro w hSw; (try dsimp only at hSw); go_simp; try with_reducible rfl)
                try simp only [Act.put, List.setIfInBounds_toArray, List.set_cons_zero, List.set_cons_succ]
                refine wpAnyH_take (i := 11) (oi := { dst := some 103, op := Go.Op.fieldAddr 39 (Go.Operand.tmp 5) 3, type := 0, pos := "law.go:48", after := #[], guard := none }) (v := ?v11) rfl (by kernel_rfl) (by kernel_rfl) (by kernel_rfl) (fun _ _ _ h => h) (Or.inl ⟨by rfl, ?hy11⟩) (by assumption) ?rest11
                case hy11 => (intro w hSw; (try dsimp only at hSw); go_simp; try with_reducible rfl)
                try simp only [Act.put, List.setIfInBounds_toArray, List.set_cons_zero, List.set_cons_succ]
                refine wpAnyH_take (i := 12) (oi := { dst := some 104, op := Go.Op.load 3 (Go.Operand.tmp 103), type := 3, pos := "law.go:48", after := #[{ on := 11, ground := Go.Ground.data }], guard := none }) (v := ?v12) rfl (by kernel_rfl) (by kernel_rfl) (by kernel_rfl) (fun _ _ _ h => h) (Or.inl ⟨by rfl, ?hy12⟩) (by assumption) ?rest12
                case hy12 => (intro w hSw; (try dsimp only at hSw); go_simp; try with_reducible rfl)
                try simp only [Act.put, List.setIfInBounds_toArray, List.set_cons_zero, List.set_cons_succ]
                refine wpAnyH_take (i := 13) (oi := { dst := some 105, op := Go.Op.fieldAddr 39 (Go.Operand.tmp 5) 4, type := 0, pos := "law.go:48", after := #[], guard := none }) (v := ?v13) rfl (by kernel_rfl) (by kernel_rfl) (by kernel_rfl) (fun _ _ _ h => h) (Or.inl ⟨by rfl, ?hy13⟩) (by assumption) ?rest13
                case hy13 => (intro w hSw; (try dsimp only at hSw); go_simp; try with_reducible rfl)
                try simp only [Act.put, List.setIfInBounds_toArray, List.set_cons_zero, List.set_cons_succ]
                refine wpAnyH_take (i := 14) (oi := { dst := some 106, op := Go.Op.load 3 (Go.Operand.tmp 105), type := 3, pos := "law.go:48", after := #[{ on := 13, ground := Go.Ground.data }], guard := none }) (v := ?v14) rfl (by kernel_rfl) (by kernel_rfl) (by kernel_rfl) (fun _ _ _ h => h) (Or.inl ⟨by rfl, ?hy14⟩) (by assumption) ?rest14
                case hy14 => (intro w hSw; (try dsimp only at hSw); go_simp; try with_reducible rfl)
                try simp only [Act.put, List.setIfInBounds_toArray, List.set_cons_zero, List.set_cons_succ]
                refine wpAnyH_ready (rs := [7, 15]) (by kernel_rfl) (by simp) ?_
                refine AllReadyH.cons (o := { dst := some 99, op := Go.Op.load 5 (Go.Operand.tmp 98), type := 5, pos := "law.go:48", after := #[{ on := 6, ground := Go.Ground.data }], guard := none }) rfl (fun K hK => ?_) (AllReadyH.cons (o := { dst := some 107, op := Go.Op.call { callee := Go.Callee.value (Go.Operand.func 22), args := #[Go.Operand.tmp 102, Go.Operand.tmp 104, Go.Operand.tmp 106], argTypes := #[59, 3, 3] }, type := 5, pos := "law.go:48", after := #[{ on := 10, ground := Go.Ground.data }, { on := 12, ground := Go.Ground.data }, { on := 14, ground := Go.Ground.data }], guard := none }) rfl (fun K hK => ?_) AllReadyH.nil)
                · go_simp
                  refine hK.out _ _ (by assumption) (fun hHeld1 => ?_)
                  clear hK K
                  try simp only [Act.put, List.setIfInBounds_toArray, List.set_cons_zero, List.set_cons_succ]
                  refine wpAnyH_ready (rs := [15]) (by kernel_rfl) (by simp) ?_
                  refine AllReadyH.cons (o := { dst := some 107, op := Go.Op.call { callee := Go.Callee.value (Go.Operand.func 22), args := #[Go.Operand.tmp 102, Go.Operand.tmp 104, Go.Operand.tmp 106], argTypes := #[59, 3, 3] }, type := 5, pos := "law.go:48", after := #[{ on := 10, ground := Go.Ground.data }, { on := 12, ground := Go.Ground.data }, { on := 14, ground := Go.Ground.data }], guard := none }) rfl (fun K hK => ?_) AllReadyH.nil
                  go_simp
                  refine (HC.out U V _ (by omega) (by omega) (by omega) (by omega)).mono ?_; rintro e w7 ⟨rfl, hq3⟩
                  have pixC : w7.cell? ⟨gn, k, none⟩ = some (.int .u8 old) := cell_later hq3 (show wf.drew.cell? _ = _ from pixf)
                  have rowC : Row w7 wb.heap.size gn capn (cur l D k) := row_laterD hq3 rowf.out
                  have svC : Sv gn wc w7 := svf.step (below_step (below_drew1 (Below.refl _ _)) hq3)
                  have szC := hq3.size
                  go_wp2_with fail
                  refine hK.out _ _ ?_ (fun hHeld2 => ?_)
                  · (try dsimp only)
                    (go_split_ands; (repeat' apply And.intro) <;> (repeat' (first | with_reducible assumption | (refine cell_later hq3 ?_; assumption))))
                  clear hK K
                  try simp only [Act.put, List.setIfInBounds_toArray, List.set_cons_zero, List.set_cons_succ]
                  clear hq3
                  refine wpAnyH_ready (rs := [16]) (by kernel_rfl) (by simp) ?_
                  refine AllReadyH.cons (o := { dst := some 108, op := Go.Op.call { callee := Go.Callee.value (Go.Operand.func 21), args := #[Go.Operand.tmp 99, Go.Operand.tmp 101, Go.Operand.tmp 107], argTypes := #[5, 5, 5] }, type := 5, pos := "law.go:48", after := #[{ on := 7, ground := Go.Ground.data }, { on := 9, ground := Go.Ground.data }, { on := 15, ground := Go.Ground.data }, { on := 15, ground := Go.Ground.chain }], guard := none }) rfl (fun K hK => ?_) AllReadyH.nil
                  go_simp
                  refine (HB.out old U V _ hold.1 hold.2).mono ?_; rintro e w8 ⟨rfl, hq3⟩
                  have rowB := row_later hq3 rowC
                  have pixB : w8.cell? ⟨gn, k, none⟩ = some (.int .u8 old) := cell_later hq3 pixC
                  have frzB := (row_text rowB).2 k
                  have svB : Sv gn wc w8 := svC.step (below_step (Below.refl _ _) hq3)
                  go_wp2_with fail
                  refine hK.out _ _ ?_ (fun hHeld3 => ?_)
                  · (try dsimp only)
                    (go_split_ands; (repeat' apply And.intro) <;> (repeat' (first | with_reducible assumption | (refine cell_later hq3 ?_; assumption))))
                  clear hK K
                  try simp only [Act.put, List.setIfInBounds_toArray, List.set_cons_zero, List.set_cons_succ]
                  clear hq3
                  refine wpAnyH_take (i := 17) (oi := { dst := some 109, op := Go.Op.indexAddr 28 (Go.Operand.tmp 93) (Go.Operand.tmp 94), type := 0, pos := "law.go:48", after := #[{ on := 1, ground := Go.Ground.data }, { on := 2, ground := Go.Ground.data }, { on := 0, ground := Go.Ground.phase }, { on := 1, ground := Go.Ground.phase }, { on := 2, ground := Go.Ground.phase }, { on := 3, ground := Go.Ground.phase }, { on := 4, ground := Go.Ground.phase }, { on := 5, ground := Go.Ground.phase }, { on := 6, ground := Go.Ground.phase }, { on := 7, ground := Go.Ground.phase }, { on := 8, ground := Go.Ground.phase }, { on := 9, ground := Go.Ground.phase }, { on := 10, ground := Go.Ground.phase }, { on := 11, ground := Go.Ground.phase }, { on := 12, ground := Go.Ground.phase }, { on := 13, ground := Go.Ground.phase }, { on := 14, ground := Go.Ground.phase }, { on := 15, ground := Go.Ground.phase }, { on := 16, ground := Go.Ground.phase }], guard := none }) (v := ?v17a) rfl (by kernel_rfl) (by kernel_rfl) (by kernel_rfl) (fun _ _ _ h => h) (Or.inl ⟨by rfl, ?hy17a⟩) (by assumption) ?rest17a
                  case hy17a => (intro w hSw; (try dsimp only at hSw); go_simp; try with_reducible rfl)
                  try simp only [Act.put, List.setIfInBounds_toArray, List.set_cons_zero, List.set_cons_succ]
                  refine wpAnyH_ready (rs := [18]) (by kernel_rfl) (by simp) ?_
                  refine AllReadyH.cons (o := { dst := none, op := Go.Op.store 5 (Go.Operand.tmp 109) (Go.Operand.tmp 108), type := 0, pos := "law.go:48", after := #[{ on := 17, ground := Go.Ground.data }, { on := 16, ground := Go.Ground.data }, { on := 16, ground := Go.Ground.chain }, { on := 0, ground := Go.Ground.phase }, { on := 1, ground := Go.Ground.phase }, { on := 2, ground := Go.Ground.phase }, { on := 3, ground := Go.Ground.phase }, { on := 4, ground := Go.Ground.phase }, { on := 5, ground := Go.Ground.phase }, { on := 6, ground := Go.Ground.phase }, { on := 7, ground := Go.Ground.phase }, { on := 8, ground := Go.Ground.phase }, { on := 9, ground := Go.Ground.phase }, { on := 10, ground := Go.Ground.phase }, { on := 11, ground := Go.Ground.phase }, { on := 12, ground := Go.Ground.phase }, { on := 13, ground := Go.Ground.phase }, { on := 14, ground := Go.Ground.phase }, { on := 15, ground := Go.Ground.phase }, { on := 16, ground := Go.Ground.phase }], guard := none }) rfl (fun K hK => ?_) AllReadyH.nil
                  go_simp
                  refine hK.out _ _ ?_ (fun hHeld4 => ?_)
                  · (try dsimp only)
                    (go_split_ands; (repeat' apply And.intro) <;> (refine (World.cell?_setCell_far _ _ _ _ ?_).trans (by assumption); dsimp only; omega))
                  clear hK K
                  try simp only [Act.put, List.setIfInBounds_toArray, List.set_cons_zero, List.set_cons_succ]
                  refine wpAnyH_done (by kernel_rfl) ?_ _
                  go_wp2_with fail
                  refine ⟨⟨k + 1, by congr 1, by omega, ?_, svB.put _ _⟩, by simp [intOf]; omega⟩
                  rw [← hDk2]
                  exact row_put rowB hlt
                · go_simp
                  refine (HC.out U V _ (by omega) (by omega) (by omega) (by omega)).mono ?_; rintro e w7 ⟨rfl, hq3⟩
                  have pixC : w7.cell? ⟨gn, k, none⟩ = some (.int .u8 old) := cell_later hq3 (show wf.drew.cell? _ = _ from pixf)
                  have rowC : Row w7 wb.heap.size gn capn (cur l D k) := row_laterD hq3 rowf.out
                  have svC : Sv gn wc w7 := svf.step (below_step (below_drew1 (Below.refl _ _)) hq3)
                  have szC := hq3.size
                  go_wp2_with fail
                  refine hK.out _ _ ?_ (fun hHeld5 => ?_)
                  · (try dsimp only)
                    (go_split_ands; (repeat' apply And.intro) <;> (repeat' (first | with_reducible assumption | (refine cell_later hq3 ?_; assumption))))
                  clear hK K
                  try simp only [Act.put, List.setIfInBounds_toArray, List.set_cons_zero, List.set_cons_succ]
                  clear hq3
                  refine wpAnyH_ready (rs := [7]) (by kernel_rfl) (by simp) ?_
                  refine AllReadyH.cons (o := { dst := some 99, op := Go.Op.load 5 (Go.Operand.tmp 98), type := 5, pos := "law.go:48", after := #[{ on := 6, ground := Go.Ground.data }], guard := none }) rfl (fun K hK => ?_) AllReadyH.nil
                  go_simp
                  refine hK.out _ _ (by assumption) (fun hHeld6 => ?_)
                  clear hK K
                  try simp only [Act.put, List.setIfInBounds_toArray, List.set_cons_zero, List.set_cons_succ]
                  refine wpAnyH_ready (rs := [16]) (by kernel_rfl) (by simp) ?_
                  refine AllReadyH.cons (o := { dst := some 108, op := Go.Op.call { callee := Go.Callee.value (Go.Operand.func 21), args := #[Go.Operand.tmp 99, Go.Operand.tmp 101, Go.Operand.tmp 107], argTypes := #[5, 5, 5] }, type := 5, pos := "law.go:48", after := #[{ on := 7, ground := Go.Ground.data }, { on := 9, ground := Go.Ground.data }, { on := 15, ground := Go.Ground.data }, { on := 15, ground := Go.Ground.chain }], guard := none }) rfl (fun K hK => ?_) AllReadyH.nil
                  go_simp
                  refine (HB.out old U V _ hold.1 hold.2).mono ?_; rintro e w8 ⟨rfl, hq3⟩
                  have rowB := row_later hq3 rowC
                  have pixB : w8.cell? ⟨gn, k, none⟩ = some (.int .u8 old) := cell_later hq3 pixC
                  have frzB := (row_text rowB).2 k
                  have svB : Sv gn wc w8 := svC.step (below_step (Below.refl _ _) hq3)
                  go_wp2_with fail
                  refine hK.out _ _ ?_ (fun hHeld7 => ?_)
                  · (try dsimp only)
                    (go_split_ands; (repeat' apply And.intro) <;> (repeat' (first | with_reducible assumption | (refine cell_later hq3 ?_; assumption))))
                  clear hK K
                  try simp only [Act.put, List.setIfInBounds_toArray, List.set_cons_zero, List.set_cons_succ]
                  clear hq3
                  refine wpAnyH_take (i := 17) (oi := { dst := some 109, op := Go.Op.indexAddr 28 (Go.Operand.tmp 93) (Go.Operand.tmp 94), type := 0, pos := "law.go:48", after := #[{ on := 1, ground := Go.Ground.data }, { on := 2, ground := Go.Ground.data }, { on := 0, ground := Go.Ground.phase }, { on := 1, ground := Go.Ground.phase }, { on := 2, ground := Go.Ground.phase }, { on := 3, ground := Go.Ground.phase }, { on := 4, ground := Go.Ground.phase }, { on := 5, ground := Go.Ground.phase }, { on := 6, ground := Go.Ground.phase }, { on := 7, ground := Go.Ground.phase }, { on := 8, ground := Go.Ground.phase }, { on := 9, ground := Go.Ground.phase }, { on := 10, ground := Go.Ground.phase }, { on := 11, ground := Go.Ground.phase }, { on := 12, ground := Go.Ground.phase }, { on := 13, ground := Go.Ground.phase }, { on := 14, ground := Go.Ground.phase }, { on := 15, ground := Go.Ground.phase }, { on := 16, ground := Go.Ground.phase }], guard := none }) (v := ?v17b) rfl (by kernel_rfl) (by kernel_rfl) (by kernel_rfl) (fun _ _ _ h => h) (Or.inl ⟨by rfl, ?hy17b⟩) (by assumption) ?rest17b
                  case hy17b => (intro w hSw; (try dsimp only at hSw); go_simp; try with_reducible rfl)
                  try simp only [Act.put, List.setIfInBounds_toArray, List.set_cons_zero, List.set_cons_succ]
                  refine wpAnyH_ready (rs := [18]) (by kernel_rfl) (by simp) ?_
                  refine AllReadyH.cons (o := { dst := none, op := Go.Op.store 5 (Go.Operand.tmp 109) (Go.Operand.tmp 108), type := 0, pos := "law.go:48", after := #[{ on := 17, ground := Go.Ground.data }, { on := 16, ground := Go.Ground.data }, { on := 16, ground := Go.Ground.chain }, { on := 0, ground := Go.Ground.phase }, { on := 1, ground := Go.Ground.phase }, { on := 2, ground := Go.Ground.phase }, { on := 3, ground := Go.Ground.phase }, { on := 4, ground := Go.Ground.phase }, { on := 5, ground := Go.Ground.phase }, { on := 6, ground := Go.Ground.phase }, { on := 7, ground := Go.Ground.phase }, { on := 8, ground := Go.Ground.phase }, { on := 9, ground := Go.Ground.phase }, { on := 10, ground := Go.Ground.phase }, { on := 11, ground := Go.Ground.phase }, { on := 12, ground := Go.Ground.phase }, { on := 13, ground := Go.Ground.phase }, { on := 14, ground := Go.Ground.phase }, { on := 15, ground := Go.Ground.phase }, { on := 16, ground := Go.Ground.phase }], guard := none }) rfl (fun K hK => ?_) AllReadyH.nil
                  go_simp
                  refine hK.out _ _ ?_ (fun hHeld8 => ?_)
                  · (try dsimp only)
                    (go_split_ands; (repeat' apply And.intro) <;> (refine (World.cell?_setCell_far _ _ _ _ ?_).trans (by assumption); dsimp only; omega))
                  clear hK K
                  try simp only [Act.put, List.setIfInBounds_toArray, List.set_cons_zero, List.set_cons_succ]
                  refine wpAnyH_done (by kernel_rfl) ?_ _
                  go_wp2_with fail
                  refine ⟨⟨k + 1, by congr 1, by omega, ?_, svB.put _ _⟩, by simp [intOf]; omega⟩
                  rw [← hDk2]
                  exact row_put rowB hlt
      · obtain rfl : k = l.length := by omega
        have hqk : wr.heap[q]? = some (.cells #[.int .i64 W, .int .i64 H, .slice (some ⟨gn, 0, none⟩) l.length capn] 30 (0, 0)) := (hSk.block q lq hqg).trans hqH.out
        have hrb : FreshB wr (w.heap.size + 1 + 1 + 1) := (hSk.block _ (blk_lt rbc.out) (by omega)).trans rbc.out
        have v0 : wr.cell? ⟨q, 0, none⟩ = some (.int .i64 W) := blk_cell hqk 0
        have v1 : wr.cell? ⟨q, 1, none⟩ = some (.int .i64 H) := blk_cell hqk 1
        have v2 : wr.cell? ⟨q, 2, none⟩ = some (.slice (some ⟨gn, 0, none⟩) l.length capn) := blk_cell hqk 2
        have hrc := fb_cells hrb
        obtain ⟨⟨g0, g1, g2⟩, g3, g4, g5⟩ := hrc
        have hf := Lib.hid (lb_set (W := (W : Int)) (H := (H : Int)) (sl := .slice (some ⟨gn, 0, none⟩) l.length capn) hrb)
        have rf := Lib.hid (row_setB (W := (W : Int)) (H := (H : Int)) (sl := .slice (some ⟨gn, 0, none⟩) l.length capn) hrk hrb)
        have bf := Lib.hid (below_setB (W := (W : Int)) (H := (H : Int)) (sl := .slice (some ⟨gn, 0, none⟩) l.length capn) (b := w.heap.size + 1 + 1 + 1) (sv_below hBc.out hSk (by omega) (by omega)) (by omega))
        clear hrk hSk hqk hrb
        go_wp2_with fail
        have c0 := blk_cell hf.out 0
        have c1 := blk_cell hf.out 1
        have c2 := blk_cell hf.out 2
        refine bodyPost_ret (v := .agg #[.int .i64 W, .int .i64 H, .slice (some ⟨gn, 0, none⟩) l.length capn]) (by simp [results, Try.results16, go_sem, c0, c1, c2]) rfl ⟨gn, capn, ?_, ?_, ?_⟩
        · rw [List.length_map, List.length_range]
        · have := rf.out
          rw [cur_full (Nat.le_refl _)] at this
          unfold Row at this
          rw [List.length_map, List.length_range] at this ⊢
          exact own_less this (by omega)
        · exact bf.out
end Go.Proofs.Ytfbnaicnmkkohaa.Draw16
