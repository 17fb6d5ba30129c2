/- FrameOut's walk. Conditions: as each states. -/
import Derived.Test.YtfbnaicnmkkohaaWalkFull
namespace Go.Proofs.Ytfbnaicnmkkohaa.WalkOut
open Go Go.RowKit Go.Lib Go.Proofs.YtfbnaicnmkkohaaW.PrintWords Go.Proofs.YtfbnaicnmkkohaaW.PrintLast Go.Proofs.YtfbnaicnmkkohaaW.PrintMore Go.Proofs.Ytfbnaicnmkkohaa.Core Go.Proofs.Ytfbnaicnmkkohaa.PFramePlace Go.Proofs.Ytfbnaicnmkkohaa.Repeat Go.Proofs.Ytfbnaicnmkkohaa.Frames Go.Proofs.Ytfbnaicnmkkohaa.Draw Go.Proofs.Ytfbnaicnmkkohaa.Drawn Go.Proofs.Ytfbnaicnmkkohaa.Awake Go.Proofs.Ytfbnaicnmkkohaa.Two Go.Proofs.Ytfbnaicnmkkohaa.FullLaw Go.Proofs.Ytfbnaicnmkkohaa.WalkFull
set_option linter.unusedVariables false
set_option linter.unusedSimpArgs false
attribute [local go_sem ↓] Go.wp_at_zero Go.wp_at_succ
attribute [local go_sem] max2_int min2_int
theorem frm_set {w : World} {F T p i : Nat} {W H : Int} {l : List Int} {v : Value} (h : Frm w F T W H l) (hF : F ≠ p) (hT : T ≠ p) : Frm (w.setCell ⟨p, i, none⟩ v) F T W H l := ⟨blk_far h.1 (p := ⟨p, i, none⟩) hF _, blk_far h.2.1 (p := ⟨p, i, none⟩) hT _, h.2.2⟩
theorem frm_drew {w : World} {F T : Nat} {W H : Int} {l : List Int} (h : Frm w F T W H l) : Frm w.drew F T W H l := h
theorem conv {w : World} {B g cap : Nat} {l : List Int} (h : Row w B g cap l) : (convert 28 9 (.slice (some ⟨g, 0, none⟩) l.length cap)).run Try.prog w = .ok (.string (strOfNums l)) w :=
  run_convert_bytes_arg (P := Try.prog) w 28 5 Try.underlying28 Try.underlying5 g 0 l.length cap l rfl (fun i hi => by
    rw [Nat.zero_add, World.ownsRow.cellAt h i (by omega), List.getElem?_map, List.getD_eq_getElem?_getD, List.getElem?_eq_getElem hi]; rfl) 9 (by kernel_rfl)
theorem below_p1 {B p i : Nat} {w w1 : World} (h : Below B w w1) (hp : B ≤ p) (v : Value) : Below B w (w1.setCell ⟨p, i, none⟩ v) := h.setCell hp v
set_option maxRecDepth 100000 in
set_option maxHeartbeats 8000000 in
theorem out (op key aw ah ink t0 t1 t2 t3 t4 t5 t6 tone PX PY RN RD R2 LO HI INK : Int) (W H : Nat) (l TL LP : List Int) (w : World) (hLP : Hid (LP.length = 3600)) (hn : l.length ≤ 1000)
    (hRD : 1 ≤ RD ∧ RD ≤ 64) (hR2 : (if 2 * RD < RN then 2 * RD else RN) = R2)
    (HS : Hid (∀ w, Calls Try.prog 13 #[.agg #[.int .u8 op, .int .u8 key, .int .u8 aw, .int .u8 ah, .int .u8 ink]] w (WalkField.Made w W H l)))
    (HO : Hid (∀ w, Calls Try.prog 10 #[.int .i64 60, .int .i64 60, .int .u8 tone] w (Frames.Made w 60 60 TL)))
    (hout : Hid (∀ k : Nat, k < LP.length → ((k : Int) % 60 - PX < -1 ∨ (k : Int) / 60 - PY < -1 ∨ (W : Int) * R2 < ((k : Int) % 60 - PX) * RD ∨ (H : Int) * R2 < ((k : Int) / 60 - PY) * RD) → LP.getD k 0 = tone))
    (hfit : Hid (∀ k : Nat, k < LP.length → IntKind.i64.wrap ((k : Int) % 60 - PX) = (k : Int) % 60 - PX ∧ IntKind.i64.wrap ((k : Int) / 60 - PY) = (k : Int) / 60 - PY ∧ IntKind.i64.wrap (((k : Int) % 60 - PX) * RD) = ((k : Int) % 60 - PX) * RD ∧ IntKind.i64.wrap (((k : Int) / 60 - PY) * RD) = ((k : Int) / 60 - PY) * RD ∧ IntKind.i64.wrap ((W : Int) * R2) = (W : Int) * R2 ∧ IntKind.i64.wrap ((H : Int) * R2) = (H : Int) * R2))
    (HD : Hid (∀ (g cap F T : Nat) (w' : World), l.length ≤ cap → g ≠ T → Frm w' F T 60 60 TL → (∀ j, j < l.length → w'.cell? ⟨g, j, none⟩ = some (.int .u8 (l.getD j 0))) →
      Calls Try.prog 15 #[.pointer (some ⟨F, 0, none⟩), .agg #[.int .i64 W, .int .i64 H, .slice (some ⟨g, 0, none⟩) l.length cap], .agg #[.int .i64 PX, .int .i64 PY, .int .i64 R2, .int .i64 RD, .int .i64 LO, .int .i64 HI, .int .u8 INK]] w' (fun e w2 => e = .returned (.int .i64 0) ∧ Frm w2 F T 60 60 LP ∧ Sv T w' w2)))
    (HD2 : Hid (∀ (g cap F T : Nat) (w' : World), l.length ≤ cap → g ≠ T → Frm w' F T 60 60 TL → (∀ j, j < l.length → w'.cell? ⟨g, j, none⟩ = some (.int .u8 (l.getD j 0))) →
      Calls Try.prog 15 #[.pointer (some ⟨F, 0, none⟩), .agg #[.int .i64 W, .int .i64 H, .slice (some ⟨g, 0, none⟩) l.length cap], .agg #[.int .i64 PX, .int .i64 PY, .int .i64 R2, .int .i64 RD, .int .i64 LO, .int .i64 HI, .int .u8 tone]] w' (fun e w2 => e = .returned (.int .i64 0) ∧ Frm w2 F T 60 60 TL ∧ Sv T w' w2)))
    (HX : Hid (∀ (F T : Nat) (w' : World), Frm w' F T 60 60 LP → Calls Try.prog 12 #[.pointer (some ⟨F, 0, none⟩)] w' (Shown w' 60 60 LP)))
    (HX2 : Hid (∀ (F T : Nat) (w' : World), Frm w' F T 60 60 TL → Calls Try.prog 12 #[.pointer (some ⟨F, 0, none⟩)] w' (Shown w' 60 60 TL)))
    (HT : Hid (∀ w, Calls Try.prog 14 #[.agg #[.int .u8 t0, .int .u8 t1, .int .u8 t2, .int .u8 t3, .int .u8 t4, .int .u8 t5, .int .u8 t6]] w (Ret (.agg #[.int .i64 PX, .int .i64 PY, .int .i64 RN, .int .i64 RD, .int .i64 LO, .int .i64 HI, .int .u8 INK]) w))) :
    Calls Try.prog 5 #[.agg #[.int .u8 op, .int .u8 key, .int .u8 aw, .int .u8 ah, .int .u8 ink], .agg #[.int .u8 t0, .int .u8 t1, .int .u8 t2, .int .u8 t3, .int .u8 t4, .int .u8 t5, .int .u8 t6], .int .u8 tone] w (Ret (.bool true) w) := by
  have hfd : ∀ (a b : Int) (v : Value) (w : World), (Instr.field 30 (.agg #[.int .i64 a, .int .i64 b, v]) 2).run Try.prog w = .ok v w := fun _ _ _ _ => by kernel_rfl
  go_enter Try.func5, Try.ntmps5
  go_upto_region 6 with (first
    | (go_at_call 9; refine (awake_calls _).mono ?_; rintro e w1 ⟨rfl, hw1⟩)
    | (go_at_call 10; refine (HO.out _).mono ?_; rintro e w2 ⟨F, T, rfl, hzF, hzT, hF, hw2⟩))
  have c0 := cell_later hw2 (cell_later hw1 (show ((w.alloc (.cells #[.int .u8 op, .int .u8 key, .int .u8 aw, .int .u8 ah, .int .u8 ink] 35)).alloc (.cells #[.int .u8 t0, .int .u8 t1, .int .u8 t2, .int .u8 t3, .int .u8 t4, .int .u8 t5, .int .u8 t6] 41)).cell? ⟨w.heap.size, 0, none⟩ = some (.int .u8 op) by go_simp))
  have c1 := cell_later hw2 (cell_later hw1 (show ((w.alloc (.cells #[.int .u8 op, .int .u8 key, .int .u8 aw, .int .u8 ah, .int .u8 ink] 35)).alloc (.cells #[.int .u8 t0, .int .u8 t1, .int .u8 t2, .int .u8 t3, .int .u8 t4, .int .u8 t5, .int .u8 t6] 41)).cell? ⟨w.heap.size, 1, none⟩ = some (.int .u8 key) by go_simp))
  have c2 := cell_later hw2 (cell_later hw1 (show ((w.alloc (.cells #[.int .u8 op, .int .u8 key, .int .u8 aw, .int .u8 ah, .int .u8 ink] 35)).alloc (.cells #[.int .u8 t0, .int .u8 t1, .int .u8 t2, .int .u8 t3, .int .u8 t4, .int .u8 t5, .int .u8 t6] 41)).cell? ⟨w.heap.size, 2, none⟩ = some (.int .u8 aw) by go_simp))
  have c3 := cell_later hw2 (cell_later hw1 (show ((w.alloc (.cells #[.int .u8 op, .int .u8 key, .int .u8 aw, .int .u8 ah, .int .u8 ink] 35)).alloc (.cells #[.int .u8 t0, .int .u8 t1, .int .u8 t2, .int .u8 t3, .int .u8 t4, .int .u8 t5, .int .u8 t6] 41)).cell? ⟨w.heap.size, 3, none⟩ = some (.int .u8 ah) by go_simp))
  have c4 := cell_later hw2 (cell_later hw1 (show ((w.alloc (.cells #[.int .u8 op, .int .u8 key, .int .u8 aw, .int .u8 ah, .int .u8 ink] 35)).alloc (.cells #[.int .u8 t0, .int .u8 t1, .int .u8 t2, .int .u8 t3, .int .u8 t4, .int .u8 t5, .int .u8 t6] 41)).cell? ⟨w.heap.size, 4, none⟩ = some (.int .u8 ink) by go_simp))
  have c5 := cell_later hw2 (cell_later hw1 (show ((w.alloc (.cells #[.int .u8 op, .int .u8 key, .int .u8 aw, .int .u8 ah, .int .u8 ink] 35)).alloc (.cells #[.int .u8 t0, .int .u8 t1, .int .u8 t2, .int .u8 t3, .int .u8 t4, .int .u8 t5, .int .u8 t6] 41)).cell? ⟨w.heap.size + 1, 0, none⟩ = some (.int .u8 t0) by go_simp))
  have c6 := cell_later hw2 (cell_later hw1 (show ((w.alloc (.cells #[.int .u8 op, .int .u8 key, .int .u8 aw, .int .u8 ah, .int .u8 ink] 35)).alloc (.cells #[.int .u8 t0, .int .u8 t1, .int .u8 t2, .int .u8 t3, .int .u8 t4, .int .u8 t5, .int .u8 t6] 41)).cell? ⟨w.heap.size + 1, 1, none⟩ = some (.int .u8 t1) by go_simp))
  have c7 := cell_later hw2 (cell_later hw1 (show ((w.alloc (.cells #[.int .u8 op, .int .u8 key, .int .u8 aw, .int .u8 ah, .int .u8 ink] 35)).alloc (.cells #[.int .u8 t0, .int .u8 t1, .int .u8 t2, .int .u8 t3, .int .u8 t4, .int .u8 t5, .int .u8 t6] 41)).cell? ⟨w.heap.size + 1, 2, none⟩ = some (.int .u8 t2) by go_simp))
  have c8 := cell_later hw2 (cell_later hw1 (show ((w.alloc (.cells #[.int .u8 op, .int .u8 key, .int .u8 aw, .int .u8 ah, .int .u8 ink] 35)).alloc (.cells #[.int .u8 t0, .int .u8 t1, .int .u8 t2, .int .u8 t3, .int .u8 t4, .int .u8 t5, .int .u8 t6] 41)).cell? ⟨w.heap.size + 1, 3, none⟩ = some (.int .u8 t3) by go_simp))
  have c9 := cell_later hw2 (cell_later hw1 (show ((w.alloc (.cells #[.int .u8 op, .int .u8 key, .int .u8 aw, .int .u8 ah, .int .u8 ink] 35)).alloc (.cells #[.int .u8 t0, .int .u8 t1, .int .u8 t2, .int .u8 t3, .int .u8 t4, .int .u8 t5, .int .u8 t6] 41)).cell? ⟨w.heap.size + 1, 4, none⟩ = some (.int .u8 t4) by go_simp))
  have c10 := cell_later hw2 (cell_later hw1 (show ((w.alloc (.cells #[.int .u8 op, .int .u8 key, .int .u8 aw, .int .u8 ah, .int .u8 ink] 35)).alloc (.cells #[.int .u8 t0, .int .u8 t1, .int .u8 t2, .int .u8 t3, .int .u8 t4, .int .u8 t5, .int .u8 t6] 41)).cell? ⟨w.heap.size + 1, 5, none⟩ = some (.int .u8 t5) by go_simp))
  have c11 := cell_later hw2 (cell_later hw1 (show ((w.alloc (.cells #[.int .u8 op, .int .u8 key, .int .u8 aw, .int .u8 ah, .int .u8 ink] 35)).alloc (.cells #[.int .u8 t0, .int .u8 t1, .int .u8 t2, .int .u8 t3, .int .u8 t4, .int .u8 t5, .int .u8 t6] 41)).cell? ⟨w.heap.size + 1, 6, none⟩ = some (.int .u8 t6) by go_simp))
  have hB2 : Below w.heap.size w w2 := below_step (below_step (below_alloc (below_alloc (Below.refl _ _) _) _) hw1) hw2
  have sT : w.heap.size ≤ T := by have := hw1.size; simp at this; omega
  clear hw1 hw2
  have l2 : w.heap.size + 1 < w2.heap.size := World.block_lt_of_cell? _ _ c5
  go_cut [8, 9] (fun s8 s9 wr => ∃ b p g cap : Nat, s9 = .pointer (some ⟨b, 0, none⟩) ∧ s8 = .pointer (some ⟨p, 0, none⟩) ∧ Two w2.heap.size wr b p g cap W H l #[.int .i64 PX, .int .i64 PY, .int .i64 RN, .int .i64 RD, .int .i64 LO, .int .i64 HI, .int .u8 INK] ∧ Below w2.heap.size w2 wr)
  case first =>
    go_region_held3 (fun w' => w'.cell? ⟨w.heap.size, 0, none⟩ = some (.int .u8 op) ∧ w'.cell? ⟨w.heap.size, 1, none⟩ = some (.int .u8 key) ∧ w'.cell? ⟨w.heap.size, 2, none⟩ = some (.int .u8 aw) ∧ w'.cell? ⟨w.heap.size, 3, none⟩ = some (.int .u8 ah) ∧ w'.cell? ⟨w.heap.size, 4, none⟩ = some (.int .u8 ink) ∧ w'.cell? ⟨w.heap.size + 1, 0, none⟩ = some (.int .u8 t0) ∧ w'.cell? ⟨w.heap.size + 1, 1, none⟩ = some (.int .u8 t1) ∧ w'.cell? ⟨w.heap.size + 1, 2, none⟩ = some (.int .u8 t2) ∧ w'.cell? ⟨w.heap.size + 1, 3, none⟩ = some (.int .u8 t3) ∧ w'.cell? ⟨w.heap.size + 1, 4, none⟩ = some (.int .u8 t4) ∧ w'.cell? ⟨w.heap.size + 1, 5, none⟩ = some (.int .u8 t5) ∧ w'.cell? ⟨w.heap.size + 1, 6, none⟩ = some (.int .u8 t6))
      ((go_split_ands; (repeat' apply And.intro) <;> (repeat' (first | with_reducible assumption | with_reducible refine keepA ?_ | with_reducible refine keepD ?_ | with_reducible refine keepS ?_ ?_ | (dsimp only; omega)))))
      (first
        | (go_at_call 14; refine (HT.out _).mono ?_; rintro e w3 ⟨rfl, hbq⟩; have Bw3 : Below w2.heap.size w2 w3 := below_step (by (repeat' (first | with_reducible assumption | with_reducible exact Below.refl _ _ | with_reducible refine below_alloc ?_ _ | with_reducible refine below_drew1 ?_ | with_reducible refine below_set ?_ ?_ | omega))) hbq; have sw3 := Bw3.size; have kw30 : w3.cell? ⟨w.heap.size, 0, none⟩ = some (.int .u8 op) := cell_later hbq (by go_split_ands; assumption); have kw31 : w3.cell? ⟨w.heap.size, 1, none⟩ = some (.int .u8 key) := cell_later hbq (by go_split_ands; assumption); have kw32 : w3.cell? ⟨w.heap.size, 2, none⟩ = some (.int .u8 aw) := cell_later hbq (by go_split_ands; assumption); have kw33 : w3.cell? ⟨w.heap.size, 3, none⟩ = some (.int .u8 ah) := cell_later hbq (by go_split_ands; assumption); have kw34 : w3.cell? ⟨w.heap.size, 4, none⟩ = some (.int .u8 ink) := cell_later hbq (by go_split_ands; assumption); have kw35 : w3.cell? ⟨w.heap.size + 1, 0, none⟩ = some (.int .u8 t0) := cell_later hbq (by go_split_ands; assumption); have kw36 : w3.cell? ⟨w.heap.size + 1, 1, none⟩ = some (.int .u8 t1) := cell_later hbq (by go_split_ands; assumption); have kw37 : w3.cell? ⟨w.heap.size + 1, 2, none⟩ = some (.int .u8 t2) := cell_later hbq (by go_split_ands; assumption); have kw38 : w3.cell? ⟨w.heap.size + 1, 3, none⟩ = some (.int .u8 t3) := cell_later hbq (by go_split_ands; assumption); have kw39 : w3.cell? ⟨w.heap.size + 1, 4, none⟩ = some (.int .u8 t4) := cell_later hbq (by go_split_ands; assumption); have kw310 : w3.cell? ⟨w.heap.size + 1, 5, none⟩ = some (.int .u8 t5) := cell_later hbq (by go_split_ands; assumption); have kw311 : w3.cell? ⟨w.heap.size + 1, 6, none⟩ = some (.int .u8 t6) := cell_later hbq (by go_split_ands; assumption); (try (have fbw30 : FreshB w3 (w2.heap.size) := (by first | (with_reducible refine fb_later hbq (fb_new ?_); first | rfl | exact sz1 _ _) | (with_reducible refine fb_later hbq (fb_alloc (fb_new ?_)); first | rfl | exact sz1 _ _) | (with_reducible refine fb_later hbq ?_; with_reducible assumption) | (with_reducible refine fb_later hbq (fb_alloc ?_); with_reducible assumption) | (with_reducible refine fb_later hbq (fb_alloc (fb_alloc ?_)); with_reducible assumption) | (with_reducible refine fb_laterD hbq (fb_new ?_); first | rfl | exact sz1 _ _) | (with_reducible refine fb_laterD hbq (fb_alloc (fb_new ?_)); first | rfl | exact sz1 _ _) | (with_reducible refine fb_laterD hbq ?_; with_reducible assumption) | (with_reducible refine fb_laterD hbq (fb_alloc ?_); with_reducible assumption) | (with_reducible refine fb_laterD hbq (fb_alloc (fb_alloc ?_)); with_reducible assumption)); have fbw30c := fb_cells fbw30; have fbw30d : w2.heap.size < w3.heap.size := blk_lt fbw30; have fbw30e := Nat.ne_of_lt fbw30d; go_split_ands)); (try (have fpw30 : FreshP w3 (w2.heap.size) := (by first | (with_reducible refine fp_later hbq (fp_new ?_); first | rfl | exact sz1 _ _) | (with_reducible refine fp_later hbq (fp_alloc (fp_new ?_)); first | rfl | exact sz1 _ _) | (with_reducible refine fp_later hbq ?_; with_reducible assumption) | (with_reducible refine fp_later hbq (fp_alloc ?_); with_reducible assumption) | (with_reducible refine fp_later hbq (fp_alloc (fp_alloc ?_)); with_reducible assumption) | (with_reducible refine fp_laterD hbq (fp_new ?_); first | rfl | exact sz1 _ _) | (with_reducible refine fp_laterD hbq (fp_alloc (fp_new ?_)); first | rfl | exact sz1 _ _) | (with_reducible refine fp_laterD hbq ?_; with_reducible assumption) | (with_reducible refine fp_laterD hbq (fp_alloc ?_); with_reducible assumption) | (with_reducible refine fp_laterD hbq (fp_alloc (fp_alloc ?_)); with_reducible assumption)); have fpw30c := fp_cells fpw30; have fpw30d : w2.heap.size < w3.heap.size := blk_lt fpw30; have fpw30e := Nat.ne_of_lt fpw30d; go_split_ands)); (try (have fbw31 : FreshB w3 (w2.heap.size + 1) := (by first | (with_reducible refine fb_later hbq (fb_new ?_); first | rfl | exact sz1 _ _) | (with_reducible refine fb_later hbq (fb_alloc (fb_new ?_)); first | rfl | exact sz1 _ _) | (with_reducible refine fb_later hbq ?_; with_reducible assumption) | (with_reducible refine fb_later hbq (fb_alloc ?_); with_reducible assumption) | (with_reducible refine fb_later hbq (fb_alloc (fb_alloc ?_)); with_reducible assumption) | (with_reducible refine fb_laterD hbq (fb_new ?_); first | rfl | exact sz1 _ _) | (with_reducible refine fb_laterD hbq (fb_alloc (fb_new ?_)); first | rfl | exact sz1 _ _) | (with_reducible refine fb_laterD hbq ?_; with_reducible assumption) | (with_reducible refine fb_laterD hbq (fb_alloc ?_); with_reducible assumption) | (with_reducible refine fb_laterD hbq (fb_alloc (fb_alloc ?_)); with_reducible assumption)); have fbw31c := fb_cells fbw31; have fbw31d : w2.heap.size + 1 < w3.heap.size := blk_lt fbw31; have fbw31e := Nat.ne_of_lt fbw31d; go_split_ands)); (try (have fpw31 : FreshP w3 (w2.heap.size + 1) := (by first | (with_reducible refine fp_later hbq (fp_new ?_); first | rfl | exact sz1 _ _) | (with_reducible refine fp_later hbq (fp_alloc (fp_new ?_)); first | rfl | exact sz1 _ _) | (with_reducible refine fp_later hbq ?_; with_reducible assumption) | (with_reducible refine fp_later hbq (fp_alloc ?_); with_reducible assumption) | (with_reducible refine fp_later hbq (fp_alloc (fp_alloc ?_)); with_reducible assumption) | (with_reducible refine fp_laterD hbq (fp_new ?_); first | rfl | exact sz1 _ _) | (with_reducible refine fp_laterD hbq (fp_alloc (fp_new ?_)); first | rfl | exact sz1 _ _) | (with_reducible refine fp_laterD hbq ?_; with_reducible assumption) | (with_reducible refine fp_laterD hbq (fp_alloc ?_); with_reducible assumption) | (with_reducible refine fp_laterD hbq (fp_alloc (fp_alloc ?_)); with_reducible assumption)); have fpw31c := fp_cells fpw31; have fpw31d : w2.heap.size + 1 < w3.heap.size := blk_lt fpw31; have fpw31e := Nat.ne_of_lt fpw31d; go_split_ands)))
        | (go_at_call 13; refine (HS.out _).mono ?_; rintro e w4 ⟨g, cap, rfl, how4, hbq⟩; have Bw4 : Below w2.heap.size w2 w4 := below_step (by (repeat' (first | with_reducible assumption | with_reducible exact Below.refl _ _ | with_reducible refine below_alloc ?_ _ | with_reducible refine below_drew1 ?_ | with_reducible refine below_set ?_ ?_ | omega))) hbq; have Rw4 : Row w4 w2.heap.size g cap l := own_less how4 (by first | exact Nat.le_refl _ | exact sw3 | (simp; done) | (simp; omega)); clear how4; have sw4 := Bw4.size; have kw40 : w4.cell? ⟨w.heap.size, 0, none⟩ = some (.int .u8 op) := cell_later hbq (by go_split_ands; assumption); have kw41 : w4.cell? ⟨w.heap.size, 1, none⟩ = some (.int .u8 key) := cell_later hbq (by go_split_ands; assumption); have kw42 : w4.cell? ⟨w.heap.size, 2, none⟩ = some (.int .u8 aw) := cell_later hbq (by go_split_ands; assumption); have kw43 : w4.cell? ⟨w.heap.size, 3, none⟩ = some (.int .u8 ah) := cell_later hbq (by go_split_ands; assumption); have kw44 : w4.cell? ⟨w.heap.size, 4, none⟩ = some (.int .u8 ink) := cell_later hbq (by go_split_ands; assumption); have kw45 : w4.cell? ⟨w.heap.size + 1, 0, none⟩ = some (.int .u8 t0) := cell_later hbq (by go_split_ands; assumption); have kw46 : w4.cell? ⟨w.heap.size + 1, 1, none⟩ = some (.int .u8 t1) := cell_later hbq (by go_split_ands; assumption); have kw47 : w4.cell? ⟨w.heap.size + 1, 2, none⟩ = some (.int .u8 t2) := cell_later hbq (by go_split_ands; assumption); have kw48 : w4.cell? ⟨w.heap.size + 1, 3, none⟩ = some (.int .u8 t3) := cell_later hbq (by go_split_ands; assumption); have kw49 : w4.cell? ⟨w.heap.size + 1, 4, none⟩ = some (.int .u8 t4) := cell_later hbq (by go_split_ands; assumption); have kw410 : w4.cell? ⟨w.heap.size + 1, 5, none⟩ = some (.int .u8 t5) := cell_later hbq (by go_split_ands; assumption); have kw411 : w4.cell? ⟨w.heap.size + 1, 6, none⟩ = some (.int .u8 t6) := cell_later hbq (by go_split_ands; assumption); (try (have fbw40 : FreshB w4 (w2.heap.size) := (by first | (with_reducible refine fb_later hbq (fb_new ?_); first | rfl | exact sz1 _ _) | (with_reducible refine fb_later hbq (fb_alloc (fb_new ?_)); first | rfl | exact sz1 _ _) | (with_reducible refine fb_later hbq ?_; with_reducible assumption) | (with_reducible refine fb_later hbq (fb_alloc ?_); with_reducible assumption) | (with_reducible refine fb_later hbq (fb_alloc (fb_alloc ?_)); with_reducible assumption) | (with_reducible refine fb_laterD hbq (fb_new ?_); first | rfl | exact sz1 _ _) | (with_reducible refine fb_laterD hbq (fb_alloc (fb_new ?_)); first | rfl | exact sz1 _ _) | (with_reducible refine fb_laterD hbq ?_; with_reducible assumption) | (with_reducible refine fb_laterD hbq (fb_alloc ?_); with_reducible assumption) | (with_reducible refine fb_laterD hbq (fb_alloc (fb_alloc ?_)); with_reducible assumption)); have fbw40c := fb_cells fbw40; have fbw40d : w2.heap.size < w4.heap.size := blk_lt fbw40; have fbw40e := Nat.ne_of_lt fbw40d; go_split_ands)); (try (have fpw40 : FreshP w4 (w2.heap.size) := (by first | (with_reducible refine fp_later hbq (fp_new ?_); first | rfl | exact sz1 _ _) | (with_reducible refine fp_later hbq (fp_alloc (fp_new ?_)); first | rfl | exact sz1 _ _) | (with_reducible refine fp_later hbq ?_; with_reducible assumption) | (with_reducible refine fp_later hbq (fp_alloc ?_); with_reducible assumption) | (with_reducible refine fp_later hbq (fp_alloc (fp_alloc ?_)); with_reducible assumption) | (with_reducible refine fp_laterD hbq (fp_new ?_); first | rfl | exact sz1 _ _) | (with_reducible refine fp_laterD hbq (fp_alloc (fp_new ?_)); first | rfl | exact sz1 _ _) | (with_reducible refine fp_laterD hbq ?_; with_reducible assumption) | (with_reducible refine fp_laterD hbq (fp_alloc ?_); with_reducible assumption) | (with_reducible refine fp_laterD hbq (fp_alloc (fp_alloc ?_)); with_reducible assumption)); have fpw40c := fp_cells fpw40; have fpw40d : w2.heap.size < w4.heap.size := blk_lt fpw40; have fpw40e := Nat.ne_of_lt fpw40d; go_split_ands)); (try (have fbw41 : FreshB w4 (w2.heap.size + 1) := (by first | (with_reducible refine fb_later hbq (fb_new ?_); first | rfl | exact sz1 _ _) | (with_reducible refine fb_later hbq (fb_alloc (fb_new ?_)); first | rfl | exact sz1 _ _) | (with_reducible refine fb_later hbq ?_; with_reducible assumption) | (with_reducible refine fb_later hbq (fb_alloc ?_); with_reducible assumption) | (with_reducible refine fb_later hbq (fb_alloc (fb_alloc ?_)); with_reducible assumption) | (with_reducible refine fb_laterD hbq (fb_new ?_); first | rfl | exact sz1 _ _) | (with_reducible refine fb_laterD hbq (fb_alloc (fb_new ?_)); first | rfl | exact sz1 _ _) | (with_reducible refine fb_laterD hbq ?_; with_reducible assumption) | (with_reducible refine fb_laterD hbq (fb_alloc ?_); with_reducible assumption) | (with_reducible refine fb_laterD hbq (fb_alloc (fb_alloc ?_)); with_reducible assumption)); have fbw41c := fb_cells fbw41; have fbw41d : w2.heap.size + 1 < w4.heap.size := blk_lt fbw41; have fbw41e := Nat.ne_of_lt fbw41d; go_split_ands)); (try (have fpw41 : FreshP w4 (w2.heap.size + 1) := (by first | (with_reducible refine fp_later hbq (fp_new ?_); first | rfl | exact sz1 _ _) | (with_reducible refine fp_later hbq (fp_alloc (fp_new ?_)); first | rfl | exact sz1 _ _) | (with_reducible refine fp_later hbq ?_; with_reducible assumption) | (with_reducible refine fp_later hbq (fp_alloc ?_); with_reducible assumption) | (with_reducible refine fp_later hbq (fp_alloc (fp_alloc ?_)); with_reducible assumption) | (with_reducible refine fp_laterD hbq (fp_new ?_); first | rfl | exact sz1 _ _) | (with_reducible refine fp_laterD hbq (fp_alloc (fp_new ?_)); first | rfl | exact sz1 _ _) | (with_reducible refine fp_laterD hbq ?_; with_reducible assumption) | (with_reducible refine fp_laterD hbq (fp_alloc ?_); with_reducible assumption) | (with_reducible refine fp_laterD hbq (fp_alloc (fp_alloc ?_)); with_reducible assumption)); have fpw41c := fp_cells fpw41; have fpw41d : w2.heap.size + 1 < w4.heap.size := blk_lt fpw41; have fpw41e := Nat.ne_of_lt fpw41d; go_split_ands)); (try (have fbw42 : FreshB w4 (w3.heap.size) := (by first | (with_reducible refine fb_later hbq (fb_new ?_); first | rfl | exact sz1 _ _) | (with_reducible refine fb_later hbq (fb_alloc (fb_new ?_)); first | rfl | exact sz1 _ _) | (with_reducible refine fb_later hbq ?_; with_reducible assumption) | (with_reducible refine fb_later hbq (fb_alloc ?_); with_reducible assumption) | (with_reducible refine fb_later hbq (fb_alloc (fb_alloc ?_)); with_reducible assumption) | (with_reducible refine fb_laterD hbq (fb_new ?_); first | rfl | exact sz1 _ _) | (with_reducible refine fb_laterD hbq (fb_alloc (fb_new ?_)); first | rfl | exact sz1 _ _) | (with_reducible refine fb_laterD hbq ?_; with_reducible assumption) | (with_reducible refine fb_laterD hbq (fb_alloc ?_); with_reducible assumption) | (with_reducible refine fb_laterD hbq (fb_alloc (fb_alloc ?_)); with_reducible assumption)); have fbw42c := fb_cells fbw42; have fbw42d : w3.heap.size < w4.heap.size := blk_lt fbw42; have fbw42e := Nat.ne_of_lt fbw42d; go_split_ands)); (try (have fpw42 : FreshP w4 (w3.heap.size) := (by first | (with_reducible refine fp_later hbq (fp_new ?_); first | rfl | exact sz1 _ _) | (with_reducible refine fp_later hbq (fp_alloc (fp_new ?_)); first | rfl | exact sz1 _ _) | (with_reducible refine fp_later hbq ?_; with_reducible assumption) | (with_reducible refine fp_later hbq (fp_alloc ?_); with_reducible assumption) | (with_reducible refine fp_later hbq (fp_alloc (fp_alloc ?_)); with_reducible assumption) | (with_reducible refine fp_laterD hbq (fp_new ?_); first | rfl | exact sz1 _ _) | (with_reducible refine fp_laterD hbq (fp_alloc (fp_new ?_)); first | rfl | exact sz1 _ _) | (with_reducible refine fp_laterD hbq ?_; with_reducible assumption) | (with_reducible refine fp_laterD hbq (fp_alloc ?_); with_reducible assumption) | (with_reducible refine fp_laterD hbq (fp_alloc (fp_alloc ?_)); with_reducible assumption)); have fpw42c := fp_cells fpw42; have fpw42d : w3.heap.size < w4.heap.size := blk_lt fpw42; have fpw42e := Nat.ne_of_lt fpw42d; go_split_ands)); (try (have fbw43 : FreshB w4 (w3.heap.size + 1) := (by first | (with_reducible refine fb_later hbq (fb_new ?_); first | rfl | exact sz1 _ _) | (with_reducible refine fb_later hbq (fb_alloc (fb_new ?_)); first | rfl | exact sz1 _ _) | (with_reducible refine fb_later hbq ?_; with_reducible assumption) | (with_reducible refine fb_later hbq (fb_alloc ?_); with_reducible assumption) | (with_reducible refine fb_later hbq (fb_alloc (fb_alloc ?_)); with_reducible assumption) | (with_reducible refine fb_laterD hbq (fb_new ?_); first | rfl | exact sz1 _ _) | (with_reducible refine fb_laterD hbq (fb_alloc (fb_new ?_)); first | rfl | exact sz1 _ _) | (with_reducible refine fb_laterD hbq ?_; with_reducible assumption) | (with_reducible refine fb_laterD hbq (fb_alloc ?_); with_reducible assumption) | (with_reducible refine fb_laterD hbq (fb_alloc (fb_alloc ?_)); with_reducible assumption)); have fbw43c := fb_cells fbw43; have fbw43d : w3.heap.size + 1 < w4.heap.size := blk_lt fbw43; have fbw43e := Nat.ne_of_lt fbw43d; go_split_ands)); (try (have fpw43 : FreshP w4 (w3.heap.size + 1) := (by first | (with_reducible refine fp_later hbq (fp_new ?_); first | rfl | exact sz1 _ _) | (with_reducible refine fp_later hbq (fp_alloc (fp_new ?_)); first | rfl | exact sz1 _ _) | (with_reducible refine fp_later hbq ?_; with_reducible assumption) | (with_reducible refine fp_later hbq (fp_alloc ?_); with_reducible assumption) | (with_reducible refine fp_later hbq (fp_alloc (fp_alloc ?_)); with_reducible assumption) | (with_reducible refine fp_laterD hbq (fp_new ?_); first | rfl | exact sz1 _ _) | (with_reducible refine fp_laterD hbq (fp_alloc (fp_new ?_)); first | rfl | exact sz1 _ _) | (with_reducible refine fp_laterD hbq ?_; with_reducible assumption) | (with_reducible refine fp_laterD hbq (fp_alloc ?_); with_reducible assumption) | (with_reducible refine fp_laterD hbq (fp_alloc (fp_alloc ?_)); with_reducible assumption)); have fpw43c := fp_cells fpw43; have fpw43d : w3.heap.size + 1 < w4.heap.size := blk_lt fpw43; have fpw43e := Nat.ne_of_lt fpw43d; go_split_ands))))
    all_goals (go_wp2_with fail; go_meet)
    all_goals (refine ⟨_, _, _, _, rfl, rfl, two_mk (cap := cap) (g := g) ?_ ?_ ?_ ?_ ?_, ?_⟩ <;> (repeat' (first | with_reducible assumption | (with_reducible refine fb_new ?_; first | rfl | exact sz1 _ _ | exact szB | exact szP) | (with_reducible refine fp_new ?_; first | rfl | exact sz1 _ _ | exact szB | exact szP) | (with_reducible refine lb_new ?_; first | rfl | exact sz1 _ _ | exact szB | exact szP) | (with_reducible refine lp_new ?_; first | rfl | exact sz1 _ _ | exact szB | exact szP) | with_reducible refine lb_set ?_ | with_reducible refine lp_set ?_ | with_reducible refine fb_alloc ?_ | with_reducible refine fp_alloc ?_ | with_reducible refine lb_alloc ?_ | with_reducible refine lp_alloc ?_ | with_reducible refine fp_setB ?_ ?_ | with_reducible refine fb_setP ?_ ?_ | with_reducible refine lp_setB ?_ ?_ | with_reducible refine lb_setP ?_ ?_ | with_reducible refine fb_drew ?_ | with_reducible refine fp_drew ?_ | with_reducible refine lb_drew ?_ | with_reducible refine lp_drew ?_ | with_reducible refine row_setB ?_ ?_ | with_reducible refine row_setP ?_ ?_ | with_reducible refine row_alloc ?_ | with_reducible refine row_drew ?_ | with_reducible exact Below.refl _ _ | with_reducible refine below_alloc ?_ _ | with_reducible refine below_drew1 ?_ | with_reducible refine below_set ?_ ?_ | exact Nat.le_refl _ | omega)))
  case rest =>
    obtain ⟨b, p, g, cap, rfl, rfl, h2, hbr⟩ := hcut
    have hFc := frm_later hF hbr
    have lF : F < w2.heap.size := blk_lt hF.1
    have lT : T < w2.heap.size := blk_lt hF.2.1
    have hBc : Below w.heap.size w wc := below_step hB2 hbr
    have sc := hbr.size
    have s2 := hB2.size
    clear hbr hB2 hF c0 c1 c2 c3 c4 c5 c6 c7 c8 c9 c10 c11
    have hcp : l.length ≤ cap := own_cap h2.2.2.1
    have q2 : wc.cell? ⟨p, 2, none⟩ = some (.int .i64 RN) := blk_cell h2.2.1 2
    have q3 : wc.cell? ⟨p, 3, none⟩ = some (.int .i64 RD) := blk_cell h2.2.1 3
    have f2 : wc.frozen? ⟨p, 2, none⟩ = false := blk_frozen h2.2.1 2
    have hw1 : IntKind.i64.wrap (2 * RD) = 2 * RD := iw (by omega) (by omega)
    have h3 := Lib.hid (two_pen h2 2 (.int .i64 R2) rfl)
    have hB3 := Lib.hid (below_p1 (i := 2) (below_weaken (B := w2.heap.size) hBc (by omega) (Below.refl _ _)) (show w.heap.size ≤ p by have := h2.2.2.2.2; omega) (.int .i64 R2))
    have hF3 := Lib.hid (frm_belowB hFc (below_p1 (i := 2) (Below.refl w2.heap.size _) h2.2.2.2.2 (.int .i64 R2)) lF lT)
    clear h2
    go_upto_region 8 with fail
    generalize wc.setCell ⟨p, 2, none⟩ (.int .i64 R2) = wd at *
    clear q2 q3 f2 hFc hBc hw1
    obtain ⟨⟨a0, a1, a2⟩, p0, p1, p2, p3, p4, p5, p6⟩ := two_cells h3.out
    have hgT : g ≠ T := by have := two_base h3.out; omega
    have hg3 := Lib.hid (two_text h3.out).1
    go_upto_region 11 with (first
      | (go_at_call 15; refine (HD.out g cap F T _ hcp hgT hF3.out hg3.out).mono ?_; rintro e w5 ⟨rfl, hF5, hS5⟩)
      | (go_at_call 12; refine (HX.out F T _ hF5).mono ?_; rintro e w6 ⟨g6, cap6, rfl, ho6, hw6⟩))
    have h6 := Lib.hid (two_later (two_sv h3.out hS5 (by omega)) hw6)
    have dp6 : ∀ j, j < LP.length → w6.cell? ⟨g6, j, none⟩ = some (.int .u8 (LP.getD j 0)) := fun j hj => by
      rw [ho6.cellAt j (by omega), List.getElem?_map, List.getD_eq_getElem?_getD, List.getElem?_eq_getElem hj]; rfl
    have dp := Lib.hid dp6
    have hcp6 : LP.length ≤ cap6 := own_cap ho6
    have hB6 := Lib.hid (below_step (sv_below hB3.out hS5 (by omega) (by have := hB3.out.size; omega)) hw6)
    clear hw6 hS5 hF5 ho6 dp6 a0 a1 a2 p0 p1 p2 p3 p4 p5 p6 hg3 HD HX HS HT hF3 hB3 h3
    have hLn : LP.length ≤ 3600 := by have := hLP.out; omega
    go_loopw [44] (LoopB w6 LP.length) (fun i _ => (LP.length - intOf i).toNat)
    case atStart => exact ⟨0, rfl, Nat.zero_le _, Below.refl _ _⟩
    case round =>
      obtain ⟨j, rfl, hj, hbj⟩ := hrel
      have h7 := two_later h6.out hbj
      by_cases hlt : j < LP.length
      · have hlt' : (j : Int) < LP.length := by omega
        have rp := cell_later hbj (dp.out j hlt)
        obtain ⟨⟨a0, a1, a2⟩, p0, p1, p2, p3, p4, p5, p6⟩ := two_cells h7
        have hD := hout.out j hlt
        obtain ⟨k1, k2, k3, k4, k5, k6⟩ := hfit.out j hlt
        have hbjH := Lib.hid hbj
        clear h7 hbj
        generalize LP.getD j 0 = dk at rp hD
        by_cases c1 : (j : Int) % 60 - PX < -1
        · obtain rfl := hD (.inl c1)
          clear hD
          go_upto_region 13 with fail
          go_quiet (fail)
          go_wp2_with fail
          exact ⟨⟨j + 1, by congr 1, by omega, pw_below_drewN hbjH.out _⟩, by simp [intOf]; omega⟩
        · by_cases c2 : (j : Int) / 60 - PY < -1
          · obtain rfl := hD (.inr (.inl c2))
            clear hD
            go_upto_region 13 with fail
            go_quiet (fail)
            go_wp2_with fail
            exact ⟨⟨j + 1, by congr 1, by omega, pw_below_drewN hbjH.out _⟩, by simp [intOf]; omega⟩
          · by_cases c3 : (W : Int) * R2 < ((j : Int) % 60 - PX) * RD
            · obtain rfl := hD (.inr (.inr (.inl c3)))
              clear hD
              go_upto_region 13 with fail
              go_quiet (fail)
              go_wp2_with fail
              exact ⟨⟨j + 1, by congr 1, by omega, pw_below_drewN hbjH.out _⟩, by simp [intOf]; omega⟩
            · by_cases c4 : (H : Int) * R2 < ((j : Int) / 60 - PY) * RD
              · obtain rfl := hD (.inr (.inr (.inr c4)))
                clear hD
                go_upto_region 13 with fail
                go_quiet (fail)
                go_wp2_with fail
                exact ⟨⟨j + 1, by congr 1, by omega, pw_below_drewN hbjH.out _⟩, by simp [intOf]; omega⟩
              · clear hD
                go_upto_region 13 with fail
                go_quiet (fail)
                go_wp2_with fail
                exact ⟨⟨j + 1, by congr 1, by omega, pw_below_drewN hbjH.out _⟩, by simp [intOf]; omega⟩
      · obtain rfl : j = LP.length := by omega
        have hB7 := Lib.hid (below_step hB6.out hbj)
        have lp : p < wr.heap.size := blk_lt h7.2.1
        have lb : b < wr.heap.size := blk_lt h7.1
        have hpw : w.heap.size ≤ p := by have := h7.2.2.2.2; omega
        have hgw : w2.heap.size ≤ g := two_base h7
        have lg : g < wr.heap.size := own_lt h7.2.2.1 g rfl
        have h7H := Lib.hid h7
        clear h7 hbj h6 hB6 hout hfit dp hLP
        go_upto_region 18 with (go_at_call 10; refine (HO.out _).mono ?_; rintro e x0 ⟨F2, T2, rfl, hzF2, hzT2, hF2, hb0⟩)
        have h9 := two_later h7H.out hb0
        have q6 : x0.cell? ⟨p, 6, none⟩ = some (.int .u8 INK) := blk_cell h9.2.1 6
        have f6 : x0.frozen? ⟨p, 6, none⟩ = false := blk_frozen h9.2.1 6
        have h10 := Lib.hid (two_pen h9 6 (.int .u8 tone) rfl)
        have hB10 := Lib.hid (below_p1 (i := 6) (below_step hB7.out hb0) hpw (.int .u8 tone))
        have hF10 := Lib.hid (frm_set (i := 6) (v := .int .u8 tone) hF2 (by omega) (by omega) : Frm (x0.setCell ⟨p, 6, none⟩ (.int .u8 tone)) F2 T2 60 60 TL)
        clear h9 hF2 hb0
        go_upto_region 19 with fail
        generalize x0.setCell ⟨p, 6, none⟩ (.int .u8 tone) = x at *
        clear q6 f6
        obtain ⟨⟨a0, a1, a2⟩, p0, p1, p2, p3, p4, p5, p6⟩ := two_cells h10.out
        have hg10 := Lib.hid (two_text h10.out).1
        have hgT2 : g ≠ T2 := by omega
        have hbT : b ≠ T2 := by omega
        have hpT : p ≠ T2 := by omega
        have hgT2 : g ≠ T2 := by omega
        have hbT : b ≠ T2 := by omega
        have hpT : p ≠ T2 := by omega
        have swT : w.heap.size ≤ T2 := by omega
        have sxw : w.heap.size ≤ x.heap.size := hB10.out.size
        refine wp_region_held_drew (S := fun w' => w'.cell? ⟨b, 0, none⟩ = some (.int .i64 W) ∧ w'.cell? ⟨b, 1, none⟩ = some (.int .i64 H) ∧ w'.cell? ⟨b, 2, none⟩ = some (.slice (some ⟨g, 0, none⟩) l.length cap) ∧ w'.cell? ⟨p, 0, none⟩ = some (.int .i64 PX) ∧ w'.cell? ⟨p, 1, none⟩ = some (.int .i64 PY) ∧ w'.cell? ⟨p, 2, none⟩ = some (.int .i64 R2) ∧ w'.cell? ⟨p, 3, none⟩ = some (.int .i64 RD) ∧ w'.cell? ⟨p, 4, none⟩ = some (.int .i64 LO) ∧ w'.cell? ⟨p, 5, none⟩ = some (.int .i64 HI) ∧ w'.cell? ⟨p, 6, none⟩ = some (.int .u8 tone)) (by kernel_rfl) ⟨a0, a1, a2, p0, p1, p2, p3, p4, p5, p6⟩ (fun hHeld0 => ?_)
        refine wpAnyH_take (i := 0) (oi := { dst := some 103, op := Go.Op.move (Go.Operand.tmp 14), type := 26, pos := "law.go:137", after := #[], guard := none }) (v := ?v0) rfl (by kernel_rfl) (by kernel_rfl) (by kernel_rfl) (fun _ _ _ h => h) (Or.inl ⟨by rfl, ?hy0⟩) (by assumption) ?rest0
        case hy0 => (intro w hSw; (try dsimp only at hSw); go_simp; try with_reducible rfl)
        try simp only [Act.put, List.setIfInBounds_toArray, List.set_cons_zero, List.set_cons_succ]
        refine wpAnyH_take (i := 1) (oi := { dst := some 104, op := Go.Op.load 30 (Go.Operand.tmp 9), type := 30, pos := "law.go:137", after := #[], guard := none }) (v := ?v1) rfl (by kernel_rfl) (by kernel_rfl) (by kernel_rfl) (fun _ _ _ h => h) (Or.inl ⟨by rfl, ?hy1⟩) (by assumption) ?rest1
        case hy1 => (intro w hSw; (try dsimp only at hSw); go_simp; try with_reducible rfl)
        try simp only [Act.put, List.setIfInBounds_toArray, List.set_cons_zero, List.set_cons_succ]
        refine wpAnyH_take (i := 2) (oi := { dst := some 105, op := Go.Op.load 39 (Go.Operand.tmp 8), type := 39, pos := "law.go:137", after := #[], guard := none }) (v := ?v2) rfl (by kernel_rfl) (by kernel_rfl) (by kernel_rfl) (fun _ _ _ h => h) (Or.inl ⟨by rfl, ?hy2⟩) (by assumption) ?rest2
        case hy2 => (intro w hSw; (try dsimp only at hSw); go_simp; try with_reducible rfl)
        try simp only [Act.put, List.setIfInBounds_toArray, List.set_cons_zero, List.set_cons_succ]
        refine wpAnyH_ready (rs := [3]) (by kernel_rfl) (by simp) ?_
        refine AllReadyH.cons (o := { dst := some 106, op := Go.Op.call { callee := Go.Callee.value (Go.Operand.func 15), args := #[Go.Operand.tmp 103, Go.Operand.tmp 104, Go.Operand.tmp 105], argTypes := #[26, 30, 39] }, type := 43, pos := "law.go:137", after := #[{ on := 0, ground := Go.Ground.data }, { on := 1, ground := Go.Ground.data }, { on := 2, ground := Go.Ground.data }], guard := none }) rfl (fun K hK => ?_) AllReadyH.nil
        go_simp
        refine (HD2.out g cap F2 T2 x.drew hcp hgT2 (frm_drew hF10.out) (fun j hj => keepD (hg10.out j hj))).mono ?_; rintro e x1 ⟨rfl, hF1, hS1⟩
        have kx10 : x1.cell? ⟨b, 0, none⟩ = some (.int .i64 W) := hS1.cell (a := ⟨b, 0, none⟩) (hbT) (by go_split_ands; assumption)
        have kx11 : x1.cell? ⟨b, 1, none⟩ = some (.int .i64 H) := hS1.cell (a := ⟨b, 1, none⟩) (hbT) (by go_split_ands; assumption)
        have kx12 : x1.cell? ⟨b, 2, none⟩ = some (.slice (some ⟨g, 0, none⟩) l.length cap) := hS1.cell (a := ⟨b, 2, none⟩) (hbT) (by go_split_ands; assumption)
        have kx13 : x1.cell? ⟨p, 0, none⟩ = some (.int .i64 PX) := hS1.cell (a := ⟨p, 0, none⟩) (hpT) (by go_split_ands; assumption)
        have kx14 : x1.cell? ⟨p, 1, none⟩ = some (.int .i64 PY) := hS1.cell (a := ⟨p, 1, none⟩) (hpT) (by go_split_ands; assumption)
        have kx15 : x1.cell? ⟨p, 2, none⟩ = some (.int .i64 R2) := hS1.cell (a := ⟨p, 2, none⟩) (hpT) (by go_split_ands; assumption)
        have kx16 : x1.cell? ⟨p, 3, none⟩ = some (.int .i64 RD) := hS1.cell (a := ⟨p, 3, none⟩) (hpT) (by go_split_ands; assumption)
        have kx17 : x1.cell? ⟨p, 4, none⟩ = some (.int .i64 LO) := hS1.cell (a := ⟨p, 4, none⟩) (hpT) (by go_split_ands; assumption)
        have kx18 : x1.cell? ⟨p, 5, none⟩ = some (.int .i64 HI) := hS1.cell (a := ⟨p, 5, none⟩) (hpT) (by go_split_ands; assumption)
        have kx19 : x1.cell? ⟨p, 6, none⟩ = some (.int .u8 tone) := hS1.cell (a := ⟨p, 6, none⟩) (hpT) (by go_split_ands; assumption)
        go_wp2_with fail
        refine hK.out _ _ ?_ (fun hHeld14 => ?_)
        · (try dsimp only)
          (go_split_ands; (repeat' apply And.intro) <;> assumption)
        clear hK K
        try simp only [Act.put, List.setIfInBounds_toArray, List.set_cons_zero, List.set_cons_succ]
        refine wpAnyH_take (i := 4) (oi := { dst := some 107, op := Go.Op.binOp Go.BinOp.eql 43 (Go.Operand.tmp 106) (Go.Operand.const (Go.Value.int Go.IntKind.i64 0)) 43, type := 4, pos := "law.go:137", after := #[{ on := 3, ground := Go.Ground.data }], guard := none }) (v := ?v4) rfl (by kernel_rfl) (by kernel_rfl) (by kernel_rfl) (fun _ _ _ h => h) (Or.inl ⟨by rfl, ?hy4⟩) (by assumption) ?rest4
        case hy4 => (intro w hSw; (try dsimp only at hSw); go_simp; try with_reducible rfl)
        try simp only [Act.put, List.setIfInBounds_toArray, List.set_cons_zero, List.set_cons_succ]
        refine wpAnyH_take (i := 5) (oi := { dst := some 108, op := Go.Op.move (Go.Operand.tmp 107), type := 4, pos := "law.go:137", after := #[{ on := 4, ground := Go.Ground.data }, { on := 3, ground := Go.Ground.chain }], guard := none }) (v := ?v5) rfl (by kernel_rfl) (by kernel_rfl) (by kernel_rfl) (fun _ _ _ h => h) (Or.inl ⟨by rfl, ?hy5⟩) (by assumption) ?rest5
        case hy5 => (intro w hSw; (try dsimp only at hSw); go_simp; try with_reducible rfl)
        try simp only [Act.put, List.setIfInBounds_toArray, List.set_cons_zero, List.set_cons_succ]
        refine wpAnyH_take (i := 6) (oi := { dst := some 109, op := Go.Op.move (Go.Operand.tmp 14), type := 26, pos := "law.go:137", after := #[{ on := 5, ground := Go.Ground.guard }], guard := some (5, true) }) (v := ?v6) rfl (by kernel_rfl) (by kernel_rfl) (by kernel_rfl) (fun _ _ _ h => h) (Or.inl ⟨by rfl, ?hy6⟩) (by assumption) ?rest6
        case hy6 => (intro w hSw; (try dsimp only at hSw); go_simp; try with_reducible rfl)
        try simp only [Act.put, List.setIfInBounds_toArray, List.set_cons_zero, List.set_cons_succ]
        refine wpAnyH_take (i := 10) (oi := { dst := some 113, op := Go.Op.move (Go.Operand.tmp 2), type := 5, pos := "law.go:137", after := #[{ on := 5, ground := Go.Ground.guard }], guard := some (5, true) }) (v := ?v10) rfl (by kernel_rfl) (by kernel_rfl) (by kernel_rfl) (fun _ _ _ h => h) (Or.inl ⟨by rfl, ?hy10⟩) (by assumption) ?rest10
        case hy10 => (intro w hSw; (try dsimp only at hSw); go_simp; try with_reducible rfl)
        try simp only [Act.put, List.setIfInBounds_toArray, List.set_cons_zero, List.set_cons_succ]
        refine wpAnyH_ready (rs := [7]) (by kernel_rfl) (by simp) ?_
        refine AllReadyH.cons (o := { dst := some 110, op := Go.Op.call { callee := Go.Callee.value (Go.Operand.func 12), args := #[Go.Operand.tmp 109], argTypes := #[26] }, type := 30, pos := "law.go:137", after := #[{ on := 6, ground := Go.Ground.data }, { on := 5, ground := Go.Ground.chain }, { on := 5, ground := Go.Ground.guard }], guard := some (5, true) }) rfl (fun K hK => ?_) AllReadyH.nil
        go_simp
        refine (HX2.out F2 T2 _ hF1).mono ?_; rintro e x2 ⟨g2, cap2, rfl, ho2, hbq⟩
        have Rx2a : Row x2 0 g2 cap2 TL := own_less ho2 (Nat.zero_le _)
        have vx2 := conv Rx2a
        have Rx2 := Lib.hid Rx2a
        have Bx2 := Lib.hid (below_step (below_drew1 (Below.refl x.heap.size x)) (Below.refl _ x.drew))
        have qx2 := Lib.hid hbq
        clear Rx2a ho2
        go_wp2_with fail
        refine hK.out _ _ ?_ (fun hHeld15 => ?_)
        · (try dsimp only)
          (go_split_ands; (repeat' apply And.intro) <;> (repeat' (first | with_reducible assumption | (refine cell_later hbq ?_; assumption))))
        clear hK K
        try simp only [Act.put, List.setIfInBounds_toArray, List.set_cons_zero, List.set_cons_succ]
        clear hbq
        refine wpAnyH_take (i := 8) (oi := { dst := some 111, op := Go.Op.field 30 (Go.Operand.tmp 110) 2, type := 28, pos := "law.go:137", after := #[{ on := 7, ground := Go.Ground.data }, { on := 5, ground := Go.Ground.guard }], guard := some (5, true) }) (v := ?v8) rfl (by kernel_rfl) (by kernel_rfl) (by kernel_rfl) (fun _ _ _ h => h) (Or.inl ⟨by rfl, ?hy8⟩) (by assumption) ?rest8
        case hy8 => (intro w hSw; (try dsimp only at hSw); go_simp; try with_reducible rfl)
        try simp only [Act.put, List.setIfInBounds_toArray, List.set_cons_zero, List.set_cons_succ]
        refine wpAnyH_ready (rs := [9, 11]) (by kernel_rfl) (by simp) ?_
        refine AllReadyH.cons (o := { dst := some 112, op := Go.Op.convert 28 9 (Go.Operand.tmp 111), type := 9, pos := "law.go:137", after := #[{ on := 8, ground := Go.Ground.data }, { on := 5, ground := Go.Ground.guard }], guard := some (5, true) }) rfl (fun K hK => ?_) (AllReadyH.cons (o := { dst := some 114, op := Go.Op.call { callee := Go.Callee.value (Go.Operand.func 10), args := #[Go.Operand.const (Go.Value.int Go.IntKind.i64 60), Go.Operand.const (Go.Value.int Go.IntKind.i64 60), Go.Operand.tmp 113], argTypes := #[3, 3, 5] }, type := 26, pos := "law.go:137", after := #[{ on := 10, ground := Go.Ground.data }, { on := 7, ground := Go.Ground.chain }, { on := 5, ground := Go.Ground.guard }], guard := some (5, true) }) rfl (fun K hK => ?_) AllReadyH.nil)
        · go_simp
          refine hK.out _ _ (by assumption) (fun hHeld1 => ?_)
          clear hK K
          try simp only [Act.put, List.setIfInBounds_toArray, List.set_cons_zero, List.set_cons_succ]
          refine wpAnyH_ready (rs := [11]) (by kernel_rfl) (by simp) ?_
          refine AllReadyH.cons (o := { dst := some 114, op := Go.Op.call { callee := Go.Callee.value (Go.Operand.func 10), args := #[Go.Operand.const (Go.Value.int Go.IntKind.i64 60), Go.Operand.const (Go.Value.int Go.IntKind.i64 60), Go.Operand.tmp 113], argTypes := #[3, 3, 5] }, type := 26, pos := "law.go:137", after := #[{ on := 10, ground := Go.Ground.data }, { on := 7, ground := Go.Ground.chain }, { on := 5, ground := Go.Ground.guard }], guard := some (5, true) }) rfl (fun K hK => ?_) AllReadyH.nil
          go_simp
          refine (HO.out _).mono ?_; rintro e x3 ⟨F3, T3, rfl, hzF3, hzT3, hF3, hbq⟩
          have Rx3a : Row x3 0 g2 cap2 TL := row_later hbq Rx2.out
          have vx3 := conv Rx3a
          have Rx3 := Lib.hid Rx3a
          have qx3 := Lib.hid hbq
          clear Rx3a
          go_wp2_with fail
          refine hK.out _ _ ?_ (fun hHeld2 => ?_)
          · (try dsimp only)
            (go_split_ands; (repeat' apply And.intro) <;> (repeat' (first | with_reducible assumption | (refine cell_later hbq ?_; assumption))))
          clear hK K
          try simp only [Act.put, List.setIfInBounds_toArray, List.set_cons_zero, List.set_cons_succ]
          clear hbq
          refine wpAnyH_ready (rs := [12]) (by kernel_rfl) (by simp) ?_
          refine AllReadyH.cons (o := { dst := some 115, op := Go.Op.call { callee := Go.Callee.value (Go.Operand.func 12), args := #[Go.Operand.tmp 114], argTypes := #[26] }, type := 30, pos := "law.go:137", after := #[{ on := 11, ground := Go.Ground.data }, { on := 11, ground := Go.Ground.chain }, { on := 5, ground := Go.Ground.guard }], guard := some (5, true) }) rfl (fun K hK => ?_) AllReadyH.nil
          go_simp
          refine (HX2.out F3 T3 _ hF3).mono ?_; rintro e x4 ⟨g4, cap4, rfl, ho4, hbq⟩
          have Rx4a : Row x4 0 g2 cap2 TL := row_later hbq Rx3.out
          have vx4 := conv Rx4a
          have Rx4b : Row x4 0 g4 cap4 TL := own_less ho4 (Nat.zero_le _)
          have ux4 := conv Rx4b
          have qx4 := Lib.hid hbq
          clear Rx4a Rx4b ho4
          go_wp2_with fail
          refine hK.out _ _ ?_ (fun hHeld3 => ?_)
          · (try dsimp only)
            (go_split_ands; (repeat' apply And.intro) <;> (repeat' (first | with_reducible assumption | (refine cell_later hbq ?_; assumption))))
          clear hK K
          try simp only [Act.put, List.setIfInBounds_toArray, List.set_cons_zero, List.set_cons_succ]
          clear hbq
          refine wpAnyH_take (i := 13) (oi := { dst := some 116, op := Go.Op.field 30 (Go.Operand.tmp 115) 2, type := 28, pos := "law.go:137", after := #[{ on := 12, ground := Go.Ground.data }, { on := 5, ground := Go.Ground.guard }], guard := some (5, true) }) (v := ?v13A) rfl (by kernel_rfl) (by kernel_rfl) (by kernel_rfl) (fun _ _ _ h => h) (Or.inl ⟨by rfl, ?hy13A⟩) (by assumption) ?rest13A
          case hy13A => (intro w hSw; (try dsimp only at hSw); go_simp; try with_reducible rfl)
          try simp only [Act.put, List.setIfInBounds_toArray, List.set_cons_zero, List.set_cons_succ]
          refine wpAnyH_ready (rs := [14]) (by kernel_rfl) (by simp) ?_
          refine AllReadyH.cons (o := { dst := some 117, op := Go.Op.convert 28 9 (Go.Operand.tmp 116), type := 9, pos := "law.go:137", after := #[{ on := 13, ground := Go.Ground.data }, { on := 5, ground := Go.Ground.guard }], guard := some (5, true) }) rfl (fun K hK => ?_) AllReadyH.nil
          go_simp
          refine hK.out _ _ (by assumption) (fun hHeld4 => ?_)
          clear hK K
          try simp only [Act.put, List.setIfInBounds_toArray, List.set_cons_zero, List.set_cons_succ]
          refine wpAnyH_take (i := 15) (oi := { dst := some 118, op := Go.Op.binOp Go.BinOp.eql 9 (Go.Operand.tmp 112) (Go.Operand.tmp 117) 9, type := 4, pos := "law.go:137", after := #[{ on := 9, ground := Go.Ground.data }, { on := 14, ground := Go.Ground.data }, { on := 5, ground := Go.Ground.guard }], guard := some (5, true) }) (v := ?v15A) rfl (by kernel_rfl) (by kernel_rfl) (by kernel_rfl) (fun _ _ _ h => h) (Or.inl ⟨by rfl, ?hy15A⟩) (by assumption) ?rest15A
          case hy15A => (intro w hSw; (try dsimp only at hSw); go_simp; try with_reducible rfl)
          try simp only [Act.put, List.setIfInBounds_toArray, List.set_cons_zero, List.set_cons_succ]
          refine wpAnyH_take (i := 16) (oi := { dst := some 119, op := Go.Op.pick (Go.Operand.tmp 108) (Go.Operand.tmp 118) (Go.Operand.const (Go.Value.bool false)), type := 4, pos := "law.go:137", after := #[{ on := 5, ground := Go.Ground.data }, { on := 15, ground := Go.Ground.data }], guard := none }) (v := ?v16A) rfl (by kernel_rfl) (by kernel_rfl) (by kernel_rfl) (fun _ _ _ h => h) (Or.inl ⟨by rfl, ?hy16A⟩) (by assumption) ?rest16A
          case hy16A => (intro w hSw; (try dsimp only at hSw); go_simp; try with_reducible rfl)
          try simp only [Act.put, List.setIfInBounds_toArray, List.set_cons_zero, List.set_cons_succ]
          refine wpAnyH_take (i := 17) (oi := { dst := some 6, op := Go.Op.assign (Go.Operand.tmp 119), type := 4, pos := "law.go:137", after := #[{ on := 16, ground := Go.Ground.data }, { on := 12, ground := Go.Ground.chain }, { on := 0, ground := Go.Ground.phase }, { on := 1, ground := Go.Ground.phase }, { on := 2, ground := Go.Ground.phase }, { on := 3, ground := Go.Ground.phase }, { on := 4, ground := Go.Ground.phase }, { on := 5, ground := Go.Ground.phase }, { on := 6, ground := Go.Ground.phase }, { on := 7, ground := Go.Ground.phase }, { on := 8, ground := Go.Ground.phase }, { on := 9, ground := Go.Ground.phase }, { on := 10, ground := Go.Ground.phase }, { on := 11, ground := Go.Ground.phase }, { on := 12, ground := Go.Ground.phase }, { on := 13, ground := Go.Ground.phase }, { on := 14, ground := Go.Ground.phase }, { on := 15, ground := Go.Ground.phase }, { on := 16, ground := Go.Ground.phase }], guard := none }) (v := ?v17A) rfl (by kernel_rfl) (by kernel_rfl) (by kernel_rfl) (fun _ _ _ h => h) (Or.inl ⟨by rfl, ?hy17A⟩) (by assumption) ?rest17A
          case hy17A => (intro w hSw; (try dsimp only at hSw); go_simp; try with_reducible rfl)
          try simp only [Act.put, List.setIfInBounds_toArray, List.set_cons_zero, List.set_cons_succ]
          refine wpAnyH_done (by kernel_rfl) ?_ _
          go_wp2_with fail
          go_ret
          exact ⟨rfl, below_step (below_step (below_step (sv_below (below_drew1 hB10.out) hS1 (by omega) sxw) qx2.out) qx3.out) qx4.out⟩
        · go_simp
          refine (HO.out _).mono ?_; rintro e x3 ⟨F3, T3, rfl, hzF3, hzT3, hF3, hbq⟩
          have Rx3a : Row x3 0 g2 cap2 TL := row_later hbq Rx2.out
          have vx3 := conv Rx3a
          have Rx3 := Lib.hid Rx3a
          have qx3 := Lib.hid hbq
          clear Rx3a
          go_wp2_with fail
          refine hK.out _ _ ?_ (fun hHeld13 => ?_)
          · (try dsimp only)
            (go_split_ands; (repeat' apply And.intro) <;> (repeat' (first | with_reducible assumption | (refine cell_later hbq ?_; assumption))))
          clear hK K
          try simp only [Act.put, List.setIfInBounds_toArray, List.set_cons_zero, List.set_cons_succ]
          clear hbq
          refine wpAnyH_ready (rs := [9, 12]) (by kernel_rfl) (by simp) ?_
          refine AllReadyH.cons (o := { dst := some 112, op := Go.Op.convert 28 9 (Go.Operand.tmp 111), type := 9, pos := "law.go:137", after := #[{ on := 8, ground := Go.Ground.data }, { on := 5, ground := Go.Ground.guard }], guard := some (5, true) }) rfl (fun K hK => ?_) (AllReadyH.cons (o := { dst := some 115, op := Go.Op.call { callee := Go.Callee.value (Go.Operand.func 12), args := #[Go.Operand.tmp 114], argTypes := #[26] }, type := 30, pos := "law.go:137", after := #[{ on := 11, ground := Go.Ground.data }, { on := 11, ground := Go.Ground.chain }, { on := 5, ground := Go.Ground.guard }], guard := some (5, true) }) rfl (fun K hK => ?_) AllReadyH.nil)
          · go_simp
            refine hK.out _ _ (by assumption) (fun hHeld5 => ?_)
            clear hK K
            try simp only [Act.put, List.setIfInBounds_toArray, List.set_cons_zero, List.set_cons_succ]
            refine wpAnyH_ready (rs := [12]) (by kernel_rfl) (by simp) ?_
            refine AllReadyH.cons (o := { dst := some 115, op := Go.Op.call { callee := Go.Callee.value (Go.Operand.func 12), args := #[Go.Operand.tmp 114], argTypes := #[26] }, type := 30, pos := "law.go:137", after := #[{ on := 11, ground := Go.Ground.data }, { on := 11, ground := Go.Ground.chain }, { on := 5, ground := Go.Ground.guard }], guard := some (5, true) }) rfl (fun K hK => ?_) AllReadyH.nil
            go_simp
            refine (HX2.out F3 T3 _ hF3).mono ?_; rintro e x4 ⟨g4, cap4, rfl, ho4, hbq⟩
            have Rx4a : Row x4 0 g2 cap2 TL := row_later hbq Rx3.out
            have vx4 := conv Rx4a
            have Rx4b : Row x4 0 g4 cap4 TL := own_less ho4 (Nat.zero_le _)
            have ux4 := conv Rx4b
            have qx4 := Lib.hid hbq
            clear Rx4a Rx4b ho4
            go_wp2_with fail
            refine hK.out _ _ ?_ (fun hHeld6 => ?_)
            · (try dsimp only)
              (go_split_ands; (repeat' apply And.intro) <;> (repeat' (first | with_reducible assumption | (refine cell_later hbq ?_; assumption))))
            clear hK K
            try simp only [Act.put, List.setIfInBounds_toArray, List.set_cons_zero, List.set_cons_succ]
            clear hbq
            refine wpAnyH_take (i := 13) (oi := { dst := some 116, op := Go.Op.field 30 (Go.Operand.tmp 115) 2, type := 28, pos := "law.go:137", after := #[{ on := 12, ground := Go.Ground.data }, { on := 5, ground := Go.Ground.guard }], guard := some (5, true) }) (v := ?v13B1) rfl (by kernel_rfl) (by kernel_rfl) (by kernel_rfl) (fun _ _ _ h => h) (Or.inl ⟨by rfl, ?hy13B1⟩) (by assumption) ?rest13B1
            case hy13B1 => (intro w hSw; (try dsimp only at hSw); go_simp; try with_reducible rfl)
            try simp only [Act.put, List.setIfInBounds_toArray, List.set_cons_zero, List.set_cons_succ]
            refine wpAnyH_ready (rs := [14]) (by kernel_rfl) (by simp) ?_
            refine AllReadyH.cons (o := { dst := some 117, op := Go.Op.convert 28 9 (Go.Operand.tmp 116), type := 9, pos := "law.go:137", after := #[{ on := 13, ground := Go.Ground.data }, { on := 5, ground := Go.Ground.guard }], guard := some (5, true) }) rfl (fun K hK => ?_) AllReadyH.nil
            go_simp
            refine hK.out _ _ (by assumption) (fun hHeld7 => ?_)
            clear hK K
            try simp only [Act.put, List.setIfInBounds_toArray, List.set_cons_zero, List.set_cons_succ]
            refine wpAnyH_take (i := 15) (oi := { dst := some 118, op := Go.Op.binOp Go.BinOp.eql 9 (Go.Operand.tmp 112) (Go.Operand.tmp 117) 9, type := 4, pos := "law.go:137", after := #[{ on := 9, ground := Go.Ground.data }, { on := 14, ground := Go.Ground.data }, { on := 5, ground := Go.Ground.guard }], guard := some (5, true) }) (v := ?v15B1) rfl (by kernel_rfl) (by kernel_rfl) (by kernel_rfl) (fun _ _ _ h => h) (Or.inl ⟨by rfl, ?hy15B1⟩) (by assumption) ?rest15B1
            case hy15B1 => (intro w hSw; (try dsimp only at hSw); go_simp; try with_reducible rfl)
            try simp only [Act.put, List.setIfInBounds_toArray, List.set_cons_zero, List.set_cons_succ]
            refine wpAnyH_take (i := 16) (oi := { dst := some 119, op := Go.Op.pick (Go.Operand.tmp 108) (Go.Operand.tmp 118) (Go.Operand.const (Go.Value.bool false)), type := 4, pos := "law.go:137", after := #[{ on := 5, ground := Go.Ground.data }, { on := 15, ground := Go.Ground.data }], guard := none }) (v := ?v16B1) rfl (by kernel_rfl) (by kernel_rfl) (by kernel_rfl) (fun _ _ _ h => h) (Or.inl ⟨by rfl, ?hy16B1⟩) (by assumption) ?rest16B1
            case hy16B1 => (intro w hSw; (try dsimp only at hSw); go_simp; try with_reducible rfl)
            try simp only [Act.put, List.setIfInBounds_toArray, List.set_cons_zero, List.set_cons_succ]
            refine wpAnyH_take (i := 17) (oi := { dst := some 6, op := Go.Op.assign (Go.Operand.tmp 119), type := 4, pos := "law.go:137", after := #[{ on := 16, ground := Go.Ground.data }, { on := 12, ground := Go.Ground.chain }, { on := 0, ground := Go.Ground.phase }, { on := 1, ground := Go.Ground.phase }, { on := 2, ground := Go.Ground.phase }, { on := 3, ground := Go.Ground.phase }, { on := 4, ground := Go.Ground.phase }, { on := 5, ground := Go.Ground.phase }, { on := 6, ground := Go.Ground.phase }, { on := 7, ground := Go.Ground.phase }, { on := 8, ground := Go.Ground.phase }, { on := 9, ground := Go.Ground.phase }, { on := 10, ground := Go.Ground.phase }, { on := 11, ground := Go.Ground.phase }, { on := 12, ground := Go.Ground.phase }, { on := 13, ground := Go.Ground.phase }, { on := 14, ground := Go.Ground.phase }, { on := 15, ground := Go.Ground.phase }, { on := 16, ground := Go.Ground.phase }], guard := none }) (v := ?v17B1) rfl (by kernel_rfl) (by kernel_rfl) (by kernel_rfl) (fun _ _ _ h => h) (Or.inl ⟨by rfl, ?hy17B1⟩) (by assumption) ?rest17B1
            case hy17B1 => (intro w hSw; (try dsimp only at hSw); go_simp; try with_reducible rfl)
            try simp only [Act.put, List.setIfInBounds_toArray, List.set_cons_zero, List.set_cons_succ]
            refine wpAnyH_done (by kernel_rfl) ?_ _
            go_wp2_with fail
            go_ret
            exact ⟨rfl, below_step (below_step (below_step (sv_below (below_drew1 hB10.out) hS1 (by omega) sxw) qx2.out) qx3.out) qx4.out⟩
          · go_simp
            refine (HX2.out F3 T3 _ hF3).mono ?_; rintro e x4 ⟨g4, cap4, rfl, ho4, hbq⟩
            have Rx4a : Row x4 0 g2 cap2 TL := row_later hbq Rx3.out
            have vx4 := conv Rx4a
            have Rx4b : Row x4 0 g4 cap4 TL := own_less ho4 (Nat.zero_le _)
            have ux4 := conv Rx4b
            have qx4 := Lib.hid hbq
            clear Rx4a Rx4b ho4
            go_wp2_with fail
            refine hK.out _ _ ?_ (fun hHeld12 => ?_)
            · (try dsimp only)
              (go_split_ands; (repeat' apply And.intro) <;> (repeat' (first | with_reducible assumption | (refine cell_later hbq ?_; assumption))))
            clear hK K
            try simp only [Act.put, List.setIfInBounds_toArray, List.set_cons_zero, List.set_cons_succ]
            clear hbq
            refine wpAnyH_take (i := 13) (oi := { dst := some 116, op := Go.Op.field 30 (Go.Operand.tmp 115) 2, type := 28, pos := "law.go:137", after := #[{ on := 12, ground := Go.Ground.data }, { on := 5, ground := Go.Ground.guard }], guard := some (5, true) }) (v := ?v13B2) rfl (by kernel_rfl) (by kernel_rfl) (by kernel_rfl) (fun _ _ _ h => h) (Or.inl ⟨by rfl, ?hy13B2⟩) (by assumption) ?rest13B2
            case hy13B2 => (intro w hSw; (try dsimp only at hSw); go_simp; try with_reducible rfl)
            try simp only [Act.put, List.setIfInBounds_toArray, List.set_cons_zero, List.set_cons_succ]
            refine wpAnyH_ready (rs := [9, 14]) (by kernel_rfl) (by simp) ?_
            refine AllReadyH.cons (o := { dst := some 112, op := Go.Op.convert 28 9 (Go.Operand.tmp 111), type := 9, pos := "law.go:137", after := #[{ on := 8, ground := Go.Ground.data }, { on := 5, ground := Go.Ground.guard }], guard := some (5, true) }) rfl (fun K hK => ?_) (AllReadyH.cons (o := { dst := some 117, op := Go.Op.convert 28 9 (Go.Operand.tmp 116), type := 9, pos := "law.go:137", after := #[{ on := 13, ground := Go.Ground.data }, { on := 5, ground := Go.Ground.guard }], guard := some (5, true) }) rfl (fun K hK => ?_) AllReadyH.nil)
            · go_simp
              refine hK.out _ _ (by assumption) (fun hHeld8 => ?_)
              clear hK K
              try simp only [Act.put, List.setIfInBounds_toArray, List.set_cons_zero, List.set_cons_succ]
              refine wpAnyH_ready (rs := [14]) (by kernel_rfl) (by simp) ?_
              refine AllReadyH.cons (o := { dst := some 117, op := Go.Op.convert 28 9 (Go.Operand.tmp 116), type := 9, pos := "law.go:137", after := #[{ on := 13, ground := Go.Ground.data }, { on := 5, ground := Go.Ground.guard }], guard := some (5, true) }) rfl (fun K hK => ?_) AllReadyH.nil
              go_simp
              refine hK.out _ _ (by assumption) (fun hHeld9 => ?_)
              clear hK K
              try simp only [Act.put, List.setIfInBounds_toArray, List.set_cons_zero, List.set_cons_succ]
              refine wpAnyH_take (i := 15) (oi := { dst := some 118, op := Go.Op.binOp Go.BinOp.eql 9 (Go.Operand.tmp 112) (Go.Operand.tmp 117) 9, type := 4, pos := "law.go:137", after := #[{ on := 9, ground := Go.Ground.data }, { on := 14, ground := Go.Ground.data }, { on := 5, ground := Go.Ground.guard }], guard := some (5, true) }) (v := ?v15B2a) rfl (by kernel_rfl) (by kernel_rfl) (by kernel_rfl) (fun _ _ _ h => h) (Or.inl ⟨by rfl, ?hy15B2a⟩) (by assumption) ?rest15B2a
              case hy15B2a => (intro w hSw; (try dsimp only at hSw); go_simp; try with_reducible rfl)
              try simp only [Act.put, List.setIfInBounds_toArray, List.set_cons_zero, List.set_cons_succ]
              refine wpAnyH_take (i := 16) (oi := { dst := some 119, op := Go.Op.pick (Go.Operand.tmp 108) (Go.Operand.tmp 118) (Go.Operand.const (Go.Value.bool false)), type := 4, pos := "law.go:137", after := #[{ on := 5, ground := Go.Ground.data }, { on := 15, ground := Go.Ground.data }], guard := none }) (v := ?v16B2a) rfl (by kernel_rfl) (by kernel_rfl) (by kernel_rfl) (fun _ _ _ h => h) (Or.inl ⟨by rfl, ?hy16B2a⟩) (by assumption) ?rest16B2a
              case hy16B2a => (intro w hSw; (try dsimp only at hSw); go_simp; try with_reducible rfl)
              try simp only [Act.put, List.setIfInBounds_toArray, List.set_cons_zero, List.set_cons_succ]
              refine wpAnyH_take (i := 17) (oi := { dst := some 6, op := Go.Op.assign (Go.Operand.tmp 119), type := 4, pos := "law.go:137", after := #[{ on := 16, ground := Go.Ground.data }, { on := 12, ground := Go.Ground.chain }, { on := 0, ground := Go.Ground.phase }, { on := 1, ground := Go.Ground.phase }, { on := 2, ground := Go.Ground.phase }, { on := 3, ground := Go.Ground.phase }, { on := 4, ground := Go.Ground.phase }, { on := 5, ground := Go.Ground.phase }, { on := 6, ground := Go.Ground.phase }, { on := 7, ground := Go.Ground.phase }, { on := 8, ground := Go.Ground.phase }, { on := 9, ground := Go.Ground.phase }, { on := 10, ground := Go.Ground.phase }, { on := 11, ground := Go.Ground.phase }, { on := 12, ground := Go.Ground.phase }, { on := 13, ground := Go.Ground.phase }, { on := 14, ground := Go.Ground.phase }, { on := 15, ground := Go.Ground.phase }, { on := 16, ground := Go.Ground.phase }], guard := none }) (v := ?v17B2a) rfl (by kernel_rfl) (by kernel_rfl) (by kernel_rfl) (fun _ _ _ h => h) (Or.inl ⟨by rfl, ?hy17B2a⟩) (by assumption) ?rest17B2a
              case hy17B2a => (intro w hSw; (try dsimp only at hSw); go_simp; try with_reducible rfl)
              try simp only [Act.put, List.setIfInBounds_toArray, List.set_cons_zero, List.set_cons_succ]
              refine wpAnyH_done (by kernel_rfl) ?_ _
              go_wp2_with fail
              go_ret
              exact ⟨rfl, below_step (below_step (below_step (sv_below (below_drew1 hB10.out) hS1 (by omega) sxw) qx2.out) qx3.out) qx4.out⟩
            · go_simp
              refine hK.out _ _ (by assumption) (fun hHeld10 => ?_)
              clear hK K
              try simp only [Act.put, List.setIfInBounds_toArray, List.set_cons_zero, List.set_cons_succ]
              refine wpAnyH_ready (rs := [9]) (by kernel_rfl) (by simp) ?_
              refine AllReadyH.cons (o := { dst := some 112, op := Go.Op.convert 28 9 (Go.Operand.tmp 111), type := 9, pos := "law.go:137", after := #[{ on := 8, ground := Go.Ground.data }, { on := 5, ground := Go.Ground.guard }], guard := some (5, true) }) rfl (fun K hK => ?_) AllReadyH.nil
              go_simp
              refine hK.out _ _ (by assumption) (fun hHeld11 => ?_)
              clear hK K
              try simp only [Act.put, List.setIfInBounds_toArray, List.set_cons_zero, List.set_cons_succ]
              refine wpAnyH_take (i := 15) (oi := { dst := some 118, op := Go.Op.binOp Go.BinOp.eql 9 (Go.Operand.tmp 112) (Go.Operand.tmp 117) 9, type := 4, pos := "law.go:137", after := #[{ on := 9, ground := Go.Ground.data }, { on := 14, ground := Go.Ground.data }, { on := 5, ground := Go.Ground.guard }], guard := some (5, true) }) (v := ?v15B2b) rfl (by kernel_rfl) (by kernel_rfl) (by kernel_rfl) (fun _ _ _ h => h) (Or.inl ⟨by rfl, ?hy15B2b⟩) (by assumption) ?rest15B2b
              case hy15B2b => (intro w hSw; (try dsimp only at hSw); go_simp; try with_reducible rfl)
              try simp only [Act.put, List.setIfInBounds_toArray, List.set_cons_zero, List.set_cons_succ]
              refine wpAnyH_take (i := 16) (oi := { dst := some 119, op := Go.Op.pick (Go.Operand.tmp 108) (Go.Operand.tmp 118) (Go.Operand.const (Go.Value.bool false)), type := 4, pos := "law.go:137", after := #[{ on := 5, ground := Go.Ground.data }, { on := 15, ground := Go.Ground.data }], guard := none }) (v := ?v16B2b) rfl (by kernel_rfl) (by kernel_rfl) (by kernel_rfl) (fun _ _ _ h => h) (Or.inl ⟨by rfl, ?hy16B2b⟩) (by assumption) ?rest16B2b
              case hy16B2b => (intro w hSw; (try dsimp only at hSw); go_simp; try with_reducible rfl)
              try simp only [Act.put, List.setIfInBounds_toArray, List.set_cons_zero, List.set_cons_succ]
              refine wpAnyH_take (i := 17) (oi := { dst := some 6, op := Go.Op.assign (Go.Operand.tmp 119), type := 4, pos := "law.go:137", after := #[{ on := 16, ground := Go.Ground.data }, { on := 12, ground := Go.Ground.chain }, { on := 0, ground := Go.Ground.phase }, { on := 1, ground := Go.Ground.phase }, { on := 2, ground := Go.Ground.phase }, { on := 3, ground := Go.Ground.phase }, { on := 4, ground := Go.Ground.phase }, { on := 5, ground := Go.Ground.phase }, { on := 6, ground := Go.Ground.phase }, { on := 7, ground := Go.Ground.phase }, { on := 8, ground := Go.Ground.phase }, { on := 9, ground := Go.Ground.phase }, { on := 10, ground := Go.Ground.phase }, { on := 11, ground := Go.Ground.phase }, { on := 12, ground := Go.Ground.phase }, { on := 13, ground := Go.Ground.phase }, { on := 14, ground := Go.Ground.phase }, { on := 15, ground := Go.Ground.phase }, { on := 16, ground := Go.Ground.phase }], guard := none }) (v := ?v17B2b) rfl (by kernel_rfl) (by kernel_rfl) (by kernel_rfl) (fun _ _ _ h => h) (Or.inl ⟨by rfl, ?hy17B2b⟩) (by assumption) ?rest17B2b
              case hy17B2b => (intro w hSw; (try dsimp only at hSw); go_simp; try with_reducible rfl)
              try simp only [Act.put, List.setIfInBounds_toArray, List.set_cons_zero, List.set_cons_succ]
              refine wpAnyH_done (by kernel_rfl) ?_ _
              go_wp2_with fail
              go_ret
              exact ⟨rfl, below_step (below_step (below_step (sv_below (below_drew1 hB10.out) hS1 (by omega) sxw) qx2.out) qx3.out) qx4.out⟩
end Go.Proofs.Ytfbnaicnmkkohaa.WalkOut
