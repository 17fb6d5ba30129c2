/- The document's examples of chapter 19 stand. Conditions: none. -/
import Derived.Test.YtfbnaicnmkkohaaDrawn
import Derived.Laws.BytesArg
namespace Go.Proofs.Ytfbnaicnmkkohaa.Awake
open Go Go.RowKit Go.Lib Go.Proofs.YtfbnaicnmkkohaaW.PrintWords Go.Proofs.YtfbnaicnmkkohaaW.PrintLast Go.Proofs.YtfbnaicnmkkohaaW.PrintMore Go.Proofs.Ytfbnaicnmkkohaa.Core Go.Proofs.Ytfbnaicnmkkohaa.PFramePlace Go.Proofs.Ytfbnaicnmkkohaa.Repeat Go.Proofs.Ytfbnaicnmkkohaa.Frames Go.Proofs.Ytfbnaicnmkkohaa.Glue Go.Proofs.Ytfbnaicnmkkohaa.Draw Go.Proofs.Ytfbnaicnmkkohaa.Drawn
set_option linter.unusedVariables false
set_option linter.unusedSimpArgs false
attribute [local go_sem ↓] Go.wp_at_zero Go.wp_at_succ
def DA (j : Nat) : Int := col 1 1 [200] 10 100 77 (uu 1 1 (j % 4)) (uu 0 1 (j / 4)) 2 9
theorem DA_eq : (List.range 8).map DA = [9, 77, 9, 9, 9, 9, 9, 9] := by decide +kernel
theorem DA_at : ∀ y x, x < 4 → y < 2 → DA (y * 4 + x) = col 1 1 [200] 10 100 77 (uu 1 1 x) (uu 0 1 y) 2 ((List.replicate 8 (9 : Int)).getD (y * 4 + x) 0) := by
  intro y x hx hy
  unfold DA
  rw [show (y * 4 + x) % 4 = x by omega, show (y * 4 + x) / 4 = y by omega, List.getD_eq_getElem?_getD, List.getElem?_replicate, if_pos (by omega)]; rfl
theorem first (g F T : Nat) (w : World) (hF : Frm w F T 4 2 (List.replicate 8 9)) (hgT : g ≠ T) (hg : w.cell? ⟨g, 0, none⟩ = some (.int .u8 200)) :
    Calls Try.prog 15 #[.pointer (some ⟨F, 0, none⟩), .agg #[.int .i64 1, .int .i64 1, .slice (some ⟨g, 0, none⟩) 1 1], .agg #[.int .i64 1, .int .i64 0, .int .i64 1, .int .i64 1, .int .i64 10, .int .i64 100, .int .u8 77]] w (fun e w' => e = .returned (.int .i64 0) ∧ Frm w' F T 4 2 [9, 77, 9, 9, 9, 9, 9, 9] ∧ Sv T w w') := by
  have := drawn 4 2 1 1 1 0 1 1 10 100 77 2 g 1 F T [200] (List.replicate 8 9) DA w (by omega) (by omega) (by omega) (by omega) rfl (fun z hz => by have := List.eq_of_mem_replicate hz; omega)
    (by omega) (by omega) (by omega) (by omega) rfl (fun z hz => by simp at hz; omega) (by simp) (by omega) (by omega) (by omega) (by omega) (by omega) (by omega) (by omega) (by omega) (by omega) (by omega) (by omega) (by omega) (by omega) (by omega) hgT hF (fun j hj => by
      obtain rfl : j = 0 := by simp at hj; omega
      exact hg) DA_at
  have e : (List.range (List.replicate 8 (9 : Int)).length).map DA = [9, 77, 9, 9, 9, 9, 9, 9] := by rw [List.length_replicate]; exact DA_eq
  rw [e] at this
  exact this
theorem second (F : Nat) (w : World) : Calls Try.prog 15 #[.pointer (some ⟨F, 0, none⟩), .agg #[.int .i64 0, .int .i64 0, .slice none 0 0], .agg #[.int .i64 0, .int .i64 0, .int .i64 0, .int .i64 0, .int .i64 0, .int .i64 0, .int .u8 0]] w (Ret (.int .i64 4) w) :=
  bad F 0 0 0 0 0 0 0 0 0 none 0 0 w (hid fun w' => bilin_Right.calls 0 0 none 0 [] false w' ⟨rfl, Nat.zero_le _, fun h => absurd h (by simp)⟩ (Nat.le_refl _) (by decide +kernel))
theorem three (w : World) : Calls Try.prog 20 #[.agg #[.int .i64 1, .int .i64 0, .int .i64 2, .int .i64 1, .int .i64 0, .int .i64 0, .int .u8 0], .int .i64 1, .int .i64 0] w (Ret (.tuple #[.int .i64 1, .int .i64 1, .int .i64 4]) w) :=
  frame_Place.calls _ _ _ _ _ _ _ _ _ _ _ _ w (by decide +kernel)
theorem frm_alloc {w : World} {F T : Nat} {W H : Int} {l : List Int} (h : Frm w F T W H l) (o : Obj) : Frm (w.alloc o) F T W H l := ⟨blk_alloc h.1 _, blk_alloc h.2.1 _, h.2.2⟩
theorem frm_later {w w1 : World} {F T : Nat} {W H : Int} {l : List Int} (h : Frm w F T W H l) (hb : Below w.heap.size w w1) : Frm w1 F T W H l := ⟨(hb.block F (blk_lt h.1)).trans h.1, (hb.block T (blk_lt h.2.1)).trans h.2.1, h.2.2⟩
theorem sv_below {B T : Nat} {w0 w w1 : World} (hb : Below B w0 w) (h : Sv T w w1) (hT : B ≤ T) (hB : B ≤ w.heap.size) : Below B w0 w1 :=
  hb.trans ⟨h.os, h.tape, h.output, h.size, fun b hl => h.block b (Nat.lt_of_lt_of_le hl hB) (by omega)⟩
set_option maxRecDepth 100000 in
set_option maxHeartbeats 4000000 in
theorem awake_calls (w : World) : Calls Try.prog 9 #[] w (Ret (.bool true) w) := by
  have h1 := Lib.hid fun w => made 4 2 9 4 2 8 w rfl rfl rfl (by omega) (by omega)
  go_enter Try.func9, Try.ntmps9
  go_upto_region 4 with (go_at_call 10; refine (h1.out _).mono ?_; rintro e w1 ⟨F, T, rfl, hzF, hzT, hF, hB1⟩)
  have lT := blk_lt hF.2.1
  go_upto_region 8 with (first
    | (go_at_call 15; with_reducible refine (first w1.heap.size F T _ (frm_alloc hF (.cells #[.int .u8 200] 5)) (by omega) (by go_simp)).mono ?_; rintro e w2 ⟨rfl, hF2, hS2⟩)
    | (go_at_call 15; with_reducible refine (second F _).mono ?_; rintro e w3 ⟨rfl, hb3⟩)
    | (go_at_call 12; refine (pixels 4 2 [9, 77, 9, 9, 9, 9, 9, 9] F T _ (by simp) (by simp) (frm_later hF2 hb3)).mono ?_; rintro e w4 ⟨g, cap, rfl, ho4, hb4⟩)
    | (go_at_call 20; refine (three _).mono ?_; rintro e w5 ⟨rfl, hb5⟩))
  have p0 := cell_later hb5 (show (w4.alloc (.cells #[.int .i64 4, .int .i64 2, .slice (some ⟨g, 0, none⟩) 8 cap] 30)).cell? ⟨w4.heap.size, 0, none⟩ = some (.int .i64 4) by go_simp)
  have p2 := cell_later hb5 (show (w4.alloc (.cells #[.int .i64 4, .int .i64 2, .slice (some ⟨g, 0, none⟩) 8 cap] 30)).cell? ⟨w4.heap.size, 2, none⟩ = some (.slice (some ⟨g, 0, none⟩) 8 cap) by go_simp)
  have hcv := run_convert_bytes_arg (P := Try.prog) w5 28 5 Try.underlying28 Try.underlying5 g 0 8 cap [9, 77, 9, 9, 9, 9, 9, 9] rfl (fun i hi => by
    have hc := ho4.cellAt i (by simpa using hi)
    rw [Nat.zero_add]
    refine cell_later hb5 (cell_later (below_alloc (Below.refl _ _) _) (hc.trans ?_))
    rw [List.getElem?_map, List.getD_eq_getElem?_getD, List.getElem?_eq_getElem (by simpa using hi)]; rfl) 9 (by kernel_rfl)
  have hstr : (strOfNums [9, 77, 9, 9, 9, 9, 9, 9]).toList = [9, 77, 9, 9, 9, 9, 9, 9] := by decide +kernel
  have hB3 : Below w.heap.size w w3 := below_step (sv_below (below_alloc hB1 (.cells #[.int .u8 200] 5)) hS2 hzT (by simp; have := hB1.size; omega)) hb3
  have hB5 : Below w.heap.size w w5 := below_step (below_alloc (below_step hB3 hb4) _) hb5
  generalize strOfNums [9, 77, 9, 9, 9, 9, 9, 9] = str at *
  clear ho4 hb4 hb5 hF2 hS2 hF hb3 hB3
  go_wp2_with fail
  go_ret
  exact ⟨rfl, hB5⟩
end Go.Proofs.Ytfbnaicnmkkohaa.Awake
