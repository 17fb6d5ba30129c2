/- FrameFull's walk. Conditions: as each states. -/
import Derived.Test.YtfbnaicnmkkohaaTwo
import Derived.Test.YtfbnaicnmkkohaaFullLaw
namespace Go.Proofs.Ytfbnaicnmkkohaa.WalkFull
open Go Go.RowKit Go.Lib Go.Proofs.YtfbnaicnmkkohaaW.PrintWords Go.Proofs.YtfbnaicnmkkohaaW.PrintLast Go.Proofs.YtfbnaicnmkkohaaW.PrintMore Go.Proofs.Ytfbnaicnmkkohaa.Core Go.Proofs.Ytfbnaicnmkkohaa.PFramePlace Go.Proofs.Ytfbnaicnmkkohaa.Repeat Go.Proofs.Ytfbnaicnmkkohaa.Frames Go.Proofs.Ytfbnaicnmkkohaa.Draw Go.Proofs.Ytfbnaicnmkkohaa.Drawn Go.Proofs.Ytfbnaicnmkkohaa.Awake Go.Proofs.Ytfbnaicnmkkohaa.Two Go.Proofs.Ytfbnaicnmkkohaa.FullLaw
set_option linter.unusedVariables false
set_option linter.unusedSimpArgs false
attribute [local go_sem ↓] Go.wp_at_zero Go.wp_at_succ
/-- the first k have their highest bit set -/
def half (l : List Int) (k : Nat) : List Int := (l.take k).map hb ++ l.drop k
theorem half_length (l : List Int) (k : Nat) : (half l k).length = l.length := by simp [half]; omega
theorem half_zero (l : List Int) : half l 0 = l := by simp [half]
theorem half_full (l : List Int) : half l l.length = l.map hb := by simp [half]
theorem half_at {l : List Int} {k : Nat} (h : k < l.length) : (half l k).getD k 0 = l.getD k 0 := by
  unfold half
  rw [List.getD_eq_getElem?_getD, List.getD_eq_getElem?_getD, List.getElem?_append_right (by simp; omega), List.length_map, List.length_take, Nat.min_eq_left (by omega), Nat.sub_self, List.getElem?_drop, Nat.add_zero]
theorem half_set {l : List Int} {k : Nat} (h : k < l.length) : (half l k).set k (hb (l.getD k 0)) = half l (k + 1) := by
  unfold half
  rw [List.set_append_right _ _ (by simp; omega), List.length_map, List.length_take, Nat.min_eq_left (by omega), Nat.sub_self, List.drop_eq_getElem_cons h, List.set_cons_zero, List.take_succ_eq_append_getElem h, List.map_append, List.append_assoc, List.getD_eq_getElem?_getD, List.getElem?_eq_getElem h]; rfl
theorem two_text {B : Nat} {X : World} {b p g cap : Nat} {W H : Int} {l : List Int} {pen : Array Value} (h : Two B X b p g cap W H l pen) : (∀ j, j < l.length → X.cell? ⟨g, j, none⟩ = some (.int .u8 (l.getD j 0))) ∧ ∀ j, X.frozen? ⟨g, j, none⟩ = false := by
  obtain ⟨hn, h0 | ⟨g', c', cur, hv, hB, hb, hc, hm, hs, ht⟩⟩ := h.2.2.1
  · simp at h0
  · simp only [Value.slice.injEq, Option.some.injEq, Addr.mk.injEq, and_true, true_and] at hv
    obtain ⟨rfl, rfl⟩ := hv
    refine ⟨fun j hj => ?_, fun j => blk_frozen hb j⟩
    rw [h.2.2.1.cellAt j (by omega), List.getElem?_map, List.getD_eq_getElem?_getD, List.getElem?_eq_getElem hj]; rfl
theorem two_base {B : Nat} {X : World} {b p g cap : Nat} {W H : Int} {l : List Int} {pen : Array Value} (h : Two B X b p g cap W H l pen) : B ≤ g := own_base h.2.2.1 g rfl
theorem two_put {B : Nat} {X : World} {b p g cap k : Nat} {W H : Int} {l : List Int} {pen : Array Value} (h : Two B X b p g cap W H (half l k) pen) (hk : k < l.length) : Two B (X.setCell ⟨g, k, none⟩ (.int .u8 (Go.bits .or .u8 (l.getD k 0) 128))) b p g cap W H (half l (k + 1)) pen := by
  have hb : b ≠ g := fun e => own_ne h.2.2.1 h.1 (by decide) (by simp [Value.ownBlock, e])
  have hp : p ≠ g := fun e => own_ne h.2.2.1 h.2.1 (by decide) (by simp [Value.ownBlock, e])
  refine ⟨?_, blk_far h.2.1 hp _, ?_, h.2.2.2⟩
  · have := blk_far h.1 (p := ⟨g, k, none⟩) hb (.int .u8 (Go.bits .or .u8 (l.getD k 0) 128))
    rw [half_length] at this ⊢; exact this
  · have := own_put h.2.2.1 k (Go.bits .or .u8 (l.getD k 0) 128)
    rw [Int.toNat_natCast] at this
    have e : (half l k).set k (Go.bits .or .u8 (l.getD k 0) 128) = half l (k + 1) := half_set hk
    rw [e, show (half l k).length = (half l (k + 1)).length by rw [half_length, half_length]] at this
    exact this
theorem two_pen {B : Nat} {X : World} {b p g cap : Nat} {W H : Int} {l : List Int} {pen pen' : Array Value} (h : Two B X b p g cap W H l pen) (i : Nat) (v : Value) (e : pen.setIfInBounds i v = pen') : Two B (X.setCell ⟨p, i, none⟩ v) b p g cap W H l pen' :=
  ⟨blk_far h.1 (p := ⟨p, i, none⟩) (blk_ne h.1 h.2.1 (by decide)) _, blk_put h.2.1 i v e, row_set h.2.2.1 h.2.1 (by decide) i v, h.2.2.2⟩
theorem two_cells {B : Nat} {X : World} {b p g cap : Nat} {W H : Int} {l : List Int} {q0 q1 q2 q3 q4 q5 q6 : Value} (h : Two B X b p g cap W H l #[q0, q1, q2, q3, q4, q5, q6]) :
    (X.cell? ⟨b, 0, none⟩ = some (.int .i64 W) ∧ X.cell? ⟨b, 1, none⟩ = some (.int .i64 H) ∧ X.cell? ⟨b, 2, none⟩ = some (.slice (some ⟨g, 0, none⟩) l.length cap)) ∧
    (X.cell? ⟨p, 0, none⟩ = some q0 ∧ X.cell? ⟨p, 1, none⟩ = some q1 ∧ X.cell? ⟨p, 2, none⟩ = some q2 ∧ X.cell? ⟨p, 3, none⟩ = some q3 ∧ X.cell? ⟨p, 4, none⟩ = some q4 ∧ X.cell? ⟨p, 5, none⟩ = some q5 ∧ X.cell? ⟨p, 6, none⟩ = some q6) :=
  ⟨⟨blk_cell h.1 0, blk_cell h.1 1, blk_cell h.1 2⟩, blk_cell h.2.1 0, blk_cell h.2.1 1, blk_cell h.2.1 2, blk_cell h.2.1 3, blk_cell h.2.1 4, blk_cell h.2.1 5, blk_cell h.2.1 6⟩
theorem two_later {B : Nat} {X X1 : World} {b p g cap : Nat} {W H : Int} {l : List Int} {pen : Array Value} (h : Two B X b p g cap W H l pen) (hb : Below X.heap.size X X1) : Two B X1 b p g cap W H l pen :=
  ⟨blk_below h.1 hb, blk_below h.2.1 hb, row_later hb h.2.2.1, h.2.2.2⟩
theorem two_sv {B T : Nat} {X X1 : World} {b p g cap : Nat} {W H : Int} {l : List Int} {pen : Array Value} (h : Two B X b p g cap W H l pen) (hb : Sv T X X1) (hT : T < B) : Two B X1 b p g cap W H l pen := by
  have hg := two_base h
  refine ⟨(hb.block b (blk_lt h.1) (by have := h.2.2.2.1; omega)).trans h.1, (hb.block p (blk_lt h.2.1) (by have := h.2.2.2.2; omega)).trans h.2.1, own_move h.2.2.1 (fun k hk => hb.block k (own_lt h.2.2.1 k hk) ?_), h.2.2.2⟩
  have : g = k := by simpa [Value.ownBlock] using hk
  omega
theorem below_p2 {B p : Nat} {w w1 : World} (h : Below B w w1) (hp : B ≤ p) (u v : Value) : Below B w ((w1.setCell ⟨p, 4, none⟩ u).setCell ⟨p, 5, none⟩ v) := (h.setCell hp u).setCell hp v
def LoopB (wb : World) (n : Nat) (s54 : Value) (w' : World) : Prop := ∃ k : Nat, s54 = .int .i64 k ∧ k ≤ n ∧ Below wb.heap.size wb w'
theorem frm_belowB {B : Nat} {w w1 : World} {F T : Nat} {W H : Int} {l : List Int} (h : Frm w F T W H l) (hb : Below B w w1) (hF : F < B) (hT : T < B) : Frm w1 F T W H l := ⟨(hb.block F hF).trans h.1, (hb.block T hT).trans h.2.1, h.2.2⟩
def LoopA (wb : World) (B b p g cap : Nat) (W H : Int) (l : List Int) (pen : Array Value) (s28 : Value) (w' : World) : Prop := ∃ k : Nat, s28 = .int .i64 k ∧ k ≤ l.length ∧ Two B w' b p g cap W H (half l k) pen ∧ Below B wb w'
set_option maxRecDepth 100000 in
set_option maxHeartbeats 8000000 in
theorem full (op key aw ah ink t0 t1 t2 t3 t4 t5 t6 tone PX PY RN RD LO HI INK den : Int) (W H : Nat) (l TL LP : List Int) (w : World) (hLP : Hid (LP.length = 1600)) (hn : l.length ≤ 1000)
    (HS : Hid (∀ w, Calls Try.prog 13 #[.agg #[.int .u8 op, .int .u8 key, .int .u8 aw, .int .u8 ah, .int .u8 ink]] w (WalkField.Made w W H l)))
    (HO : Hid (∀ w, Calls Try.prog 10 #[.int .i64 40, .int .i64 40, .int .u8 tone] w (Frames.Made w 40 40 TL)))
    (hin : ∀ k, k < LP.length → LP.getD k 0 = if uu PX RD (k % 40) < 0 ∨ (W : Int) * den < uu PX RD (k % 40) ∨ uu PY RD (k / 40) < 0 ∨ (H : Int) * den < uu PY RD (k / 40) then tone else INK)
    (hWd : 0 ≤ (W : Int) * den ∧ (W : Int) * den ≤ 100000) (hHd : 0 ≤ (H : Int) * den ∧ (H : Int) * den ≤ 100000)
    (HD : Hid (∀ (g cap F T : Nat) (w' : World), l.length ≤ cap → g ≠ T → Frm w' F T 40 40 TL → (∀ j, j < l.length → w'.cell? ⟨g, j, none⟩ = some (.int .u8 ((l.map hb).getD j 0))) →
      Calls Try.prog 15 #[.pointer (some ⟨F, 0, none⟩), .agg #[.int .i64 W, .int .i64 H, .slice (some ⟨g, 0, none⟩) l.length cap], .agg #[.int .i64 PX, .int .i64 PY, .int .i64 RN, .int .i64 RD, .int .i64 5, .int .i64 100, .int .u8 INK]] w' (fun e w2 => e = .returned (.int .i64 0) ∧ Frm w2 F T 40 40 LP ∧ Sv T w' w2)))
    (HX : Hid (∀ (F T : Nat) (w' : World), Frm w' F T 40 40 LP → Calls Try.prog 12 #[.pointer (some ⟨F, 0, none⟩)] w' (Shown w' 40 40 LP)))
    (HP : Hid (∀ (k : Nat) (w' : World), k < LP.length → Calls Try.prog 20 #[.agg #[.int .i64 PX, .int .i64 PY, .int .i64 RN, .int .i64 RD, .int .i64 5, .int .i64 100, .int .u8 INK], .int .i64 ((k : Int) % 40), .int .i64 ((k : Int) / 40)] w' (Ret (.tuple #[.int .i64 (uu PX RD (k % 40)), .int .i64 (uu PY RD (k / 40)), .int .i64 den]) w')))
    (HT : Hid (∀ w, Calls Try.prog 14 #[.agg #[.int .u8 t0, .int .u8 t1, .int .u8 t2, .int .u8 t3, .int .u8 t4, .int .u8 t5, .int .u8 t6]] w (Ret (.agg #[.int .i64 PX, .int .i64 PY, .int .i64 RN, .int .i64 RD, .int .i64 LO, .int .i64 HI, .int .u8 INK]) w))) :
    Calls Try.prog 8 #[.agg #[.int .u8 op, .int .u8 key, .int .u8 aw, .int .u8 ah, .int .u8 ink], .agg #[.int .u8 t0, .int .u8 t1, .int .u8 t2, .int .u8 t3, .int .u8 t4, .int .u8 t5, .int .u8 t6], .int .u8 tone] w (Ret (.bool true) w) := by
  have hfd : ∀ (a b : Int) (v : Value) (w : World), (Instr.field 30 (.agg #[.int .i64 a, .int .i64 b, v]) 2).run Try.prog w = .ok v w := fun _ _ _ _ => by kernel_rfl
  go_enter Try.func8, Try.ntmps8
  go_upto_region 4 with (first
    | (go_at_call 9; refine (awake_calls _).mono ?_; rintro e w1 ⟨rfl, hw1⟩)
    | (go_at_call 10; refine (HO.out _).mono ?_; rintro e w2 ⟨F, T, rfl, hzF, hzT, hF, hw2⟩))
  have c0 := cell_later hw2 (cell_later hw1 (show ((w.alloc (.cells #[.int .u8 op, .int .u8 key, .int .u8 aw, .int .u8 ah, .int .u8 ink] 35)).alloc (.cells #[.int .u8 t0, .int .u8 t1, .int .u8 t2, .int .u8 t3, .int .u8 t4, .int .u8 t5, .int .u8 t6] 41)).cell? ⟨w.heap.size, 0, none⟩ = some (.int .u8 op) by go_simp))
  have c1 := cell_later hw2 (cell_later hw1 (show ((w.alloc (.cells #[.int .u8 op, .int .u8 key, .int .u8 aw, .int .u8 ah, .int .u8 ink] 35)).alloc (.cells #[.int .u8 t0, .int .u8 t1, .int .u8 t2, .int .u8 t3, .int .u8 t4, .int .u8 t5, .int .u8 t6] 41)).cell? ⟨w.heap.size, 1, none⟩ = some (.int .u8 key) by go_simp))
  have c2 := cell_later hw2 (cell_later hw1 (show ((w.alloc (.cells #[.int .u8 op, .int .u8 key, .int .u8 aw, .int .u8 ah, .int .u8 ink] 35)).alloc (.cells #[.int .u8 t0, .int .u8 t1, .int .u8 t2, .int .u8 t3, .int .u8 t4, .int .u8 t5, .int .u8 t6] 41)).cell? ⟨w.heap.size, 2, none⟩ = some (.int .u8 aw) by go_simp))
  have c3 := cell_later hw2 (cell_later hw1 (show ((w.alloc (.cells #[.int .u8 op, .int .u8 key, .int .u8 aw, .int .u8 ah, .int .u8 ink] 35)).alloc (.cells #[.int .u8 t0, .int .u8 t1, .int .u8 t2, .int .u8 t3, .int .u8 t4, .int .u8 t5, .int .u8 t6] 41)).cell? ⟨w.heap.size, 3, none⟩ = some (.int .u8 ah) by go_simp))
  have c4 := cell_later hw2 (cell_later hw1 (show ((w.alloc (.cells #[.int .u8 op, .int .u8 key, .int .u8 aw, .int .u8 ah, .int .u8 ink] 35)).alloc (.cells #[.int .u8 t0, .int .u8 t1, .int .u8 t2, .int .u8 t3, .int .u8 t4, .int .u8 t5, .int .u8 t6] 41)).cell? ⟨w.heap.size, 4, none⟩ = some (.int .u8 ink) by go_simp))
  have c5 := cell_later hw2 (cell_later hw1 (show ((w.alloc (.cells #[.int .u8 op, .int .u8 key, .int .u8 aw, .int .u8 ah, .int .u8 ink] 35)).alloc (.cells #[.int .u8 t0, .int .u8 t1, .int .u8 t2, .int .u8 t3, .int .u8 t4, .int .u8 t5, .int .u8 t6] 41)).cell? ⟨w.heap.size + 1, 0, none⟩ = some (.int .u8 t0) by go_simp))
  have c6 := cell_later hw2 (cell_later hw1 (show ((w.alloc (.cells #[.int .u8 op, .int .u8 key, .int .u8 aw, .int .u8 ah, .int .u8 ink] 35)).alloc (.cells #[.int .u8 t0, .int .u8 t1, .int .u8 t2, .int .u8 t3, .int .u8 t4, .int .u8 t5, .int .u8 t6] 41)).cell? ⟨w.heap.size + 1, 1, none⟩ = some (.int .u8 t1) by go_simp))
  have c7 := cell_later hw2 (cell_later hw1 (show ((w.alloc (.cells #[.int .u8 op, .int .u8 key, .int .u8 aw, .int .u8 ah, .int .u8 ink] 35)).alloc (.cells #[.int .u8 t0, .int .u8 t1, .int .u8 t2, .int .u8 t3, .int .u8 t4, .int .u8 t5, .int .u8 t6] 41)).cell? ⟨w.heap.size + 1, 2, none⟩ = some (.int .u8 t2) by go_simp))
  have c8 := cell_later hw2 (cell_later hw1 (show ((w.alloc (.cells #[.int .u8 op, .int .u8 key, .int .u8 aw, .int .u8 ah, .int .u8 ink] 35)).alloc (.cells #[.int .u8 t0, .int .u8 t1, .int .u8 t2, .int .u8 t3, .int .u8 t4, .int .u8 t5, .int .u8 t6] 41)).cell? ⟨w.heap.size + 1, 3, none⟩ = some (.int .u8 t3) by go_simp))
  have c9 := cell_later hw2 (cell_later hw1 (show ((w.alloc (.cells #[.int .u8 op, .int .u8 key, .int .u8 aw, .int .u8 ah, .int .u8 ink] 35)).alloc (.cells #[.int .u8 t0, .int .u8 t1, .int .u8 t2, .int .u8 t3, .int .u8 t4, .int .u8 t5, .int .u8 t6] 41)).cell? ⟨w.heap.size + 1, 4, none⟩ = some (.int .u8 t4) by go_simp))
  have c10 := cell_later hw2 (cell_later hw1 (show ((w.alloc (.cells #[.int .u8 op, .int .u8 key, .int .u8 aw, .int .u8 ah, .int .u8 ink] 35)).alloc (.cells #[.int .u8 t0, .int .u8 t1, .int .u8 t2, .int .u8 t3, .int .u8 t4, .int .u8 t5, .int .u8 t6] 41)).cell? ⟨w.heap.size + 1, 5, none⟩ = some (.int .u8 t5) by go_simp))
  have c11 := cell_later hw2 (cell_later hw1 (show ((w.alloc (.cells #[.int .u8 op, .int .u8 key, .int .u8 aw, .int .u8 ah, .int .u8 ink] 35)).alloc (.cells #[.int .u8 t0, .int .u8 t1, .int .u8 t2, .int .u8 t3, .int .u8 t4, .int .u8 t5, .int .u8 t6] 41)).cell? ⟨w.heap.size + 1, 6, none⟩ = some (.int .u8 t6) by go_simp))
  have hB2 : Below w.heap.size w w2 := below_step (below_step (below_alloc (below_alloc (Below.refl _ _) _) _) hw1) hw2
  have sT : w.heap.size ≤ T := by have := hw1.size; simp at this; omega
  clear hw1 hw2
  have l2 : w.heap.size + 1 < w2.heap.size := World.block_lt_of_cell? _ _ c5
  go_cut [8, 9] (fun s8 s9 wr => ∃ b p g cap : Nat, s8 = .pointer (some ⟨b, 0, none⟩) ∧ s9 = .pointer (some ⟨p, 0, none⟩) ∧ Two w2.heap.size wr b p g cap W H l #[.int .i64 PX, .int .i64 PY, .int .i64 RN, .int .i64 RD, .int .i64 LO, .int .i64 HI, .int .u8 INK] ∧ Below w2.heap.size w2 wr)
  case first =>
    go_region_held3 (fun w' => w'.cell? ⟨w.heap.size, 0, none⟩ = some (.int .u8 op) ∧ w'.cell? ⟨w.heap.size, 1, none⟩ = some (.int .u8 key) ∧ w'.cell? ⟨w.heap.size, 2, none⟩ = some (.int .u8 aw) ∧ w'.cell? ⟨w.heap.size, 3, none⟩ = some (.int .u8 ah) ∧ w'.cell? ⟨w.heap.size, 4, none⟩ = some (.int .u8 ink) ∧ w'.cell? ⟨w.heap.size + 1, 0, none⟩ = some (.int .u8 t0) ∧ w'.cell? ⟨w.heap.size + 1, 1, none⟩ = some (.int .u8 t1) ∧ w'.cell? ⟨w.heap.size + 1, 2, none⟩ = some (.int .u8 t2) ∧ w'.cell? ⟨w.heap.size + 1, 3, none⟩ = some (.int .u8 t3) ∧ w'.cell? ⟨w.heap.size + 1, 4, none⟩ = some (.int .u8 t4) ∧ w'.cell? ⟨w.heap.size + 1, 5, none⟩ = some (.int .u8 t5) ∧ w'.cell? ⟨w.heap.size + 1, 6, none⟩ = some (.int .u8 t6))
      ((go_split_ands; (repeat' apply And.intro) <;> (repeat' (first | with_reducible assumption | with_reducible refine keepA ?_ | with_reducible refine keepD ?_ | with_reducible refine keepS ?_ ?_ | (dsimp only; omega)))))
      (first
        | (go_at_call 13; refine (HS.out _).mono ?_; rintro e w3 ⟨g, cap, rfl, how3, hbq⟩; have Bw3 : Below w2.heap.size w2 w3 := below_step (by (repeat' (first | with_reducible assumption | with_reducible exact Below.refl _ _ | with_reducible refine below_alloc ?_ _ | with_reducible refine below_drew1 ?_ | with_reducible refine below_set ?_ ?_ | omega))) hbq; have Rw3 : Row w3 w2.heap.size g cap l := own_less how3 (by first | exact Nat.le_refl _ | (simp; done) | (simp; omega)); clear how3; have sw3 := Bw3.size; have kw30 : w3.cell? ⟨w.heap.size, 0, none⟩ = some (.int .u8 op) := cell_later hbq (by go_split_ands; assumption); have kw31 : w3.cell? ⟨w.heap.size, 1, none⟩ = some (.int .u8 key) := cell_later hbq (by go_split_ands; assumption); have kw32 : w3.cell? ⟨w.heap.size, 2, none⟩ = some (.int .u8 aw) := cell_later hbq (by go_split_ands; assumption); have kw33 : w3.cell? ⟨w.heap.size, 3, none⟩ = some (.int .u8 ah) := cell_later hbq (by go_split_ands; assumption); have kw34 : w3.cell? ⟨w.heap.size, 4, none⟩ = some (.int .u8 ink) := cell_later hbq (by go_split_ands; assumption); have kw35 : w3.cell? ⟨w.heap.size + 1, 0, none⟩ = some (.int .u8 t0) := cell_later hbq (by go_split_ands; assumption); have kw36 : w3.cell? ⟨w.heap.size + 1, 1, none⟩ = some (.int .u8 t1) := cell_later hbq (by go_split_ands; assumption); have kw37 : w3.cell? ⟨w.heap.size + 1, 2, none⟩ = some (.int .u8 t2) := cell_later hbq (by go_split_ands; assumption); have kw38 : w3.cell? ⟨w.heap.size + 1, 3, none⟩ = some (.int .u8 t3) := cell_later hbq (by go_split_ands; assumption); have kw39 : w3.cell? ⟨w.heap.size + 1, 4, none⟩ = some (.int .u8 t4) := cell_later hbq (by go_split_ands; assumption); have kw310 : w3.cell? ⟨w.heap.size + 1, 5, none⟩ = some (.int .u8 t5) := cell_later hbq (by go_split_ands; assumption); have kw311 : w3.cell? ⟨w.heap.size + 1, 6, none⟩ = some (.int .u8 t6) := cell_later hbq (by go_split_ands; assumption); (try (have fbw30 : FreshB w3 (w2.heap.size) := (by first | (with_reducible refine fb_later hbq (fb_new ?_); first | rfl | exact sz1 _ _) | (with_reducible refine fb_later hbq (fb_alloc (fb_new ?_)); first | rfl | exact sz1 _ _) | (with_reducible refine fb_later hbq ?_; with_reducible assumption) | (with_reducible refine fb_later hbq (fb_alloc ?_); with_reducible assumption) | (with_reducible refine fb_later hbq (fb_alloc (fb_alloc ?_)); with_reducible assumption) | (with_reducible refine fb_laterD hbq (fb_new ?_); first | rfl | exact sz1 _ _) | (with_reducible refine fb_laterD hbq (fb_alloc (fb_new ?_)); first | rfl | exact sz1 _ _) | (with_reducible refine fb_laterD hbq ?_; with_reducible assumption) | (with_reducible refine fb_laterD hbq (fb_alloc ?_); with_reducible assumption) | (with_reducible refine fb_laterD hbq (fb_alloc (fb_alloc ?_)); with_reducible assumption)); have fbw30c := fb_cells fbw30; have fbw30d : w2.heap.size < w3.heap.size := blk_lt fbw30; have fbw30e := Nat.ne_of_lt fbw30d; go_split_ands)); (try (have fpw30 : FreshP w3 (w2.heap.size) := (by first | (with_reducible refine fp_later hbq (fp_new ?_); first | rfl | exact sz1 _ _) | (with_reducible refine fp_later hbq (fp_alloc (fp_new ?_)); first | rfl | exact sz1 _ _) | (with_reducible refine fp_later hbq ?_; with_reducible assumption) | (with_reducible refine fp_later hbq (fp_alloc ?_); with_reducible assumption) | (with_reducible refine fp_later hbq (fp_alloc (fp_alloc ?_)); with_reducible assumption) | (with_reducible refine fp_laterD hbq (fp_new ?_); first | rfl | exact sz1 _ _) | (with_reducible refine fp_laterD hbq (fp_alloc (fp_new ?_)); first | rfl | exact sz1 _ _) | (with_reducible refine fp_laterD hbq ?_; with_reducible assumption) | (with_reducible refine fp_laterD hbq (fp_alloc ?_); with_reducible assumption) | (with_reducible refine fp_laterD hbq (fp_alloc (fp_alloc ?_)); with_reducible assumption)); have fpw30c := fp_cells fpw30; have fpw30d : w2.heap.size < w3.heap.size := blk_lt fpw30; have fpw30e := Nat.ne_of_lt fpw30d; go_split_ands)); (try (have fbw31 : FreshB w3 (w2.heap.size + 1) := (by first | (with_reducible refine fb_later hbq (fb_new ?_); first | rfl | exact sz1 _ _) | (with_reducible refine fb_later hbq (fb_alloc (fb_new ?_)); first | rfl | exact sz1 _ _) | (with_reducible refine fb_later hbq ?_; with_reducible assumption) | (with_reducible refine fb_later hbq (fb_alloc ?_); with_reducible assumption) | (with_reducible refine fb_later hbq (fb_alloc (fb_alloc ?_)); with_reducible assumption) | (with_reducible refine fb_laterD hbq (fb_new ?_); first | rfl | exact sz1 _ _) | (with_reducible refine fb_laterD hbq (fb_alloc (fb_new ?_)); first | rfl | exact sz1 _ _) | (with_reducible refine fb_laterD hbq ?_; with_reducible assumption) | (with_reducible refine fb_laterD hbq (fb_alloc ?_); with_reducible assumption) | (with_reducible refine fb_laterD hbq (fb_alloc (fb_alloc ?_)); with_reducible assumption)); have fbw31c := fb_cells fbw31; have fbw31d : w2.heap.size + 1 < w3.heap.size := blk_lt fbw31; have fbw31e := Nat.ne_of_lt fbw31d; go_split_ands)); (try (have fpw31 : FreshP w3 (w2.heap.size + 1) := (by first | (with_reducible refine fp_later hbq (fp_new ?_); first | rfl | exact sz1 _ _) | (with_reducible refine fp_later hbq (fp_alloc (fp_new ?_)); first | rfl | exact sz1 _ _) | (with_reducible refine fp_later hbq ?_; with_reducible assumption) | (with_reducible refine fp_later hbq (fp_alloc ?_); with_reducible assumption) | (with_reducible refine fp_later hbq (fp_alloc (fp_alloc ?_)); with_reducible assumption) | (with_reducible refine fp_laterD hbq (fp_new ?_); first | rfl | exact sz1 _ _) | (with_reducible refine fp_laterD hbq (fp_alloc (fp_new ?_)); first | rfl | exact sz1 _ _) | (with_reducible refine fp_laterD hbq ?_; with_reducible assumption) | (with_reducible refine fp_laterD hbq (fp_alloc ?_); with_reducible assumption) | (with_reducible refine fp_laterD hbq (fp_alloc (fp_alloc ?_)); with_reducible assumption)); have fpw31c := fp_cells fpw31; have fpw31d : w2.heap.size + 1 < w3.heap.size := blk_lt fpw31; have fpw31e := Nat.ne_of_lt fpw31d; go_split_ands)))
        | (go_at_call 14; refine (HT.out _).mono ?_; rintro e w4 ⟨rfl, hbq⟩; have Bw4 : Below w2.heap.size w2 w4 := below_step (by (repeat' (first | with_reducible assumption | with_reducible exact Below.refl _ _ | with_reducible refine below_alloc ?_ _ | with_reducible refine below_drew1 ?_ | with_reducible refine below_set ?_ ?_ | omega))) hbq; have sw4 := Bw4.size; have kw40 : w4.cell? ⟨w.heap.size, 0, none⟩ = some (.int .u8 op) := cell_later hbq (by go_split_ands; assumption); have kw41 : w4.cell? ⟨w.heap.size, 1, none⟩ = some (.int .u8 key) := cell_later hbq (by go_split_ands; assumption); have kw42 : w4.cell? ⟨w.heap.size, 2, none⟩ = some (.int .u8 aw) := cell_later hbq (by go_split_ands; assumption); have kw43 : w4.cell? ⟨w.heap.size, 3, none⟩ = some (.int .u8 ah) := cell_later hbq (by go_split_ands; assumption); have kw44 : w4.cell? ⟨w.heap.size, 4, none⟩ = some (.int .u8 ink) := cell_later hbq (by go_split_ands; assumption); have kw45 : w4.cell? ⟨w.heap.size + 1, 0, none⟩ = some (.int .u8 t0) := cell_later hbq (by go_split_ands; assumption); have kw46 : w4.cell? ⟨w.heap.size + 1, 1, none⟩ = some (.int .u8 t1) := cell_later hbq (by go_split_ands; assumption); have kw47 : w4.cell? ⟨w.heap.size + 1, 2, none⟩ = some (.int .u8 t2) := cell_later hbq (by go_split_ands; assumption); have kw48 : w4.cell? ⟨w.heap.size + 1, 3, none⟩ = some (.int .u8 t3) := cell_later hbq (by go_split_ands; assumption); have kw49 : w4.cell? ⟨w.heap.size + 1, 4, none⟩ = some (.int .u8 t4) := cell_later hbq (by go_split_ands; assumption); have kw410 : w4.cell? ⟨w.heap.size + 1, 5, none⟩ = some (.int .u8 t5) := cell_later hbq (by go_split_ands; assumption); have kw411 : w4.cell? ⟨w.heap.size + 1, 6, none⟩ = some (.int .u8 t6) := cell_later hbq (by go_split_ands; assumption); (try (have fbw40 : FreshB w4 (w2.heap.size) := (by first | (with_reducible refine fb_later hbq (fb_new ?_); first | rfl | exact sz1 _ _) | (with_reducible refine fb_later hbq (fb_alloc (fb_new ?_)); first | rfl | exact sz1 _ _) | (with_reducible refine fb_later hbq ?_; with_reducible assumption) | (with_reducible refine fb_later hbq (fb_alloc ?_); with_reducible assumption) | (with_reducible refine fb_later hbq (fb_alloc (fb_alloc ?_)); with_reducible assumption) | (with_reducible refine fb_laterD hbq (fb_new ?_); first | rfl | exact sz1 _ _) | (with_reducible refine fb_laterD hbq (fb_alloc (fb_new ?_)); first | rfl | exact sz1 _ _) | (with_reducible refine fb_laterD hbq ?_; with_reducible assumption) | (with_reducible refine fb_laterD hbq (fb_alloc ?_); with_reducible assumption) | (with_reducible refine fb_laterD hbq (fb_alloc (fb_alloc ?_)); with_reducible assumption)); have fbw40c := fb_cells fbw40; have fbw40d : w2.heap.size < w4.heap.size := blk_lt fbw40; have fbw40e := Nat.ne_of_lt fbw40d; go_split_ands)); (try (have fpw40 : FreshP w4 (w2.heap.size) := (by first | (with_reducible refine fp_later hbq (fp_new ?_); first | rfl | exact sz1 _ _) | (with_reducible refine fp_later hbq (fp_alloc (fp_new ?_)); first | rfl | exact sz1 _ _) | (with_reducible refine fp_later hbq ?_; with_reducible assumption) | (with_reducible refine fp_later hbq (fp_alloc ?_); with_reducible assumption) | (with_reducible refine fp_later hbq (fp_alloc (fp_alloc ?_)); with_reducible assumption) | (with_reducible refine fp_laterD hbq (fp_new ?_); first | rfl | exact sz1 _ _) | (with_reducible refine fp_laterD hbq (fp_alloc (fp_new ?_)); first | rfl | exact sz1 _ _) | (with_reducible refine fp_laterD hbq ?_; with_reducible assumption) | (with_reducible refine fp_laterD hbq (fp_alloc ?_); with_reducible assumption) | (with_reducible refine fp_laterD hbq (fp_alloc (fp_alloc ?_)); with_reducible assumption)); have fpw40c := fp_cells fpw40; have fpw40d : w2.heap.size < w4.heap.size := blk_lt fpw40; have fpw40e := Nat.ne_of_lt fpw40d; go_split_ands)); (try (have fbw41 : FreshB w4 (w2.heap.size + 1) := (by first | (with_reducible refine fb_later hbq (fb_new ?_); first | rfl | exact sz1 _ _) | (with_reducible refine fb_later hbq (fb_alloc (fb_new ?_)); first | rfl | exact sz1 _ _) | (with_reducible refine fb_later hbq ?_; with_reducible assumption) | (with_reducible refine fb_later hbq (fb_alloc ?_); with_reducible assumption) | (with_reducible refine fb_later hbq (fb_alloc (fb_alloc ?_)); with_reducible assumption) | (with_reducible refine fb_laterD hbq (fb_new ?_); first | rfl | exact sz1 _ _) | (with_reducible refine fb_laterD hbq (fb_alloc (fb_new ?_)); first | rfl | exact sz1 _ _) | (with_reducible refine fb_laterD hbq ?_; with_reducible assumption) | (with_reducible refine fb_laterD hbq (fb_alloc ?_); with_reducible assumption) | (with_reducible refine fb_laterD hbq (fb_alloc (fb_alloc ?_)); with_reducible assumption)); have fbw41c := fb_cells fbw41; have fbw41d : w2.heap.size + 1 < w4.heap.size := blk_lt fbw41; have fbw41e := Nat.ne_of_lt fbw41d; go_split_ands)); (try (have fpw41 : FreshP w4 (w2.heap.size + 1) := (by first | (with_reducible refine fp_later hbq (fp_new ?_); first | rfl | exact sz1 _ _) | (with_reducible refine fp_later hbq (fp_alloc (fp_new ?_)); first | rfl | exact sz1 _ _) | (with_reducible refine fp_later hbq ?_; with_reducible assumption) | (with_reducible refine fp_later hbq (fp_alloc ?_); with_reducible assumption) | (with_reducible refine fp_later hbq (fp_alloc (fp_alloc ?_)); with_reducible assumption) | (with_reducible refine fp_laterD hbq (fp_new ?_); first | rfl | exact sz1 _ _) | (with_reducible refine fp_laterD hbq (fp_alloc (fp_new ?_)); first | rfl | exact sz1 _ _) | (with_reducible refine fp_laterD hbq ?_; with_reducible assumption) | (with_reducible refine fp_laterD hbq (fp_alloc ?_); with_reducible assumption) | (with_reducible refine fp_laterD hbq (fp_alloc (fp_alloc ?_)); with_reducible assumption)); have fpw41c := fp_cells fpw41; have fpw41d : w2.heap.size + 1 < w4.heap.size := blk_lt fpw41; have fpw41e := Nat.ne_of_lt fpw41d; go_split_ands)); (try (have fbw42 : FreshB w4 (w3.heap.size) := (by first | (with_reducible refine fb_later hbq (fb_new ?_); first | rfl | exact sz1 _ _) | (with_reducible refine fb_later hbq (fb_alloc (fb_new ?_)); first | rfl | exact sz1 _ _) | (with_reducible refine fb_later hbq ?_; with_reducible assumption) | (with_reducible refine fb_later hbq (fb_alloc ?_); with_reducible assumption) | (with_reducible refine fb_later hbq (fb_alloc (fb_alloc ?_)); with_reducible assumption) | (with_reducible refine fb_laterD hbq (fb_new ?_); first | rfl | exact sz1 _ _) | (with_reducible refine fb_laterD hbq (fb_alloc (fb_new ?_)); first | rfl | exact sz1 _ _) | (with_reducible refine fb_laterD hbq ?_; with_reducible assumption) | (with_reducible refine fb_laterD hbq (fb_alloc ?_); with_reducible assumption) | (with_reducible refine fb_laterD hbq (fb_alloc (fb_alloc ?_)); with_reducible assumption)); have fbw42c := fb_cells fbw42; have fbw42d : w3.heap.size < w4.heap.size := blk_lt fbw42; have fbw42e := Nat.ne_of_lt fbw42d; go_split_ands)); (try (have fpw42 : FreshP w4 (w3.heap.size) := (by first | (with_reducible refine fp_later hbq (fp_new ?_); first | rfl | exact sz1 _ _) | (with_reducible refine fp_later hbq (fp_alloc (fp_new ?_)); first | rfl | exact sz1 _ _) | (with_reducible refine fp_later hbq ?_; with_reducible assumption) | (with_reducible refine fp_later hbq (fp_alloc ?_); with_reducible assumption) | (with_reducible refine fp_later hbq (fp_alloc (fp_alloc ?_)); with_reducible assumption) | (with_reducible refine fp_laterD hbq (fp_new ?_); first | rfl | exact sz1 _ _) | (with_reducible refine fp_laterD hbq (fp_alloc (fp_new ?_)); first | rfl | exact sz1 _ _) | (with_reducible refine fp_laterD hbq ?_; with_reducible assumption) | (with_reducible refine fp_laterD hbq (fp_alloc ?_); with_reducible assumption) | (with_reducible refine fp_laterD hbq (fp_alloc (fp_alloc ?_)); with_reducible assumption)); have fpw42c := fp_cells fpw42; have fpw42d : w3.heap.size < w4.heap.size := blk_lt fpw42; have fpw42e := Nat.ne_of_lt fpw42d; go_split_ands)); (try (have fbw43 : FreshB w4 (w3.heap.size + 1) := (by first | (with_reducible refine fb_later hbq (fb_new ?_); first | rfl | exact sz1 _ _) | (with_reducible refine fb_later hbq (fb_alloc (fb_new ?_)); first | rfl | exact sz1 _ _) | (with_reducible refine fb_later hbq ?_; with_reducible assumption) | (with_reducible refine fb_later hbq (fb_alloc ?_); with_reducible assumption) | (with_reducible refine fb_later hbq (fb_alloc (fb_alloc ?_)); with_reducible assumption) | (with_reducible refine fb_laterD hbq (fb_new ?_); first | rfl | exact sz1 _ _) | (with_reducible refine fb_laterD hbq (fb_alloc (fb_new ?_)); first | rfl | exact sz1 _ _) | (with_reducible refine fb_laterD hbq ?_; with_reducible assumption) | (with_reducible refine fb_laterD hbq (fb_alloc ?_); with_reducible assumption) | (with_reducible refine fb_laterD hbq (fb_alloc (fb_alloc ?_)); with_reducible assumption)); have fbw43c := fb_cells fbw43; have fbw43d : w3.heap.size + 1 < w4.heap.size := blk_lt fbw43; have fbw43e := Nat.ne_of_lt fbw43d; go_split_ands)); (try (have fpw43 : FreshP w4 (w3.heap.size + 1) := (by first | (with_reducible refine fp_later hbq (fp_new ?_); first | rfl | exact sz1 _ _) | (with_reducible refine fp_later hbq (fp_alloc (fp_new ?_)); first | rfl | exact sz1 _ _) | (with_reducible refine fp_later hbq ?_; with_reducible assumption) | (with_reducible refine fp_later hbq (fp_alloc ?_); with_reducible assumption) | (with_reducible refine fp_later hbq (fp_alloc (fp_alloc ?_)); with_reducible assumption) | (with_reducible refine fp_laterD hbq (fp_new ?_); first | rfl | exact sz1 _ _) | (with_reducible refine fp_laterD hbq (fp_alloc (fp_new ?_)); first | rfl | exact sz1 _ _) | (with_reducible refine fp_laterD hbq ?_; with_reducible assumption) | (with_reducible refine fp_laterD hbq (fp_alloc ?_); with_reducible assumption) | (with_reducible refine fp_laterD hbq (fp_alloc (fp_alloc ?_)); with_reducible assumption)); have fpw43c := fp_cells fpw43; have fpw43d : w3.heap.size + 1 < w4.heap.size := blk_lt fpw43; have fpw43e := Nat.ne_of_lt fpw43d; go_split_ands)); (try (have Rw4 : Row w4 w2.heap.size g cap l := (by first | (with_reducible refine row_later hbq ?_; with_reducible assumption) | (with_reducible refine row_later hbq (row_alloc ?_); with_reducible assumption) | (with_reducible refine row_later hbq (row_alloc (row_alloc ?_)); with_reducible assumption) | (with_reducible refine row_laterD hbq ?_; with_reducible assumption) | (with_reducible refine row_laterD hbq (row_alloc ?_); with_reducible assumption) | (with_reducible refine row_laterD hbq (row_alloc (row_alloc ?_)); with_reducible assumption))))))
    all_goals (go_wp2_with fail; go_meet)
    all_goals (refine ⟨_, _, _, _, rfl, rfl, two_mk (cap := cap) (g := g) ?_ ?_ ?_ ?_ ?_, ?_⟩ <;> (repeat' (first | with_reducible assumption | (with_reducible refine fb_new ?_; first | rfl | exact sz1 _ _ | exact szB | exact szP) | (with_reducible refine fp_new ?_; first | rfl | exact sz1 _ _ | exact szB | exact szP) | (with_reducible refine lb_new ?_; first | rfl | exact sz1 _ _ | exact szB | exact szP) | (with_reducible refine lp_new ?_; first | rfl | exact sz1 _ _ | exact szB | exact szP) | with_reducible refine lb_set ?_ | with_reducible refine lp_set ?_ | with_reducible refine fb_alloc ?_ | with_reducible refine fp_alloc ?_ | with_reducible refine lb_alloc ?_ | with_reducible refine lp_alloc ?_ | with_reducible refine fp_setB ?_ ?_ | with_reducible refine fb_setP ?_ ?_ | with_reducible refine lp_setB ?_ ?_ | with_reducible refine lb_setP ?_ ?_ | with_reducible refine fb_drew ?_ | with_reducible refine fp_drew ?_ | with_reducible refine lb_drew ?_ | with_reducible refine lp_drew ?_ | with_reducible refine row_setB ?_ ?_ | with_reducible refine row_setP ?_ ?_ | with_reducible refine row_alloc ?_ | with_reducible refine row_drew ?_ | with_reducible exact Below.refl _ _ | with_reducible refine below_alloc ?_ _ | with_reducible refine below_drew1 ?_ | with_reducible refine below_set ?_ ?_ | exact Nat.le_refl _ | omega)))
  case rest =>
    obtain ⟨b, p, g, cap, rfl, rfl, h2, hbr⟩ := hcut
    have hFc := frm_later hF hbr
    have lF : F < w2.heap.size := blk_lt hF.1
    have lT : T < w2.heap.size := blk_lt hF.2.1
    have hBc : Below w.heap.size w wc := below_step hB2 hbr
    have sc := hbr.size
    have s2 := hB2.size
    clear hbr hB2 hF c0 c1 c2 c3 c4 c5 c6 c7 c8 c9 c10 c11
    have hcp : l.length ≤ cap := own_cap h2.2.2.1
    have r2 : wc.cell? ⟨b, 2, none⟩ = some (.slice (some ⟨g, 0, none⟩) l.length cap) := blk_cell h2.1 2
    have h2H := Lib.hid h2
    clear h2
    go_upto_region 6 with fail
    clear r2
    go_loopw [28] (LoopA wc w2.heap.size b p g cap W H l #[.int .i64 PX, .int .i64 PY, .int .i64 RN, .int .i64 RD, .int .i64 LO, .int .i64 HI, .int .u8 INK]) (fun i _ => (l.length - intOf i).toNat)
    case atStart => exact ⟨0, rfl, Nat.zero_le _, by rw [half_zero]; exact h2H.out, Below.refl _ _⟩
    case round =>
      obtain ⟨k, rfl, hk, hrT, hrB⟩ := hrel
      by_cases hlt : k < l.length
      · have hlt' : (k : Int) < l.length := by omega
        have r2 : wr.cell? ⟨b, 2, none⟩ = some (.slice (some ⟨g, 0, none⟩) l.length cap) := by have := blk_cell hrT.1 2; rw [half_length] at this; exact this
        have rg := (two_text hrT).1 k (by rw [half_length]; exact hlt)
        have rf := (two_text hrT).2 k
        rw [half_at hlt] at rg
        have hput := Lib.hid (two_put hrT hlt)
        have hrBH := Lib.hid hrB
        have hrg : w2.heap.size ≤ g := (two_base hrT)
        clear hrT hrB
        generalize l.getD k 0 = z at rg hput
        go_wp2_with fail
        refine ⟨⟨k + 1, by congr 1, by omega, hput.out, hrBH.out.setCell hrg _⟩, by simp [intOf]; omega⟩
      · obtain rfl : k = l.length := by omega
        rw [half_full] at hrT
        have hrBH := Lib.hid hrB
        clear hrB
        have c3 : wr.cell? ⟨p, 3, none⟩ = some (.int .i64 RD) := blk_cell hrT.2.1 3
        have c4 : wr.cell? ⟨p, 4, none⟩ = some (.int .i64 LO) := blk_cell hrT.2.1 4
        have c5 : wr.cell? ⟨p, 5, none⟩ = some (.int .i64 HI) := blk_cell hrT.2.1 5
        have f4 : wr.frozen? ⟨p, 4, none⟩ = false := blk_frozen hrT.2.1 4
        have f5 : wr.frozen? ⟨p, 5, none⟩ = false := blk_frozen hrT.2.1 5
        have h3 := Lib.hid (two_pen (two_pen hrT 4 (.int .i64 5) rfl) 5 (.int .i64 100) rfl)
        have hB3 := Lib.hid (below_p2 hrBH.out hrT.2.2.2.2 (.int .i64 5) (.int .i64 100))
        have hF3 := Lib.hid (frm_belowB hFc hB3.out lF lT)
        clear hrT
        go_upto_region 11 with fail
        generalize (wr.setCell ⟨p, 4, none⟩ (.int .i64 5)).setCell ⟨p, 5, none⟩ (.int .i64 100) = wd at *
        clear c3 c4 c5 f4 f5 hrBH hFc
        obtain ⟨⟨a0, a1, a2⟩, p0, p1, p2, p3, p4, p5, p6⟩ := two_cells h3.out
        rw [List.length_map] at a2
        have hgT : g ≠ T := by have := two_base h3.out; omega
        have hg3 : ∀ j, j < l.length → wd.cell? ⟨g, j, none⟩ = some (.int .u8 ((l.map hb).getD j 0)) := fun j hj => (two_text h3.out).1 j (by simpa using hj)
        have hg3 := Lib.hid hg3
        go_upto_region 14 with (first
          | (go_at_call 15; refine (HD.out g cap F T _ hcp hgT hF3.out hg3.out).mono ?_; rintro e w5 ⟨rfl, hF5, hS5⟩)
          | (go_at_call 12; refine (HX.out F T _ hF5).mono ?_; rintro e w6 ⟨g6, cap6, rfl, ho6, hw6⟩))
        have h6 := Lib.hid (two_later (two_sv h3.out hS5 (by omega)) hw6)
        have dp6 : ∀ j, j < LP.length → w6.cell? ⟨g6, j, none⟩ = some (.int .u8 (LP.getD j 0)) := fun j hj => by
          rw [ho6.cellAt j (by omega), List.getElem?_map, List.getD_eq_getElem?_getD, List.getElem?_eq_getElem hj]; rfl
        have dp := Lib.hid dp6
        have hcp6 : LP.length ≤ cap6 := own_cap ho6
        have hB6 : Below w.heap.size w w6 := below_step (sv_below (below_weaken hBc (by omega) hB3.out) hS5 (by omega) (by have := hB3.out.size; omega)) hw6
        have hB6 := Lib.hid hB6
        clear hw6 hS5 hF5 ho6 dp6 a0 a1 a2 p0 p1 p2 p3 p4 p5 p6 hBc hg3 HD HX HS HO HT hF3 hB3 h3
        have hLn : LP.length ≤ 1600 := by have := hLP.out; omega
        go_loopw [54] (LoopB w6 LP.length) (fun i _ => (LP.length - intOf i).toNat)
        case atStart => exact ⟨0, rfl, Nat.zero_le _, Below.refl _ _⟩
        case round =>
          obtain ⟨j, rfl, hj, hbj⟩ := hrel
          by_cases hlt : j < LP.length
          · have hlt' : (j : Int) < LP.length := by omega
            have rp := cell_later hbj (dp.out j hlt)
            have h7 := two_later h6.out hbj
            obtain ⟨⟨a0, a1, a2⟩, p0, p1, p2, p3, p4, p5, p6⟩ := two_cells h7
            have C1 := Lib.hid fun w' => HP.out j w' hlt
            have hD := hin j hlt
            have hbjH := Lib.hid hbj
            have h7H := Lib.hid h7
            clear h7 hbj hin
            generalize uu PX RD (j % 40) = U at hD C1
            generalize uu PY RD (j / 40) = V at hD C1
            have k1 : IntKind.i64.wrap ((W : Int) * den) = (W : Int) * den := iw (by omega) (by omega)
            have k2 : IntKind.i64.wrap ((H : Int) * den) = (H : Int) * den := iw (by omega) (by omega)
            by_cases c1 : U < 0
            · rw [if_pos (.inl c1)] at hD
              rw [hD] at rp
              have t1 : decide (0 ≤ U) = false := decide_eq_false (by omega)
              go_wp2_with (go_at_call 20; with_reducible refine (C1.out _).mono ?_; rintro e w7 ⟨rfl, hw7⟩; have e0 := cell_later hw7 a0; have e1 := cell_later hw7 a1; have z5 := cell_later hw7 p6)
              exact ⟨⟨j + 1, by congr 1, by omega, below_step hbjH.out hw7⟩, by simp [intOf]; omega⟩
            · have t1 : decide (0 ≤ U) = true := decide_eq_true (by omega)
              by_cases c2 : V < 0
              · rw [if_pos (.inr (.inr (.inl c2)))] at hD
                rw [hD] at rp
                have t2 : decide (0 ≤ V) = false := decide_eq_false (by omega)
                go_wp2_with (go_at_call 20; with_reducible refine (C1.out _).mono ?_; rintro e w7 ⟨rfl, hw7⟩; have e0 := cell_later hw7 a0; have e1 := cell_later hw7 a1; have z5 := cell_later hw7 p6)
                exact ⟨⟨j + 1, by congr 1, by omega, below_step hbjH.out hw7⟩, by simp [intOf]; omega⟩
              · have t2 : decide (0 ≤ V) = true := decide_eq_true (by omega)
                by_cases c3 : (W : Int) * den < U
                · rw [if_pos (.inr (.inl c3))] at hD
                  rw [hD] at rp
                  have t3 : decide (U ≤ (W : Int) * den) = false := decide_eq_false (by omega)
                  go_wp2_with (go_at_call 20; with_reducible refine (C1.out _).mono ?_; rintro e w7 ⟨rfl, hw7⟩; have e0 := cell_later hw7 a0; have e1 := cell_later hw7 a1; have z5 := cell_later hw7 p6)
                  exact ⟨⟨j + 1, by congr 1, by omega, below_step hbjH.out hw7⟩, by simp [intOf]; omega⟩
                · have t3 : decide (U ≤ (W : Int) * den) = true := decide_eq_true (by omega)
                  by_cases c4 : (H : Int) * den < V
                  · rw [if_pos (.inr (.inr (.inr c4)))] at hD
                    rw [hD] at rp
                    have t4 : decide (V ≤ (H : Int) * den) = false := decide_eq_false (by omega)
                    go_wp2_with (go_at_call 20; with_reducible refine (C1.out _).mono ?_; rintro e w7 ⟨rfl, hw7⟩; have e0 := cell_later hw7 a0; have e1 := cell_later hw7 a1; have z5 := cell_later hw7 p6)
                    exact ⟨⟨j + 1, by congr 1, by omega, below_step hbjH.out hw7⟩, by simp [intOf]; omega⟩
                  · have t4 : decide (V ≤ (H : Int) * den) = true := decide_eq_true (by omega)
                    rw [if_neg (by omega)] at hD
                    rw [hD] at rp
                    go_wp2_with (go_at_call 20; with_reducible refine (C1.out _).mono ?_; rintro e w7 ⟨rfl, hw7⟩; have e0 := cell_later hw7 a0; have e1 := cell_later hw7 a1; have z5 := cell_later hw7 p6)
                    exact ⟨⟨j + 1, by congr 1, by omega, below_step hbjH.out hw7⟩, by simp [intOf]; omega⟩
          · obtain rfl : j = LP.length := by omega
            go_wp2_with fail
            go_ret
            exact ⟨rfl, below_step hB6.out hbj⟩
end Go.Proofs.Ytfbnaicnmkkohaa.WalkFull
