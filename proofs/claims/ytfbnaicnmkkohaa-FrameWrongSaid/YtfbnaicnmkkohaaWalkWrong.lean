/- FrameWrong's walk. Conditions: as each states. -/
import Derived.Test.YtfbnaicnmkkohaaAny
import Derived.Outline
namespace Go.Proofs.Ytfbnaicnmkkohaa.WalkWrong
open Go Go.RowKit Go.Lib Go.Proofs.YtfbnaicnmkkohaaW.PrintWords Go.Proofs.YtfbnaicnmkkohaaW.PrintLast Go.Proofs.YtfbnaicnmkkohaaW.PrintMore Go.Proofs.Ytfbnaicnmkkohaa.Core Go.Proofs.Ytfbnaicnmkkohaa.PFramePlace Go.Proofs.Ytfbnaicnmkkohaa.Repeat Go.Proofs.Ytfbnaicnmkkohaa.Frames Go.Proofs.Ytfbnaicnmkkohaa.Draw Go.Proofs.Ytfbnaicnmkkohaa.Drawn Go.Proofs.Ytfbnaicnmkkohaa.Awake Go.Proofs.Ytfbnaicnmkkohaa.Two Go.Proofs.Ytfbnaicnmkkohaa.WalkFull Go.Proofs.Ytfbnaicnmkkohaa.WalkOut Go.Proofs.Ytfbnaicnmkkohaa.Draw16 Go.Proofs.Ytfbnaicnmkkohaa.Parts Go.Proofs.Ytfbnaicnmkkohaa.May Go.Proofs.Ytfbnaicnmkkohaa.Any
set_option linter.unusedVariables false
set_option linter.unusedSimpArgs false
attribute [local go_sem ↓] Go.wp_at_zero Go.wp_at_succ
attribute [local go_sem] max2_int min2_int
/-- the arguments' variables -/
def Boxes (B : Nat) (wr : World) (va vp vx vt : Array Value) : Prop :=
  wr.heap[B]? = some (.cells va 30 (0, 0)) ∧ wr.heap[B + 1]? = some (.cells vp 39 (0, 0)) ∧ wr.heap[B + 1 + 1]? = some (.cells vx 35 (0, 0)) ∧ wr.heap[B + 1 + 1 + 1]? = some (.cells vt 41 (0, 0))
theorem boxes_later {B : Nat} {w w1 : World} {va vp vx vt : Array Value} (h : Boxes B w va vp vx vt) (hb : Below w.heap.size w w1) : Boxes B w1 va vp vx vt :=
  ⟨blk_below h.1 hb, blk_below h.2.1 hb, blk_below h.2.2.1 hb, blk_below h.2.2.2 hb⟩
theorem boxes_sv {B T : Nat} {w w1 : World} {va vp vx vt : Array Value} (h : Boxes B w va vp vx vt) (hb : Sv T w w1) (hT : B + 1 + 1 + 1 < T) : Boxes B w1 va vp vx vt :=
  ⟨(hb.block _ (blk_lt h.1) (by omega)).trans h.1, (hb.block _ (blk_lt h.2.1) (by omega)).trans h.2.1, (hb.block _ (blk_lt h.2.2.1) (by omega)).trans h.2.2.1, (hb.block _ (blk_lt h.2.2.2) (by omega)).trans h.2.2.2⟩
theorem boxes_set {B : Nat} {w : World} {va vp vx vt va' : Array Value} (h : Boxes B w va vp vx vt) (i : Nat) (v : Value) (e : va.setIfInBounds i v = va') : Boxes B (w.setCell ⟨B, i, none⟩ v) va' vp vx vt :=
  ⟨blk_put h.1 i v e, blk_far h.2.1 (p := ⟨B, i, none⟩) (by show B + 1 ≠ B; omega) _, blk_far h.2.2.1 (p := ⟨B, i, none⟩) (by show B + 1 + 1 ≠ B; omega) _, blk_far h.2.2.2 (p := ⟨B, i, none⟩) (by show B + 1 + 1 + 1 ≠ B; omega) _⟩
theorem lp_later {w w1 : World} {p : Nat} {q0 q1 q2 q3 q4 q5 q6 : Int} (h : LaidP w p q0 q1 q2 q3 q4 q5 q6) (hb : Below w.heap.size w w1) : LaidP w1 p q0 q1 q2 q3 q4 q5 q6 := blk_below h hb
theorem lb_later {w w1 : World} {b : Nat} {W H : Int} {sl : Value} (h : LaidB w b W H sl) (hb : Below w.heap.size w w1) : LaidB w1 b W H sl := blk_below h hb
theorem row_sv {B T g cap : Nat} {w w1 : World} {l : List Int} (h : Row w B g cap l) (hb : Sv T w w1) (hT : g ≠ T) : Row w1 B g cap l := by
  refine own_move h (fun j hj => hb.block j (own_lt h j hj) ?_)
  have h9 : g = j := by simpa [Value.ownBlock] using hj
  omega
/-- all that is carried along -/
theorem frm_pair {B F T q b g cap base : Nat} {w0 wr : World} {va vp vx vt : Array Value} {LF : List Int} {q0 q1 q2 q3 q4 q5 q6 : Int} {sl : Value} (h1 : Boxes B wr va vp vx vt) (h2 : Frm wr F T 9 9 LF) (h3 : LaidP wr q q0 q1 q2 q3 q4 q5 q6) (h4 : LaidB wr b 9 9 sl) (h5 : Row wr base g cap LF) (h6 : Below w0.heap.size w0 wr) :
    Boxes B wr va vp vx vt ∧ Frm wr F T 9 9 LF ∧ LaidP wr q q0 q1 q2 q3 q4 q5 q6 ∧ LaidB wr b 9 9 sl ∧ Row wr base g cap LF ∧ Below w0.heap.size w0 wr := ⟨h1, h2, h3, h4, h5, h6⟩
set_option maxRecDepth 100000 in
set_option maxHeartbeats 40000000 in
theorem wrong (AW AH PX PY RN RD LO HI INK op key aw ah ink t0 t1 t2 t3 t4 t5 t6 TX TY TN TD TL TH Q0 Q1 Q2 Q3 Q4 Q5 part num X1 X2 : Int) (A : Option Addr) (n cap k : Nat) (al0 al : List Int) (W1 H1 : Nat) (LF : List Int) (m1 m2 m3 c2 c3 : Bool) (w : World)
    (hlen : n ≤ cap) (hcap : cap ≤ 9223372036854775807) (hk : (if (300 : Int) < (n : Int) then 300 else (n : Int)) = (k : Int)) (hk2 : k ≤ cap)
    (hpart : 0 ≤ part) (hpart2 : part ≤ 255) (hLF : Hid (LF.length = 81)) (hal : al.length ≤ 1000)
    (hQ : Hid ((part % 6 = 0 ∧ Q0 = num ∧ Q1 = TY ∧ Q2 = TN ∧ Q3 = TD ∧ Q4 = TL ∧ Q5 = TH) ∨ (part % 6 = 1 ∧ Q0 = TX ∧ Q1 = num ∧ Q2 = TN ∧ Q3 = TD ∧ Q4 = TL ∧ Q5 = TH) ∨ (part % 6 = 2 ∧ Q0 = TX ∧ Q1 = TY ∧ Q2 = num ∧ Q3 = TD ∧ Q4 = TL ∧ Q5 = TH) ∨
      (part % 6 = 3 ∧ Q0 = TX ∧ Q1 = TY ∧ Q2 = TN ∧ Q3 = num ∧ Q4 = TL ∧ Q5 = TH) ∨ (part % 6 = 4 ∧ Q0 = TX ∧ Q1 = TY ∧ Q2 = TN ∧ Q3 = TD ∧ Q4 = num ∧ Q5 = TH) ∨ (part % 6 = 5 ∧ Q0 = TX ∧ Q1 = TY ∧ Q2 = TN ∧ Q3 = TD ∧ Q4 = TL ∧ Q5 = num)))
    (HT : Hid (∀ w, Calls Try.prog 14 #[.agg #[.int .u8 t0, .int .u8 t1, .int .u8 t2, .int .u8 t3, .int .u8 t4, .int .u8 t5, .int .u8 t6]] w (Ret (.agg #[.int .i64 TX, .int .i64 TY, .int .i64 TN, .int .i64 TD, .int .i64 TL, .int .i64 TH, .int .u8 t6]) w)))
    (HD1 : Hid (∀ (F T : Nat) (w' : World), Below w.heap.size w w' → w.heap.size < T → Frm w' F T 9 9 LF → Calls Try.prog 15 #[.pointer (some ⟨F, 0, none⟩), .agg #[.int .i64 AW, .int .i64 AH, .slice A k cap], .agg #[.int .i64 TX, .int .i64 TY, .int .i64 TN, .int .i64 TD, .int .i64 TL, .int .i64 TH, .int .u8 t6]] w' (DrawEnd F T 9 9 LF m1 w')))
    (HS : Hid (∀ w, Calls Try.prog 13 #[.agg #[.int .u8 op, .int .u8 key, .int .u8 aw, .int .u8 ah, .int .u8 ink]] w (WalkField.Made w W1 H1 al)))
    (HD2 : Hid (∀ (F T g c : Nat) (w' : World), Row w' 0 g c al → g ≠ T → Frm w' F T 9 9 LF → Calls Try.prog 15 #[.pointer (some ⟨F, 0, none⟩), .agg #[.int .i64 W1, .int .i64 H1, .slice (some ⟨g, 0, none⟩) al.length c], .agg #[.int .i64 Q0, .int .i64 Q1, .int .i64 Q2, .int .i64 Q3, .int .i64 Q4, .int .i64 Q5, .int .u8 t6]] w' (DrawEnd F T 9 9 LF m2 w')))
    (HM2 : Hid (∀ (g c : Nat) (w' : World), Row w' 0 g c al → Calls Try.prog 17 #[.agg #[.int .i64 W1, .int .i64 H1, .slice (some ⟨g, 0, none⟩) al.length c], .agg #[.int .i64 Q0, .int .i64 Q1, .int .i64 Q2, .int .i64 Q3, .int .i64 Q4, .int .i64 Q5, .int .u8 t6]] w' (Ret (.bool m2) w')))
    (HD3 : Hid (∀ (F T g c : Nat) (L : List Int) (w' : World), L.length = 9 * 9 → (∀ z ∈ L, 0 ≤ z ∧ z ≤ 255) → Row w' 0 g c al → g ≠ T → Frm w' F T 9 9 L → Calls Try.prog 15 #[.pointer (some ⟨F, 0, none⟩), .agg #[.int .i64 W1, .int .i64 H1, .slice (some ⟨g, 0, none⟩) al.length c], .agg #[.int .i64 PX, .int .i64 PY, .int .i64 RN, .int .i64 RD, .int .i64 LO, .int .i64 HI, .int .u8 INK]] w' (DrawEnd F T 9 9 L m3 w')))
    (HM3 : Hid (∀ (g c : Nat) (w' : World), Row w' 0 g c al → Calls Try.prog 17 #[.agg #[.int .i64 W1, .int .i64 H1, .slice (some ⟨g, 0, none⟩) al.length c], .agg #[.int .i64 PX, .int .i64 PY, .int .i64 RN, .int .i64 RD, .int .i64 LO, .int .i64 HI, .int .u8 INK]] w' (Ret (.bool m3) w')))
    (HR3 : Hid (∀ w' : World, Calls Try.prog 19 #[.agg #[.int .i64 RN, .int .i64 RD]] w' (Ret (.bool (c2 && c3)) w')))
    (hx1 : (if RD < RN then RD else RN) = X1) (hx2 : (if RN < RD then RD else RN) = X2) (hc2 : decide (0 < X1) = c2) (hc3 : decide (X2 < 65) = c3)
    (HM1 : Hid (∀ w' : World, Below w.heap.size w w' → Calls Try.prog 17 #[.agg #[.int .i64 AW, .int .i64 AH, .slice A k cap], .agg #[.int .i64 TX, .int .i64 TY, .int .i64 TN, .int .i64 TD, .int .i64 TL, .int .i64 TH, .int .u8 t6]] w' (Ret (.bool m1) w')))
    (HO : Hid (∀ w, Calls Try.prog 10 #[.int .i64 9, .int .i64 9, .int .u8 30] w (Frames.Made w 9 9 LF))) :
    Calls Try.prog 4 #[.agg #[.int .i64 AW, .int .i64 AH, .slice A n cap], .agg #[.int .i64 PX, .int .i64 PY, .int .i64 RN, .int .i64 RD, .int .i64 LO, .int .i64 HI, .int .u8 INK], .agg #[.int .u8 op, .int .u8 key, .int .u8 aw, .int .u8 ah, .int .u8 ink], .agg #[.int .u8 t0, .int .u8 t1, .int .u8 t2, .int .u8 t3, .int .u8 t4, .int .u8 t5, .int .u8 t6], .int .u8 part, .int .i64 num] w (Ret (.bool true) w) := by
  go_enter Try.func4, Try.ntmps4
  go_upto_region 6 with (first
    | (go_at_call 9; refine (awake_calls _).mono ?_; rintro e w1 ⟨rfl, hw1⟩)
    | (go_at_call 10; refine (HO.out _).mono ?_; rintro e w2 ⟨F, T, rfl, hzF, hzT, hF, hw2⟩))
  have hbx0 : Boxes w.heap.size ((((w.alloc (.cells #[.int .i64 AW, .int .i64 AH, .slice A n cap] 30)).alloc (.cells #[.int .i64 PX, .int .i64 PY, .int .i64 RN, .int .i64 RD, .int .i64 LO, .int .i64 HI, .int .u8 INK] 39)).alloc (.cells #[.int .u8 op, .int .u8 key, .int .u8 aw, .int .u8 ah, .int .u8 ink] 35)).alloc (.cells #[.int .u8 t0, .int .u8 t1, .int .u8 t2, .int .u8 t3, .int .u8 t4, .int .u8 t5, .int .u8 t6] 41)) #[.int .i64 AW, .int .i64 AH, .slice A n cap] #[.int .i64 PX, .int .i64 PY, .int .i64 RN, .int .i64 RD, .int .i64 LO, .int .i64 HI, .int .u8 INK] #[.int .u8 op, .int .u8 key, .int .u8 aw, .int .u8 ah, .int .u8 ink] #[.int .u8 t0, .int .u8 t1, .int .u8 t2, .int .u8 t3, .int .u8 t4, .int .u8 t5, .int .u8 t6] := by
    refine ⟨blk_alloc (blk_alloc (blk_alloc (blk_new _ _) _) _) _, blk_alloc (blk_alloc ?_ _) _, blk_alloc ?_ _, ?_⟩
    · have := blk_new (w.alloc (.cells #[.int .i64 AW, .int .i64 AH, .slice A n cap] 30)) (.cells #[.int .i64 PX, .int .i64 PY, .int .i64 RN, .int .i64 RD, .int .i64 LO, .int .i64 HI, .int .u8 INK] 39)
      rw [World.size_alloc] at this; exact this
    · have := blk_new ((w.alloc (.cells #[.int .i64 AW, .int .i64 AH, .slice A n cap] 30)).alloc (.cells #[.int .i64 PX, .int .i64 PY, .int .i64 RN, .int .i64 RD, .int .i64 LO, .int .i64 HI, .int .u8 INK] 39)) (.cells #[.int .u8 op, .int .u8 key, .int .u8 aw, .int .u8 ah, .int .u8 ink] 35)
      rw [World.size_alloc, World.size_alloc] at this; exact this
    · have := blk_new (((w.alloc (.cells #[.int .i64 AW, .int .i64 AH, .slice A n cap] 30)).alloc (.cells #[.int .i64 PX, .int .i64 PY, .int .i64 RN, .int .i64 RD, .int .i64 LO, .int .i64 HI, .int .u8 INK] 39)).alloc (.cells #[.int .u8 op, .int .u8 key, .int .u8 aw, .int .u8 ah, .int .u8 ink] 35)) (.cells #[.int .u8 t0, .int .u8 t1, .int .u8 t2, .int .u8 t3, .int .u8 t4, .int .u8 t5, .int .u8 t6] 41)
      rw [World.size_alloc, World.size_alloc, World.size_alloc] at this; exact this
  have hbx : Boxes w.heap.size w2 #[.int .i64 AW, .int .i64 AH, .slice A n cap] #[.int .i64 PX, .int .i64 PY, .int .i64 RN, .int .i64 RD, .int .i64 LO, .int .i64 HI, .int .u8 INK] #[.int .u8 op, .int .u8 key, .int .u8 aw, .int .u8 ah, .int .u8 ink] #[.int .u8 t0, .int .u8 t1, .int .u8 t2, .int .u8 t3, .int .u8 t4, .int .u8 t5, .int .u8 t6] := boxes_later (boxes_later hbx0 hw1) hw2
  have hB2 : Below w.heap.size w w2 := below_step (below_step (below_alloc (below_alloc (below_alloc (below_alloc (Below.refl _ _) _) _) _) _) hw1) hw2
  have sT : w.heap.size + 1 + 1 + 1 < T := by have := hw1.size; have := blk_lt hbx0.2.2.2; omega
  have sF : w.heap.size + 1 + 1 + 1 < F := by have := hw1.size; have := blk_lt hbx0.2.2.2; omega
  clear hw1 hw2 hbx0
  have g2 : w2.cell? ⟨w.heap.size, 2, none⟩ = some (.slice A n cap) := blk_cell hbx.1 2
  have g3 := blk_frozen hbx.1 2
  have hby := Lib.hid (boxes_set hbx 2 (.slice A k cap) rfl)
  have hFy := Lib.hid (frm_set (i := 2) (v := .slice A k cap) hF (p := w.heap.size) (by omega) (by omega))
  have hBy := Lib.hid (hB2.setCell (p := ⟨w.heap.size, 2, none⟩) (Nat.le_refl _) (.slice A k cap))
  have l2 : w.heap.size + 1 + 1 + 1 < w2.heap.size := blk_lt hbx.2.2.2
  have sz2 : (w2.setCell ⟨w.heap.size, 2, none⟩ (.slice A k cap)).heap.size = w2.heap.size := by simp
  clear hbx hF hB2
  have lFT : F < w2.heap.size ∧ T < w2.heap.size := by have h1 := blk_lt hFy.out.1; have h2 := blk_lt hFy.out.2.1; rw [sz2] at h1 h2; exact ⟨h1, h2⟩
  go_upto_region 7 with fail
  generalize w2.setCell ⟨w.heap.size, 2, none⟩ (.slice A k cap) = wy at *
  clear g2 g3
  have ly0 : w2.heap.size ≤ wy.heap.size := by omega
  clear sz2
  have ly : w.heap.size + 1 + 1 + 1 < wy.heap.size := by omega
  have u0 : wy.cell? ⟨w.heap.size + 1 + 1 + 1, 0, none⟩ = some (.int .u8 t0) := blk_cell hby.out.2.2.2 0
  have u1 : wy.cell? ⟨w.heap.size + 1 + 1 + 1, 1, none⟩ = some (.int .u8 t1) := blk_cell hby.out.2.2.2 1
  have u2 : wy.cell? ⟨w.heap.size + 1 + 1 + 1, 2, none⟩ = some (.int .u8 t2) := blk_cell hby.out.2.2.2 2
  have u3 : wy.cell? ⟨w.heap.size + 1 + 1 + 1, 3, none⟩ = some (.int .u8 t3) := blk_cell hby.out.2.2.2 3
  have u4 : wy.cell? ⟨w.heap.size + 1 + 1 + 1, 4, none⟩ = some (.int .u8 t4) := blk_cell hby.out.2.2.2 4
  have u5 : wy.cell? ⟨w.heap.size + 1 + 1 + 1, 5, none⟩ = some (.int .u8 t5) := blk_cell hby.out.2.2.2 5
  have u6 : wy.cell? ⟨w.heap.size + 1 + 1 + 1, 6, none⟩ = some (.int .u8 t6) := blk_cell hby.out.2.2.2 6

  go_upto_region 8 with (go_at_call 14; refine (HT.out _).mono ?_; rintro e w3 ⟨rfl, hw3⟩)
  have hbx3 := Lib.hid (boxes_later hby.out hw3)
  have hF3 := Lib.hid (frm_later hFy.out hw3)
  have hB3 := Lib.hid (below_step hBy.out hw3)
  have s3 := hw3.size
  clear hw3 hby hFy hBy u0 u1 u2 u3 u4 u5 u6 hk hk2 hlen hcap
  go_cut [14] (fun s14 wr => s14 = .pointer (some ⟨w3.heap.size, 0, none⟩) ∧ LaidP wr w3.heap.size Q0 Q1 Q2 Q3 Q4 Q5 t6 ∧ Below w3.heap.size w3 wr)
  case first =>
    have hQ2 := hQ.out
    clear hQ
    rcases hQ2 with ⟨e1, e2, e3, e4, e5, e6, e7⟩ | ⟨e1, e2, e3, e4, e5, e6, e7⟩ | ⟨e1, e2, e3, e4, e5, e6, e7⟩ | ⟨e1, e2, e3, e4, e5, e6, e7⟩ | ⟨e1, e2, e3, e4, e5, e6, e7⟩ | ⟨e1, e2, e3, e4, e5, e6, e7⟩
    all_goals
      subst e2 e3 e4 e5 e6 e7
      have e8 : Int.tmod part 6 = part % 6 := Int.tmod_eq_emod_of_nonneg hpart
      rw [e1] at e8
      go_wp2_with fail
      go_meet
      refine ⟨rfl, ?_, ?_⟩ <;> (repeat' (first | with_reducible assumption | (with_reducible refine fb_new ?_; first | rfl | exact sz1 _ _ | exact szB | exact szP) | (with_reducible refine fp_new ?_; first | rfl | exact sz1 _ _ | exact szB | exact szP) | (with_reducible refine lb_new ?_; first | rfl | exact sz1 _ _ | exact szB | exact szP) | (with_reducible refine lp_new ?_; first | rfl | exact sz1 _ _ | exact szB | exact szP) | with_reducible refine lb_set ?_ | with_reducible refine lp_set ?_ | with_reducible refine fb_alloc ?_ | with_reducible refine fp_alloc ?_ | with_reducible refine lb_alloc ?_ | with_reducible refine lp_alloc ?_ | with_reducible refine fp_setB ?_ ?_ | with_reducible refine fb_setP ?_ ?_ | with_reducible refine lp_setB ?_ ?_ | with_reducible refine lb_setP ?_ ?_ | with_reducible refine fb_drew ?_ | with_reducible refine fp_drew ?_ | with_reducible refine lb_drew ?_ | with_reducible refine lp_drew ?_ | with_reducible refine row_setB ?_ ?_ | with_reducible refine row_setP ?_ ?_ | with_reducible refine row_alloc ?_ | with_reducible refine row_drew ?_ | with_reducible exact Below.refl _ _ | with_reducible refine below_alloc ?_ _ | with_reducible refine below_drew1 ?_ | with_reducible refine below_set ?_ ?_ | exact Nat.le_refl _ | omega))
  case rest =>
    obtain ⟨rfl, hq, hbq⟩ := hcut
    have sq : w3.heap.size < wc.heap.size := blk_lt hq
    have hbxc := Lib.hid (boxes_later hbx3.out hbq)
    have hFc := Lib.hid (frm_later hF3.out hbq)
    have hBc := Lib.hid (below_step hB3.out hbq)
    have hqc := Lib.hid hq
    clear hq hbq hbx3 hF3 hB3 hQ hpart hpart2
    go_upto_region 11 with (go_at_call 12; refine (pixels 9 9 LF F T _ (by have := hLF.out; omega) (by have := hLF.out; omega) hFc.out).mono ?_; rintro e w4 ⟨gw, cw, rfl, ho4, hw4⟩)
    have hbx4 := Lib.hid (frm_pair (boxes_later (boxes_later hbxc.out hw4) (below_alloc (Below.refl _ _) (.cells #[.int .i64 9, .int .i64 9, .slice (some ⟨gw, 0, none⟩) LF.length cw] 30))) (frm_later (frm_later hFc.out hw4) (below_alloc (Below.refl _ _) (.cells #[.int .i64 9, .int .i64 9, .slice (some ⟨gw, 0, none⟩) LF.length cw] 30))) (lp_alloc (o := .cells #[.int .i64 9, .int .i64 9, .slice (some ⟨gw, 0, none⟩) LF.length cw] 30) (lp_later hqc.out hw4)) (lb_new (X := w4) (W := 9) (H := 9) (sl := .slice (some ⟨gw, 0, none⟩) LF.length cw) rfl) (row_alloc (o := .cells #[.int .i64 9, .int .i64 9, .slice (some ⟨gw, 0, none⟩) LF.length cw] 30) ho4) (below_alloc (below_step hBc.out hw4) (.cells #[.int .i64 9, .int .i64 9, .slice (some ⟨gw, 0, none⟩) LF.length cw] 30)))
    have s4 := hw4.size
    have sq4 : w4.heap.size < (w4.alloc (.cells #[.int .i64 9, .int .i64 9, .slice (some ⟨gw, 0, none⟩) LF.length cw] 30)).heap.size := by simp
    clear hbxc hFc hqc hBc hw4 ho4
    generalize w4.alloc (.cells #[.int .i64 9, .int .i64 9, .slice (some ⟨gw, 0, none⟩) LF.length cw] 30) = wv at *
    obtain ⟨hbx5, hF5, hq5, hb5, hr5, hB5⟩ := hbx4.out
    clear hbx4
    have a0 : wv.cell? ⟨w.heap.size, 0, none⟩ = some (.int .i64 AW) := blk_cell hbx5.1 0
    have a1 : wv.cell? ⟨w.heap.size, 1, none⟩ = some (.int .i64 AH) := blk_cell hbx5.1 1
    have a2 : wv.cell? ⟨w.heap.size, 2, none⟩ = some (.slice A k cap) := blk_cell hbx5.1 2
    have v0 : wv.cell? ⟨w.heap.size + 1 + 1 + 1, 0, none⟩ = some (.int .u8 t0) := blk_cell hbx5.2.2.2 0
    have v1 : wv.cell? ⟨w.heap.size + 1 + 1 + 1, 1, none⟩ = some (.int .u8 t1) := blk_cell hbx5.2.2.2 1
    have v2 : wv.cell? ⟨w.heap.size + 1 + 1 + 1, 2, none⟩ = some (.int .u8 t2) := blk_cell hbx5.2.2.2 2
    have v3 : wv.cell? ⟨w.heap.size + 1 + 1 + 1, 3, none⟩ = some (.int .u8 t3) := blk_cell hbx5.2.2.2 3
    have v4 : wv.cell? ⟨w.heap.size + 1 + 1 + 1, 4, none⟩ = some (.int .u8 t4) := blk_cell hbx5.2.2.2 4
    have v5 : wv.cell? ⟨w.heap.size + 1 + 1 + 1, 5, none⟩ = some (.int .u8 t5) := blk_cell hbx5.2.2.2 5
    have v6 : wv.cell? ⟨w.heap.size + 1 + 1 + 1, 6, none⟩ = some (.int .u8 t6) := blk_cell hbx5.2.2.2 6

    have hbx5H := Lib.hid hbx5
    have hF5H := Lib.hid hF5
    have hq5H := Lib.hid hq5
    have hb5H := Lib.hid hb5
    have hr5H := Lib.hid hr5
    have hB5H := Lib.hid hB5
    clear hbx5 hF5 hq5 hb5 hr5 hB5
    go_region_held3 (fun w' => w'.cell? ⟨w.heap.size, 0, none⟩ = some (.int .i64 AW) ∧ w'.cell? ⟨w.heap.size, 1, none⟩ = some (.int .i64 AH) ∧ w'.cell? ⟨w.heap.size, 2, none⟩ = some (.slice A k cap) ∧ w'.cell? ⟨w.heap.size + 1 + 1 + 1, 0, none⟩ = some (.int .u8 t0) ∧ w'.cell? ⟨w.heap.size + 1 + 1 + 1, 1, none⟩ = some (.int .u8 t1) ∧ w'.cell? ⟨w.heap.size + 1 + 1 + 1, 2, none⟩ = some (.int .u8 t2) ∧ w'.cell? ⟨w.heap.size + 1 + 1 + 1, 3, none⟩ = some (.int .u8 t3) ∧ w'.cell? ⟨w.heap.size + 1 + 1 + 1, 4, none⟩ = some (.int .u8 t4) ∧ w'.cell? ⟨w.heap.size + 1 + 1 + 1, 5, none⟩ = some (.int .u8 t5) ∧ w'.cell? ⟨w.heap.size + 1 + 1 + 1, 6, none⟩ = some (.int .u8 t6))
      ((go_split_ands; (repeat' apply And.intro) <;> (repeat' (first | with_reducible assumption | with_reducible refine keepD ?_ | (refine cell_later hbq ?_; assumption)))))
      (first
        | (go_at_call 14; refine (HT.out _).mono ?_; rintro e x1 ⟨rfl, hbq⟩; have Bx1 : Below wv.heap.size wv x1 := below_step (by (repeat' (first | with_reducible assumption | with_reducible exact Below.refl _ _ | with_reducible refine below_alloc ?_ _ | with_reducible refine below_drew1 ?_ | with_reducible refine below_set ?_ ?_ | omega))) hbq)
        | (go_at_call 15; refine (HD1.out F T _ (below_step hB5H.out Bx1) (by omega) (frm_later hF5H.out Bx1)).mono ?_; rintro e x2 ⟨rfl, ⟨L1, hL1, hL1b, hF1, hL1e⟩, hS1⟩; clear hL1 hL1b hF1 hL1e; have kx0 : x2.cell? ⟨w.heap.size, 0, none⟩ = some (.int .i64 AW) := hS1.cell (a := ⟨w.heap.size, 0, none⟩) (by show w.heap.size ≠ T; omega) (cell_later Bx1 a0); have kx1 : x2.cell? ⟨w.heap.size, 1, none⟩ = some (.int .i64 AH) := hS1.cell (a := ⟨w.heap.size, 1, none⟩) (by show w.heap.size ≠ T; omega) (cell_later Bx1 a1); have kx2 : x2.cell? ⟨w.heap.size, 2, none⟩ = some (.slice A k cap) := hS1.cell (a := ⟨w.heap.size, 2, none⟩) (by show w.heap.size ≠ T; omega) (cell_later Bx1 a2); have kx3 : x2.cell? ⟨w.heap.size + 1 + 1 + 1, 0, none⟩ = some (.int .u8 t0) := hS1.cell (a := ⟨w.heap.size + 1 + 1 + 1, 0, none⟩) (by show w.heap.size + 1 + 1 + 1 ≠ T; omega) (cell_later Bx1 v0); have kx4 : x2.cell? ⟨w.heap.size + 1 + 1 + 1, 1, none⟩ = some (.int .u8 t1) := hS1.cell (a := ⟨w.heap.size + 1 + 1 + 1, 1, none⟩) (by show w.heap.size + 1 + 1 + 1 ≠ T; omega) (cell_later Bx1 v1); have kx5 : x2.cell? ⟨w.heap.size + 1 + 1 + 1, 2, none⟩ = some (.int .u8 t2) := hS1.cell (a := ⟨w.heap.size + 1 + 1 + 1, 2, none⟩) (by show w.heap.size + 1 + 1 + 1 ≠ T; omega) (cell_later Bx1 v2); have kx6 : x2.cell? ⟨w.heap.size + 1 + 1 + 1, 3, none⟩ = some (.int .u8 t3) := hS1.cell (a := ⟨w.heap.size + 1 + 1 + 1, 3, none⟩) (by show w.heap.size + 1 + 1 + 1 ≠ T; omega) (cell_later Bx1 v3); have kx7 : x2.cell? ⟨w.heap.size + 1 + 1 + 1, 4, none⟩ = some (.int .u8 t4) := hS1.cell (a := ⟨w.heap.size + 1 + 1 + 1, 4, none⟩) (by show w.heap.size + 1 + 1 + 1 ≠ T; omega) (cell_later Bx1 v4); have kx8 : x2.cell? ⟨w.heap.size + 1 + 1 + 1, 5, none⟩ = some (.int .u8 t5) := hS1.cell (a := ⟨w.heap.size + 1 + 1 + 1, 5, none⟩) (by show w.heap.size + 1 + 1 + 1 ≠ T; omega) (cell_later Bx1 v5); have kx9 : x2.cell? ⟨w.heap.size + 1 + 1 + 1, 6, none⟩ = some (.int .u8 t6) := hS1.cell (a := ⟨w.heap.size + 1 + 1 + 1, 6, none⟩) (by show w.heap.size + 1 + 1 + 1 ≠ T; omega) (cell_later Bx1 v6)))
    have lwv : w4.heap.size < wv.heap.size := sq4
    have hbx6 := Lib.hid (boxes_sv (boxes_later hbx5H.out Bx1) hS1 sT)
    have hq6 := Lib.hid ((hS1.block _ (blk_lt (lp_later hq5H.out Bx1)) (by omega)).trans (lp_later hq5H.out Bx1) : LaidP x2 w3.heap.size Q0 Q1 Q2 Q3 Q4 Q5 t6)
    have hb6 := Lib.hid ((hS1.block _ (blk_lt (lb_later hb5H.out Bx1)) (by omega)).trans (lb_later hb5H.out Bx1) : LaidB x2 w4.heap.size 9 9 (.slice (some ⟨gw, 0, none⟩) LF.length cw))
    have gwB := own_base hr5H.out gw rfl
    have hr6 := Lib.hid (own_less (row_sv (row_later Bx1 hr5H.out) hS1 (by omega)) (Nat.zero_le _) : Row x2 0 gw cw LF)
    have gwl : gw < x2.heap.size := own_lt hr6.out gw rfl
    have hB6 := Lib.hid (sv_below (below_step hB5H.out Bx1) hS1 (by omega) (by have := Bx1.size; have := hB5H.out.size; omega))
    have sx2 : wv.heap.size ≤ x2.heap.size := Nat.le_trans Bx1.size hS1.size
    have hBx2 := hB6.out
    clear a0 a1 a2 v0 v1 v2 v3 v4 v5 v6 hbx5H hF5H hq5H hb5H hr5H hB5H hS1 Bx1 gwB
    have a0 := kx0
    have a1 := kx1
    have a2 := kx2
    have v0 := kx3
    have v1 := kx4
    have v2 := kx5
    have v3 := kx6
    have v4 := kx7
    have v5 := kx8
    have v6 := kx9
    clear kx0 kx1 kx2 kx3 kx4 kx5 kx6 kx7 kx8 kx9
    have he1 : er true = 0 := rfl
    have he2 : er false = 4 := rfl
    go_upto_region 12 with fail
    go_cut [72] (fun s72 wr => s72 = .bool false ∧ Below x2.heap.size x2 wr)
    case first =>
      cases m1
      case false =>
        refine wp_region_held_drew (S := fun w' => w'.cell? ⟨w.heap.size, 0, none⟩ = some (.int .i64 AW) ∧ w'.cell? ⟨w.heap.size, 1, none⟩ = some (.int .i64 AH) ∧ w'.cell? ⟨w.heap.size, 2, none⟩ = some (.slice A k cap) ∧ w'.cell? ⟨w.heap.size + 1 + 1 + 1, 0, none⟩ = some (.int .u8 t0) ∧ w'.cell? ⟨w.heap.size + 1 + 1 + 1, 1, none⟩ = some (.int .u8 t1) ∧ w'.cell? ⟨w.heap.size + 1 + 1 + 1, 2, none⟩ = some (.int .u8 t2) ∧ w'.cell? ⟨w.heap.size + 1 + 1 + 1, 3, none⟩ = some (.int .u8 t3) ∧ w'.cell? ⟨w.heap.size + 1 + 1 + 1, 4, none⟩ = some (.int .u8 t4) ∧ w'.cell? ⟨w.heap.size + 1 + 1 + 1, 5, none⟩ = some (.int .u8 t5) ∧ w'.cell? ⟨w.heap.size + 1 + 1 + 1, 6, none⟩ = some (.int .u8 t6)) (by kernel_rfl) ⟨a0, a1, a2, v0, v1, v2, v3, v4, v5, v6⟩ (fun hHeld0 => ?_)
        refine wpAnyH_take (i := 0) (oi := { dst := some 57, op := Go.Op.move (Go.Operand.tmp 17), type := 43, pos := "law.go:105", after := #[], guard := none }) (v := ?v0pf) rfl (by kernel_rfl) (by kernel_rfl) (by kernel_rfl) (fun _ _ _ h => h) (Or.inl ⟨by rfl, ?hy0pf⟩) (by assumption) ?rest0pf
        case hy0pf => (intro w hSw; (try dsimp only at hSw); go_simp; try with_reducible rfl)
        try simp only [Act.put, List.setIfInBounds_toArray, List.set_cons_zero, List.set_cons_succ]
        refine wpAnyH_take (i := 1) (oi := { dst := some 58, op := Go.Op.binOp Go.BinOp.eql 43 (Go.Operand.tmp 57) (Go.Operand.const (Go.Value.int Go.IntKind.i64 0)) 43, type := 4, pos := "law.go:105", after := #[{ on := 0, ground := Go.Ground.data }], guard := none }) (v := ?v1pf) rfl (by kernel_rfl) (by kernel_rfl) (by kernel_rfl) (fun _ _ _ h => h) (Or.inl ⟨by rfl, ?hy1pf⟩) (by assumption) ?rest1pf
        case hy1pf => (intro w hSw; (try dsimp only at hSw); go_simp; try with_reducible rfl)
        try simp only [Act.put, List.setIfInBounds_toArray, List.set_cons_zero, List.set_cons_succ]
        refine wpAnyH_take (i := 2) (oi := { dst := some 59, op := Go.Op.move (Go.Operand.tmp 15), type := 50, pos := "law.go:105", after := #[], guard := none }) (v := ?v2pf) rfl (by kernel_rfl) (by kernel_rfl) (by kernel_rfl) (fun _ _ _ h => h) (Or.inl ⟨by rfl, ?hy2pf⟩) (by assumption) ?rest2pf
        case hy2pf => (intro w hSw; (try dsimp only at hSw); go_simp; try with_reducible rfl)
        try simp only [Act.put, List.setIfInBounds_toArray, List.set_cons_zero, List.set_cons_succ]
        refine wpAnyH_take (i := 3) (oi := { dst := some 60, op := Go.Op.load 30 (Go.Operand.tmp 6), type := 30, pos := "law.go:105", after := #[], guard := none }) (v := ?v3pf) rfl (by kernel_rfl) (by kernel_rfl) (by kernel_rfl) (fun _ _ _ h => h) (Or.inl ⟨by rfl, ?hy3pf⟩) (by assumption) ?rest3pf
        case hy3pf => (intro w hSw; (try dsimp only at hSw); go_simp; try with_reducible rfl)
        try simp only [Act.put, List.setIfInBounds_toArray, List.set_cons_zero, List.set_cons_succ]
        refine wpAnyH_take (i := 4) (oi := { dst := some 61, op := Go.Op.load 41 (Go.Operand.tmp 9), type := 41, pos := "law.go:105", after := #[], guard := none }) (v := ?v4pf) rfl (by kernel_rfl) (by kernel_rfl) (by kernel_rfl) (fun _ _ _ h => h) (Or.inl ⟨by rfl, ?hy4pf⟩) (by assumption) ?rest4pf
        case hy4pf => (intro w hSw; (try dsimp only at hSw); go_simp; try with_reducible rfl)
        try simp only [Act.put, List.setIfInBounds_toArray, List.set_cons_zero, List.set_cons_succ]
        refine wpAnyH_ready (rs := [5]) (by kernel_rfl) (by simp) ?_
        refine AllReadyH.cons (o := { dst := some 62, op := Go.Op.call { callee := Go.Callee.value (Go.Operand.func 14), args := #[Go.Operand.tmp 61], argTypes := #[41] }, type := 39, pos := "law.go:105", after := #[{ on := 4, ground := Go.Ground.data }], guard := none }) rfl (fun K hK => ?_) AllReadyH.nil
        go_simp
        refine (HT.out _).mono ?_; rintro e y1 ⟨rfl, hbq⟩
        have By1 : Below x2.heap.size x2 y1 := below_step (below_drew1 (Below.refl _ _)) hbq
        go_wp2_with fail
        refine hK.out _ _ ?_ (fun hHeld1 => ?_)
        · (try dsimp only)
          (go_split_ands; (repeat' apply And.intro) <;> (repeat' (first | with_reducible assumption | (refine cell_later hbq ?_; assumption))))
        clear hK K
        try clear hHeld0
        try simp only [Act.put, List.setIfInBounds_toArray, List.set_cons_zero, List.set_cons_succ]
        clear hbq
        refine wpAnyH_ready (rs := [6]) (by kernel_rfl) (by simp) ?_
        refine AllReadyH.cons (o := { dst := some 63, op := Go.Op.call { callee := Go.Callee.value (Go.Operand.tmp 59), args := #[Go.Operand.tmp 60, Go.Operand.tmp 62], argTypes := #[30, 39] }, type := 4, pos := "law.go:105", after := #[{ on := 2, ground := Go.Ground.data }, { on := 3, ground := Go.Ground.data }, { on := 5, ground := Go.Ground.data }, { on := 5, ground := Go.Ground.chain }], guard := none }) rfl (fun K hK => ?_) AllReadyH.nil
        go_simp
        refine (HM1.out _ (below_step hBx2 By1)).mono ?_; rintro e y2 ⟨rfl, hbq⟩
        have By2 : Below x2.heap.size x2 y2 := below_step By1 hbq
        go_wp2_with fail
        refine hK.out _ _ ?_ (fun hHeld2 => ?_)
        · (try dsimp only)
          (go_split_ands; (repeat' apply And.intro) <;> (repeat' (first | with_reducible assumption | (refine cell_later hbq ?_; assumption))))
        clear hK K
        try clear hHeld1
        try simp only [Act.put, List.setIfInBounds_toArray, List.set_cons_zero, List.set_cons_succ]
        clear hbq
        refine wpAnyH_take (i := 7) (oi := { dst := some 64, op := Go.Op.binOp Go.BinOp.neq 4 (Go.Operand.tmp 58) (Go.Operand.tmp 63) 4, type := 4, pos := "law.go:105", after := #[{ on := 1, ground := Go.Ground.data }, { on := 6, ground := Go.Ground.data }], guard := none }) (v := ?v7pf) rfl (by kernel_rfl) (by kernel_rfl) (by kernel_rfl) (fun _ _ _ h => h) (Or.inl ⟨by rfl, ?hy7pf⟩) (by assumption) ?rest7pf
        case hy7pf => (intro w hSw; (try dsimp only at hSw); go_simp; try with_reducible rfl)
        try simp only [Act.put, List.setIfInBounds_toArray, List.set_cons_zero, List.set_cons_succ]
        refine wpAnyH_take (i := 8) (oi := { dst := some 65, op := Go.Op.move (Go.Operand.tmp 64), type := 4, pos := "law.go:105", after := #[{ on := 7, ground := Go.Ground.data }, { on := 6, ground := Go.Ground.chain }], guard := none }) (v := ?v8pf) rfl (by kernel_rfl) (by kernel_rfl) (by kernel_rfl) (fun _ _ _ h => h) (Or.inl ⟨by rfl, ?hy8pf⟩) (by assumption) ?rest8pf
        case hy8pf => (intro w hSw; (try dsimp only at hSw); go_simp; try with_reducible rfl)
        try simp only [Act.put, List.setIfInBounds_toArray, List.set_cons_zero, List.set_cons_succ]
        refine wpAnyH_take (i := 9) (oi := { dst := some 66, op := Go.Op.move (Go.Operand.tmp 17), type := 43, pos := "law.go:105", after := #[{ on := 8, ground := Go.Ground.guard }], guard := some (8, false) }) (v := ?v9pf) rfl (by kernel_rfl) (by kernel_rfl) (by kernel_rfl) (fun _ _ _ h => h) (Or.inl ⟨by rfl, ?hy9pf⟩) (by assumption) ?rest9pf
        case hy9pf => (intro w hSw; (try dsimp only at hSw); go_simp; try with_reducible rfl)
        try simp only [Act.put, List.setIfInBounds_toArray, List.set_cons_zero, List.set_cons_succ]
        refine wpAnyH_take (i := 10) (oi := { dst := some 67, op := Go.Op.binOp Go.BinOp.neq 43 (Go.Operand.tmp 66) (Go.Operand.const (Go.Value.int Go.IntKind.i64 0)) 43, type := 4, pos := "law.go:105", after := #[{ on := 9, ground := Go.Ground.data }, { on := 8, ground := Go.Ground.guard }], guard := some (8, false) }) (v := ?v10pf) rfl (by kernel_rfl) (by kernel_rfl) (by kernel_rfl) (fun _ _ _ h => h) (Or.inl ⟨by rfl, ?hy10pf⟩) (by assumption) ?rest10pf
        case hy10pf => (intro w hSw; (try dsimp only at hSw); go_simp; try with_reducible rfl)
        try simp only [Act.put, List.setIfInBounds_toArray, List.set_cons_zero, List.set_cons_succ]
        refine wpAnyH_take (i := 11) (oi := { dst := some 68, op := Go.Op.move (Go.Operand.tmp 67), type := 4, pos := "law.go:105", after := #[{ on := 10, ground := Go.Ground.data }, { on := 8, ground := Go.Ground.chain }, { on := 8, ground := Go.Ground.guard }], guard := some (8, false) }) (v := ?v11pf) rfl (by kernel_rfl) (by kernel_rfl) (by kernel_rfl) (fun _ _ _ h => h) (Or.inl ⟨by rfl, ?hy11pf⟩) (by assumption) ?rest11pf
        case hy11pf => (intro w hSw; (try dsimp only at hSw); go_simp; try with_reducible rfl)
        try simp only [Act.put, List.setIfInBounds_toArray, List.set_cons_zero, List.set_cons_succ]
        refine wpAnyH_take (i := 12) (oi := { dst := some 69, op := Go.Op.move (Go.Operand.tmp 17), type := 43, pos := "law.go:105", after := #[{ on := 11, ground := Go.Ground.guard }], guard := some (11, true) }) (v := ?v12pf) rfl (by kernel_rfl) (by kernel_rfl) (by kernel_rfl) (fun _ _ _ h => h) (Or.inl ⟨by rfl, ?hy12pf⟩) (by assumption) ?rest12pf
        case hy12pf => (intro w hSw; (try dsimp only at hSw); go_simp; try with_reducible rfl)
        try simp only [Act.put, List.setIfInBounds_toArray, List.set_cons_zero, List.set_cons_succ]
        refine wpAnyH_take (i := 13) (oi := { dst := some 70, op := Go.Op.binOp Go.BinOp.neq 43 (Go.Operand.tmp 69) (Go.Operand.const (Go.Value.int Go.IntKind.i64 4)) 43, type := 4, pos := "law.go:105", after := #[{ on := 12, ground := Go.Ground.data }, { on := 11, ground := Go.Ground.guard }], guard := some (11, true) }) (v := ?v13pf) rfl (by kernel_rfl) (by kernel_rfl) (by kernel_rfl) (fun _ _ _ h => h) (Or.inl ⟨by rfl, ?hy13pf⟩) (by assumption) ?rest13pf
        case hy13pf => (intro w hSw; (try dsimp only at hSw); go_simp; try with_reducible rfl)
        try simp only [Act.put, List.setIfInBounds_toArray, List.set_cons_zero, List.set_cons_succ]
        refine wpAnyH_take (i := 14) (oi := { dst := some 71, op := Go.Op.pick (Go.Operand.tmp 68) (Go.Operand.tmp 70) (Go.Operand.const (Go.Value.bool false)), type := 4, pos := "law.go:105", after := #[{ on := 11, ground := Go.Ground.data }, { on := 13, ground := Go.Ground.data }, { on := 8, ground := Go.Ground.guard }], guard := some (8, false) }) (v := ?v14pf) rfl (by kernel_rfl) (by kernel_rfl) (by kernel_rfl) (fun _ _ _ h => h) (Or.inl ⟨by rfl, ?hy14pf⟩) (by assumption) ?rest14pf
        case hy14pf => (intro w hSw; (try dsimp only at hSw); go_simp; try with_reducible rfl)
        try simp only [Act.put, List.setIfInBounds_toArray, List.set_cons_zero, List.set_cons_succ]
        refine wpAnyH_take (i := 15) (oi := { dst := some 72, op := Go.Op.pick (Go.Operand.tmp 65) (Go.Operand.const (Go.Value.bool true)) (Go.Operand.tmp 71), type := 4, pos := "law.go:105", after := #[{ on := 8, ground := Go.Ground.data }, { on := 14, ground := Go.Ground.data }], guard := none }) (v := ?v15pf) rfl (by kernel_rfl) (by kernel_rfl) (by kernel_rfl) (fun _ _ _ h => h) (Or.inl ⟨by rfl, ?hy15pf⟩) (by assumption) ?rest15pf
        case hy15pf => (intro w hSw; (try dsimp only at hSw); go_simp; try with_reducible rfl)
        try simp only [Act.put, List.setIfInBounds_toArray, List.set_cons_zero, List.set_cons_succ]
        refine wpAnyH_done (by kernel_rfl) ?_ _
        go_wp2_with fail
        go_meet
        exact ⟨rfl, By2⟩
      case true =>
        refine wp_region_held_drew (S := fun w' => w'.cell? ⟨w.heap.size, 0, none⟩ = some (.int .i64 AW) ∧ w'.cell? ⟨w.heap.size, 1, none⟩ = some (.int .i64 AH) ∧ w'.cell? ⟨w.heap.size, 2, none⟩ = some (.slice A k cap) ∧ w'.cell? ⟨w.heap.size + 1 + 1 + 1, 0, none⟩ = some (.int .u8 t0) ∧ w'.cell? ⟨w.heap.size + 1 + 1 + 1, 1, none⟩ = some (.int .u8 t1) ∧ w'.cell? ⟨w.heap.size + 1 + 1 + 1, 2, none⟩ = some (.int .u8 t2) ∧ w'.cell? ⟨w.heap.size + 1 + 1 + 1, 3, none⟩ = some (.int .u8 t3) ∧ w'.cell? ⟨w.heap.size + 1 + 1 + 1, 4, none⟩ = some (.int .u8 t4) ∧ w'.cell? ⟨w.heap.size + 1 + 1 + 1, 5, none⟩ = some (.int .u8 t5) ∧ w'.cell? ⟨w.heap.size + 1 + 1 + 1, 6, none⟩ = some (.int .u8 t6)) (by kernel_rfl) ⟨a0, a1, a2, v0, v1, v2, v3, v4, v5, v6⟩ (fun hHeld0 => ?_)
        refine wpAnyH_take (i := 0) (oi := { dst := some 57, op := Go.Op.move (Go.Operand.tmp 17), type := 43, pos := "law.go:105", after := #[], guard := none }) (v := ?v0pt) rfl (by kernel_rfl) (by kernel_rfl) (by kernel_rfl) (fun _ _ _ h => h) (Or.inl ⟨by rfl, ?hy0pt⟩) (by assumption) ?rest0pt
        case hy0pt => (intro w hSw; (try dsimp only at hSw); go_simp; try with_reducible rfl)
        try simp only [Act.put, List.setIfInBounds_toArray, List.set_cons_zero, List.set_cons_succ]
        refine wpAnyH_take (i := 1) (oi := { dst := some 58, op := Go.Op.binOp Go.BinOp.eql 43 (Go.Operand.tmp 57) (Go.Operand.const (Go.Value.int Go.IntKind.i64 0)) 43, type := 4, pos := "law.go:105", after := #[{ on := 0, ground := Go.Ground.data }], guard := none }) (v := ?v1pt) rfl (by kernel_rfl) (by kernel_rfl) (by kernel_rfl) (fun _ _ _ h => h) (Or.inl ⟨by rfl, ?hy1pt⟩) (by assumption) ?rest1pt
        case hy1pt => (intro w hSw; (try dsimp only at hSw); go_simp; try with_reducible rfl)
        try simp only [Act.put, List.setIfInBounds_toArray, List.set_cons_zero, List.set_cons_succ]
        refine wpAnyH_take (i := 2) (oi := { dst := some 59, op := Go.Op.move (Go.Operand.tmp 15), type := 50, pos := "law.go:105", after := #[], guard := none }) (v := ?v2pt) rfl (by kernel_rfl) (by kernel_rfl) (by kernel_rfl) (fun _ _ _ h => h) (Or.inl ⟨by rfl, ?hy2pt⟩) (by assumption) ?rest2pt
        case hy2pt => (intro w hSw; (try dsimp only at hSw); go_simp; try with_reducible rfl)
        try simp only [Act.put, List.setIfInBounds_toArray, List.set_cons_zero, List.set_cons_succ]
        refine wpAnyH_take (i := 3) (oi := { dst := some 60, op := Go.Op.load 30 (Go.Operand.tmp 6), type := 30, pos := "law.go:105", after := #[], guard := none }) (v := ?v3pt) rfl (by kernel_rfl) (by kernel_rfl) (by kernel_rfl) (fun _ _ _ h => h) (Or.inl ⟨by rfl, ?hy3pt⟩) (by assumption) ?rest3pt
        case hy3pt => (intro w hSw; (try dsimp only at hSw); go_simp; try with_reducible rfl)
        try simp only [Act.put, List.setIfInBounds_toArray, List.set_cons_zero, List.set_cons_succ]
        refine wpAnyH_take (i := 4) (oi := { dst := some 61, op := Go.Op.load 41 (Go.Operand.tmp 9), type := 41, pos := "law.go:105", after := #[], guard := none }) (v := ?v4pt) rfl (by kernel_rfl) (by kernel_rfl) (by kernel_rfl) (fun _ _ _ h => h) (Or.inl ⟨by rfl, ?hy4pt⟩) (by assumption) ?rest4pt
        case hy4pt => (intro w hSw; (try dsimp only at hSw); go_simp; try with_reducible rfl)
        try simp only [Act.put, List.setIfInBounds_toArray, List.set_cons_zero, List.set_cons_succ]
        refine wpAnyH_ready (rs := [5]) (by kernel_rfl) (by simp) ?_
        refine AllReadyH.cons (o := { dst := some 62, op := Go.Op.call { callee := Go.Callee.value (Go.Operand.func 14), args := #[Go.Operand.tmp 61], argTypes := #[41] }, type := 39, pos := "law.go:105", after := #[{ on := 4, ground := Go.Ground.data }], guard := none }) rfl (fun K hK => ?_) AllReadyH.nil
        go_simp
        refine (HT.out _).mono ?_; rintro e y1 ⟨rfl, hbq⟩
        have By1 : Below x2.heap.size x2 y1 := below_step (below_drew1 (Below.refl _ _)) hbq
        go_wp2_with fail
        refine hK.out _ _ ?_ (fun hHeld1 => ?_)
        · (try dsimp only)
          (go_split_ands; (repeat' apply And.intro) <;> (repeat' (first | with_reducible assumption | (refine cell_later hbq ?_; assumption))))
        clear hK K
        try clear hHeld0
        try simp only [Act.put, List.setIfInBounds_toArray, List.set_cons_zero, List.set_cons_succ]
        clear hbq
        refine wpAnyH_ready (rs := [6]) (by kernel_rfl) (by simp) ?_
        refine AllReadyH.cons (o := { dst := some 63, op := Go.Op.call { callee := Go.Callee.value (Go.Operand.tmp 59), args := #[Go.Operand.tmp 60, Go.Operand.tmp 62], argTypes := #[30, 39] }, type := 4, pos := "law.go:105", after := #[{ on := 2, ground := Go.Ground.data }, { on := 3, ground := Go.Ground.data }, { on := 5, ground := Go.Ground.data }, { on := 5, ground := Go.Ground.chain }], guard := none }) rfl (fun K hK => ?_) AllReadyH.nil
        go_simp
        refine (HM1.out _ (below_step hBx2 By1)).mono ?_; rintro e y2 ⟨rfl, hbq⟩
        have By2 : Below x2.heap.size x2 y2 := below_step By1 hbq
        go_wp2_with fail
        refine hK.out _ _ ?_ (fun hHeld2 => ?_)
        · (try dsimp only)
          (go_split_ands; (repeat' apply And.intro) <;> (repeat' (first | with_reducible assumption | (refine cell_later hbq ?_; assumption))))
        clear hK K
        try clear hHeld1
        try simp only [Act.put, List.setIfInBounds_toArray, List.set_cons_zero, List.set_cons_succ]
        clear hbq
        refine wpAnyH_take (i := 7) (oi := { dst := some 64, op := Go.Op.binOp Go.BinOp.neq 4 (Go.Operand.tmp 58) (Go.Operand.tmp 63) 4, type := 4, pos := "law.go:105", after := #[{ on := 1, ground := Go.Ground.data }, { on := 6, ground := Go.Ground.data }], guard := none }) (v := ?v7pt) rfl (by kernel_rfl) (by kernel_rfl) (by kernel_rfl) (fun _ _ _ h => h) (Or.inl ⟨by rfl, ?hy7pt⟩) (by assumption) ?rest7pt
        case hy7pt => (intro w hSw; (try dsimp only at hSw); go_simp; try with_reducible rfl)
        try simp only [Act.put, List.setIfInBounds_toArray, List.set_cons_zero, List.set_cons_succ]
        refine wpAnyH_take (i := 8) (oi := { dst := some 65, op := Go.Op.move (Go.Operand.tmp 64), type := 4, pos := "law.go:105", after := #[{ on := 7, ground := Go.Ground.data }, { on := 6, ground := Go.Ground.chain }], guard := none }) (v := ?v8pt) rfl (by kernel_rfl) (by kernel_rfl) (by kernel_rfl) (fun _ _ _ h => h) (Or.inl ⟨by rfl, ?hy8pt⟩) (by assumption) ?rest8pt
        case hy8pt => (intro w hSw; (try dsimp only at hSw); go_simp; try with_reducible rfl)
        try simp only [Act.put, List.setIfInBounds_toArray, List.set_cons_zero, List.set_cons_succ]
        refine wpAnyH_take (i := 9) (oi := { dst := some 66, op := Go.Op.move (Go.Operand.tmp 17), type := 43, pos := "law.go:105", after := #[{ on := 8, ground := Go.Ground.guard }], guard := some (8, false) }) (v := ?v9pt) rfl (by kernel_rfl) (by kernel_rfl) (by kernel_rfl) (fun _ _ _ h => h) (Or.inl ⟨by rfl, ?hy9pt⟩) (by assumption) ?rest9pt
        case hy9pt => (intro w hSw; (try dsimp only at hSw); go_simp; try with_reducible rfl)
        try simp only [Act.put, List.setIfInBounds_toArray, List.set_cons_zero, List.set_cons_succ]
        refine wpAnyH_take (i := 10) (oi := { dst := some 67, op := Go.Op.binOp Go.BinOp.neq 43 (Go.Operand.tmp 66) (Go.Operand.const (Go.Value.int Go.IntKind.i64 0)) 43, type := 4, pos := "law.go:105", after := #[{ on := 9, ground := Go.Ground.data }, { on := 8, ground := Go.Ground.guard }], guard := some (8, false) }) (v := ?v10pt) rfl (by kernel_rfl) (by kernel_rfl) (by kernel_rfl) (fun _ _ _ h => h) (Or.inl ⟨by rfl, ?hy10pt⟩) (by assumption) ?rest10pt
        case hy10pt => (intro w hSw; (try dsimp only at hSw); go_simp; try with_reducible rfl)
        try simp only [Act.put, List.setIfInBounds_toArray, List.set_cons_zero, List.set_cons_succ]
        refine wpAnyH_take (i := 11) (oi := { dst := some 68, op := Go.Op.move (Go.Operand.tmp 67), type := 4, pos := "law.go:105", after := #[{ on := 10, ground := Go.Ground.data }, { on := 8, ground := Go.Ground.chain }, { on := 8, ground := Go.Ground.guard }], guard := some (8, false) }) (v := ?v11pt) rfl (by kernel_rfl) (by kernel_rfl) (by kernel_rfl) (fun _ _ _ h => h) (Or.inl ⟨by rfl, ?hy11pt⟩) (by assumption) ?rest11pt
        case hy11pt => (intro w hSw; (try dsimp only at hSw); go_simp; try with_reducible rfl)
        try simp only [Act.put, List.setIfInBounds_toArray, List.set_cons_zero, List.set_cons_succ]
        refine wpAnyH_take (i := 12) (oi := { dst := some 69, op := Go.Op.move (Go.Operand.tmp 17), type := 43, pos := "law.go:105", after := #[{ on := 11, ground := Go.Ground.guard }], guard := some (11, true) }) (v := undef) rfl (by kernel_rfl) (by kernel_rfl) (by kernel_rfl) (fun _ _ _ h => h) (Or.inr ⟨by rfl, rfl⟩) (by assumption) ?_
        try simp only [Act.put, List.setIfInBounds_toArray, List.set_cons_zero, List.set_cons_succ]
        refine wpAnyH_take (i := 13) (oi := { dst := some 70, op := Go.Op.binOp Go.BinOp.neq 43 (Go.Operand.tmp 69) (Go.Operand.const (Go.Value.int Go.IntKind.i64 4)) 43, type := 4, pos := "law.go:105", after := #[{ on := 12, ground := Go.Ground.data }, { on := 11, ground := Go.Ground.guard }], guard := some (11, true) }) (v := undef) rfl (by kernel_rfl) (by kernel_rfl) (by kernel_rfl) (fun _ _ _ h => h) (Or.inr ⟨by rfl, rfl⟩) (by assumption) ?_
        try simp only [Act.put, List.setIfInBounds_toArray, List.set_cons_zero, List.set_cons_succ]
        refine wpAnyH_take (i := 14) (oi := { dst := some 71, op := Go.Op.pick (Go.Operand.tmp 68) (Go.Operand.tmp 70) (Go.Operand.const (Go.Value.bool false)), type := 4, pos := "law.go:105", after := #[{ on := 11, ground := Go.Ground.data }, { on := 13, ground := Go.Ground.data }, { on := 8, ground := Go.Ground.guard }], guard := some (8, false) }) (v := ?v14pt) rfl (by kernel_rfl) (by kernel_rfl) (by kernel_rfl) (fun _ _ _ h => h) (Or.inl ⟨by rfl, ?hy14pt⟩) (by assumption) ?rest14pt
        case hy14pt => (intro w hSw; (try dsimp only at hSw); go_simp; try with_reducible rfl)
        try simp only [Act.put, List.setIfInBounds_toArray, List.set_cons_zero, List.set_cons_succ]
        refine wpAnyH_take (i := 15) (oi := { dst := some 72, op := Go.Op.pick (Go.Operand.tmp 65) (Go.Operand.const (Go.Value.bool true)) (Go.Operand.tmp 71), type := 4, pos := "law.go:105", after := #[{ on := 8, ground := Go.Ground.data }, { on := 14, ground := Go.Ground.data }], guard := none }) (v := ?v15pt) rfl (by kernel_rfl) (by kernel_rfl) (by kernel_rfl) (fun _ _ _ h => h) (Or.inl ⟨by rfl, ?hy15pt⟩) (by assumption) ?rest15pt
        case hy15pt => (intro w hSw; (try dsimp only at hSw); go_simp; try with_reducible rfl)
        try simp only [Act.put, List.setIfInBounds_toArray, List.set_cons_zero, List.set_cons_succ]
        refine wpAnyH_done (by kernel_rfl) ?_ _
        go_wp2_with fail
        go_meet
        exact ⟨rfl, By2⟩

    case rest =>
      obtain ⟨rfl, hby⟩ := hcut
      have hbx7 := Lib.hid (boxes_later hbx6.out hby)
      have hq7 := Lib.hid (lp_later hq6.out hby)
      have hb7 := Lib.hid (lb_later hb6.out hby)
      have hr7 := Lib.hid (row_later hby hr6.out)
      have hB7 := Lib.hid (below_step hB6.out hby)
      have s7 := hby.size
      clear hby hbx6 hq6 hb6 hr6 hB6 a0 a1 a2 v0 v1 v2 v3 v4 v5 v6 HD1 HM1 hBx2
      go_upto_region 15 with (go_at_call 10; refine (HO.out _).mono ?_; rintro e z1 ⟨F2, T2, rfl, hzF2, hzT2, hF2, hbq⟩)
      have hbx8 := Lib.hid (boxes_later hbx7.out hbq)
      have hq8 := Lib.hid (lp_later hq7.out hbq)
      have hb8 := Lib.hid (lb_later hb7.out hbq)
      have hr8 := Lib.hid (row_later hbq hr7.out)
      have hB8 := Lib.hid (below_step hB7.out hbq)
      have s8 := hbq.size
      have hF8 := Lib.hid hF2
      have lT2 : T2 < z1.heap.size := blk_lt hF2.2.1
      clear hbq hbx7 hq7 hb7 hr7 hB7 hF2
      have a0 : z1.cell? ⟨w.heap.size + 1 + 1, 0, none⟩ = some (.int .u8 op) := blk_cell hbx8.out.2.2.1 0
      have a1 : z1.cell? ⟨w.heap.size + 1 + 1, 1, none⟩ = some (.int .u8 key) := blk_cell hbx8.out.2.2.1 1
      have a2 : z1.cell? ⟨w.heap.size + 1 + 1, 2, none⟩ = some (.int .u8 aw) := blk_cell hbx8.out.2.2.1 2
      have a3 : z1.cell? ⟨w.heap.size + 1 + 1, 3, none⟩ = some (.int .u8 ah) := blk_cell hbx8.out.2.2.1 3
      have a4 : z1.cell? ⟨w.heap.size + 1 + 1, 4, none⟩ = some (.int .u8 ink) := blk_cell hbx8.out.2.2.1 4
      have v0 : z1.cell? ⟨w3.heap.size, 0, none⟩ = some (.int .i64 Q0) := blk_cell hq8.out 0
      have v1 : z1.cell? ⟨w3.heap.size, 1, none⟩ = some (.int .i64 Q1) := blk_cell hq8.out 1
      have v2 : z1.cell? ⟨w3.heap.size, 2, none⟩ = some (.int .i64 Q2) := blk_cell hq8.out 2
      have v3 : z1.cell? ⟨w3.heap.size, 3, none⟩ = some (.int .i64 Q3) := blk_cell hq8.out 3
      have v4 : z1.cell? ⟨w3.heap.size, 4, none⟩ = some (.int .i64 Q4) := blk_cell hq8.out 4
      have v5 : z1.cell? ⟨w3.heap.size, 5, none⟩ = some (.int .i64 Q5) := blk_cell hq8.out 5
      have v6 : z1.cell? ⟨w3.heap.size, 6, none⟩ = some (.int .u8 t6) := blk_cell hq8.out 6

      go_region_held3 (fun w' => w'.cell? ⟨w.heap.size + 1 + 1, 0, none⟩ = some (.int .u8 op) ∧ w'.cell? ⟨w.heap.size + 1 + 1, 1, none⟩ = some (.int .u8 key) ∧ w'.cell? ⟨w.heap.size + 1 + 1, 2, none⟩ = some (.int .u8 aw) ∧ w'.cell? ⟨w.heap.size + 1 + 1, 3, none⟩ = some (.int .u8 ah) ∧ w'.cell? ⟨w.heap.size + 1 + 1, 4, none⟩ = some (.int .u8 ink) ∧ w'.cell? ⟨w3.heap.size, 0, none⟩ = some (.int .i64 Q0) ∧ w'.cell? ⟨w3.heap.size, 1, none⟩ = some (.int .i64 Q1) ∧ w'.cell? ⟨w3.heap.size, 2, none⟩ = some (.int .i64 Q2) ∧ w'.cell? ⟨w3.heap.size, 3, none⟩ = some (.int .i64 Q3) ∧ w'.cell? ⟨w3.heap.size, 4, none⟩ = some (.int .i64 Q4) ∧ w'.cell? ⟨w3.heap.size, 5, none⟩ = some (.int .i64 Q5) ∧ w'.cell? ⟨w3.heap.size, 6, none⟩ = some (.int .u8 t6))
        ((go_split_ands; (repeat' apply And.intro) <;> (repeat' (first | with_reducible assumption | with_reducible refine keepD ?_ | (refine cell_later hbq ?_; assumption)))))
        (first
          | (go_at_call 13; refine (HS.out _).mono ?_; rintro e z2 ⟨gx, cx, rfl, hox, hbq⟩; have Rz2 : Row z2 0 gx cx al := own_less hox (Nat.zero_le _); have Gz2 : z1.heap.size ≤ gx := (own_base hox gx rfl); clear hox; have Bz2 : Below z1.heap.size z1 z2 := below_step (by (repeat' (first | with_reducible assumption | with_reducible exact Below.refl _ _ | with_reducible refine below_alloc ?_ _ | with_reducible refine below_drew1 ?_ | with_reducible refine below_set ?_ ?_ | omega))) hbq)
          | (go_at_call 15; refine (HD2.out F2 T2 gx cx _ Rz2 (by omega) (frm_later hF8.out Bz2)).mono ?_; rintro e z3 ⟨rfl, ⟨L2, hL20, hL2b0, hF30, hL2e⟩, hS2⟩; have hL2 := Lib.hid hL20; clear hL20; have hL2b := Lib.hid hL2b0; have hF3 := Lib.hid hF30; have hL2eH := Lib.hid hL2e; clear hL2b0 hF30 hL2e; have kx0 : z3.cell? ⟨w.heap.size + 1 + 1, 0, none⟩ = some (.int .u8 op) := hS2.cell (a := ⟨w.heap.size + 1 + 1, 0, none⟩) (by show w.heap.size + 1 + 1 ≠ T2; omega) (cell_later Bz2 a0); have kx1 : z3.cell? ⟨w.heap.size + 1 + 1, 1, none⟩ = some (.int .u8 key) := hS2.cell (a := ⟨w.heap.size + 1 + 1, 1, none⟩) (by show w.heap.size + 1 + 1 ≠ T2; omega) (cell_later Bz2 a1); have kx2 : z3.cell? ⟨w.heap.size + 1 + 1, 2, none⟩ = some (.int .u8 aw) := hS2.cell (a := ⟨w.heap.size + 1 + 1, 2, none⟩) (by show w.heap.size + 1 + 1 ≠ T2; omega) (cell_later Bz2 a2); have kx3 : z3.cell? ⟨w.heap.size + 1 + 1, 3, none⟩ = some (.int .u8 ah) := hS2.cell (a := ⟨w.heap.size + 1 + 1, 3, none⟩) (by show w.heap.size + 1 + 1 ≠ T2; omega) (cell_later Bz2 a3); have kx4 : z3.cell? ⟨w.heap.size + 1 + 1, 4, none⟩ = some (.int .u8 ink) := hS2.cell (a := ⟨w.heap.size + 1 + 1, 4, none⟩) (by show w.heap.size + 1 + 1 ≠ T2; omega) (cell_later Bz2 a4); have kx5 : z3.cell? ⟨w3.heap.size, 0, none⟩ = some (.int .i64 Q0) := hS2.cell (a := ⟨w3.heap.size, 0, none⟩) (by show w3.heap.size ≠ T2; omega) (cell_later Bz2 v0); have kx6 : z3.cell? ⟨w3.heap.size, 1, none⟩ = some (.int .i64 Q1) := hS2.cell (a := ⟨w3.heap.size, 1, none⟩) (by show w3.heap.size ≠ T2; omega) (cell_later Bz2 v1); have kx7 : z3.cell? ⟨w3.heap.size, 2, none⟩ = some (.int .i64 Q2) := hS2.cell (a := ⟨w3.heap.size, 2, none⟩) (by show w3.heap.size ≠ T2; omega) (cell_later Bz2 v2); have kx8 : z3.cell? ⟨w3.heap.size, 3, none⟩ = some (.int .i64 Q3) := hS2.cell (a := ⟨w3.heap.size, 3, none⟩) (by show w3.heap.size ≠ T2; omega) (cell_later Bz2 v3); have kx9 : z3.cell? ⟨w3.heap.size, 4, none⟩ = some (.int .i64 Q4) := hS2.cell (a := ⟨w3.heap.size, 4, none⟩) (by show w3.heap.size ≠ T2; omega) (cell_later Bz2 v4); have kx10 : z3.cell? ⟨w3.heap.size, 5, none⟩ = some (.int .i64 Q5) := hS2.cell (a := ⟨w3.heap.size, 5, none⟩) (by show w3.heap.size ≠ T2; omega) (cell_later Bz2 v5); have kx11 : z3.cell? ⟨w3.heap.size, 6, none⟩ = some (.int .u8 t6) := hS2.cell (a := ⟨w3.heap.size, 6, none⟩) (by show w3.heap.size ≠ T2; omega) (cell_later Bz2 v6)))
      have hbx9 := Lib.hid (boxes_sv (boxes_later hbx8.out Bz2) hS2 (by omega))
      have hq9 := Lib.hid ((hS2.block _ (blk_lt (lp_later hq8.out Bz2)) (by omega)).trans (lp_later hq8.out Bz2) : LaidP z3 w3.heap.size Q0 Q1 Q2 Q3 Q4 Q5 t6)
      have hb9 := Lib.hid ((hS2.block _ (blk_lt (lb_later hb8.out Bz2)) (by omega)).trans (lb_later hb8.out Bz2) : LaidB z3 w4.heap.size 9 9 (.slice (some ⟨gw, 0, none⟩) LF.length cw))
      have hr9 := Lib.hid (row_sv (row_later Bz2 hr8.out) hS2 (by omega))
      have hB9 := Lib.hid (sv_below (below_step hB8.out Bz2) hS2 (by omega) (by have := Bz2.size; have := hB8.out.size; omega))
      have sz3 : z1.heap.size ≤ z3.heap.size := Nat.le_trans Bz2.size hS2.size
      clear a0 a1 a2 a3 a4 v0 v1 v2 v3 v4 v5 v6 hbx8 hq8 hb8 hr8 hB8 hF8 Rz2 Gz2 Bz2 hS2 HD2
      have hF8 := hF3
      have hr8 := hr9
      clear hF3 hr9
      have a0 := kx0
      have a1 := kx1
      have a2 := kx2
      have a3 := kx3
      have a4 := kx4
      have v0 := kx5
      have v1 := kx6
      have v2 := kx7
      have v3 := kx8
      have v4 := kx9
      have v5 := kx10
      have v6 := kx11
      clear kx0 kx1 kx2 kx3 kx4 kx5 kx6 kx7 kx8 kx9 kx10 kx11
      have b0 : z3.cell? ⟨w4.heap.size, 0, none⟩ = some (.int .i64 9) := blk_cell hb9.out 0
      have b1 : z3.cell? ⟨w4.heap.size, 1, none⟩ = some (.int .i64 9) := blk_cell hb9.out 1
      have b2 : z3.cell? ⟨w4.heap.size, 2, none⟩ = some (.slice (some ⟨gw, 0, none⟩) LF.length cw) := blk_cell hb9.out 2
      go_upto_region 16 with fail
      go_cut [97] (fun s97 wr => s97 = .bool false ∧ Below z3.heap.size z3 wr)
      case first =>
        cases m2
        case false =>
          obtain rfl := (hL2eH.out rfl).symm
          refine wp_region_held_drew (S := fun w' => w'.cell? ⟨w.heap.size + 1 + 1, 0, none⟩ = some (.int .u8 op) ∧ w'.cell? ⟨w.heap.size + 1 + 1, 1, none⟩ = some (.int .u8 key) ∧ w'.cell? ⟨w.heap.size + 1 + 1, 2, none⟩ = some (.int .u8 aw) ∧ w'.cell? ⟨w.heap.size + 1 + 1, 3, none⟩ = some (.int .u8 ah) ∧ w'.cell? ⟨w.heap.size + 1 + 1, 4, none⟩ = some (.int .u8 ink) ∧ w'.cell? ⟨w3.heap.size, 0, none⟩ = some (.int .i64 Q0) ∧ w'.cell? ⟨w3.heap.size, 1, none⟩ = some (.int .i64 Q1) ∧ w'.cell? ⟨w3.heap.size, 2, none⟩ = some (.int .i64 Q2) ∧ w'.cell? ⟨w3.heap.size, 3, none⟩ = some (.int .i64 Q3) ∧ w'.cell? ⟨w3.heap.size, 4, none⟩ = some (.int .i64 Q4) ∧ w'.cell? ⟨w3.heap.size, 5, none⟩ = some (.int .i64 Q5) ∧ w'.cell? ⟨w3.heap.size, 6, none⟩ = some (.int .u8 t6) ∧ w'.cell? ⟨w4.heap.size, 0, none⟩ = some (.int .i64 9) ∧ w'.cell? ⟨w4.heap.size, 1, none⟩ = some (.int .i64 9) ∧ w'.cell? ⟨w4.heap.size, 2, none⟩ = some (.slice (some ⟨gw, 0, none⟩) LF.length cw)) (by kernel_rfl) ⟨a0, a1, a2, a3, a4, v0, v1, v2, v3, v4, v5, v6, b0, b1, b2⟩ (fun hHeld0 => ?_)
          refine wpAnyH_take (i := 0) (oi := { dst := some 79, op := Go.Op.move (Go.Operand.tmp 19), type := 43, pos := "law.go:109", after := #[], guard := none }) (v := ?v0rf) rfl (by kernel_rfl) (by kernel_rfl) (by kernel_rfl) (fun _ _ _ h => h) (Or.inl ⟨by rfl, ?hy0rf⟩) (by assumption) ?rest0rf
          case hy0rf => (intro w hSw; (try dsimp only at hSw); go_simp; try with_reducible rfl)
          try simp only [Act.put, List.setIfInBounds_toArray, List.set_cons_zero, List.set_cons_succ]
          refine wpAnyH_take (i := 1) (oi := { dst := some 80, op := Go.Op.binOp Go.BinOp.eql 43 (Go.Operand.tmp 79) (Go.Operand.const (Go.Value.int Go.IntKind.i64 0)) 43, type := 4, pos := "law.go:109", after := #[{ on := 0, ground := Go.Ground.data }], guard := none }) (v := ?v1rf) rfl (by kernel_rfl) (by kernel_rfl) (by kernel_rfl) (fun _ _ _ h => h) (Or.inl ⟨by rfl, ?hy1rf⟩) (by assumption) ?rest1rf
          case hy1rf => (intro w hSw; (try dsimp only at hSw); go_simp; try with_reducible rfl)
          try simp only [Act.put, List.setIfInBounds_toArray, List.set_cons_zero, List.set_cons_succ]
          refine wpAnyH_take (i := 2) (oi := { dst := some 81, op := Go.Op.move (Go.Operand.tmp 15), type := 50, pos := "law.go:109", after := #[], guard := none }) (v := ?v2rf) rfl (by kernel_rfl) (by kernel_rfl) (by kernel_rfl) (fun _ _ _ h => h) (Or.inl ⟨by rfl, ?hy2rf⟩) (by assumption) ?rest2rf
          case hy2rf => (intro w hSw; (try dsimp only at hSw); go_simp; try with_reducible rfl)
          try simp only [Act.put, List.setIfInBounds_toArray, List.set_cons_zero, List.set_cons_succ]
          refine wpAnyH_take (i := 3) (oi := { dst := some 82, op := Go.Op.load 35 (Go.Operand.tmp 8), type := 35, pos := "law.go:109", after := #[], guard := none }) (v := ?v3rf) rfl (by kernel_rfl) (by kernel_rfl) (by kernel_rfl) (fun _ _ _ h => h) (Or.inl ⟨by rfl, ?hy3rf⟩) (by assumption) ?rest3rf
          case hy3rf => (intro w hSw; (try dsimp only at hSw); go_simp; try with_reducible rfl)
          try simp only [Act.put, List.setIfInBounds_toArray, List.set_cons_zero, List.set_cons_succ]
          refine wpAnyH_take (i := 5) (oi := { dst := some 84, op := Go.Op.load 39 (Go.Operand.tmp 14), type := 39, pos := "law.go:109", after := #[], guard := none }) (v := ?v5rf) rfl (by kernel_rfl) (by kernel_rfl) (by kernel_rfl) (fun _ _ _ h => h) (Or.inl ⟨by rfl, ?hy5rf⟩) (by assumption) ?rest5rf
          case hy5rf => (intro w hSw; (try dsimp only at hSw); go_simp; try with_reducible rfl)
          try simp only [Act.put, List.setIfInBounds_toArray, List.set_cons_zero, List.set_cons_succ]
          refine wpAnyH_ready (rs := [4]) (by kernel_rfl) (by simp) ?_
          refine AllReadyH.cons (o := { dst := some 83, op := Go.Op.call { callee := Go.Callee.value (Go.Operand.func 13), args := #[Go.Operand.tmp 82], argTypes := #[35] }, type := 30, pos := "law.go:109", after := #[{ on := 3, ground := Go.Ground.data }], guard := none }) rfl (fun K hK => ?_) AllReadyH.nil
          go_simp
          refine (HS.out _).mono ?_; rintro e y1 ⟨gy, cy, rfl, ho, hbq⟩
          have Ry1 : Row y1 0 gy cy al := own_less ho (Nat.zero_le _)
          have Gy1 := own_base ho gy rfl
          clear ho
          have By1 : Below z3.heap.size z3 y1 := below_step (below_drew1 (Below.refl _ _)) hbq
          go_wp2_with fail
          refine hK.out _ _ ?_ (fun hHeld1 => ?_)
          · (try dsimp only)
            (go_split_ands; (repeat' apply And.intro) <;> (repeat' (first | with_reducible assumption | (refine cell_later hbq ?_; assumption))))
          clear hK K
          try clear hHeld0
          try simp only [Act.put, List.setIfInBounds_toArray, List.set_cons_zero, List.set_cons_succ]
          clear hbq
          refine wpAnyH_ready (rs := [6]) (by kernel_rfl) (by simp) ?_
          refine AllReadyH.cons (o := { dst := some 85, op := Go.Op.call { callee := Go.Callee.value (Go.Operand.tmp 81), args := #[Go.Operand.tmp 83, Go.Operand.tmp 84], argTypes := #[30, 39] }, type := 4, pos := "law.go:109", after := #[{ on := 2, ground := Go.Ground.data }, { on := 4, ground := Go.Ground.data }, { on := 5, ground := Go.Ground.data }, { on := 4, ground := Go.Ground.chain }], guard := none }) rfl (fun K hK => ?_) AllReadyH.nil
          go_simp
          refine (HM2.out _ _ _ Ry1).mono ?_; rintro e y2 ⟨rfl, hbq⟩
          have By2 : Below z3.heap.size z3 y2 := below_step By1 hbq
          go_wp2_with fail
          refine hK.out _ _ ?_ (fun hHeld2 => ?_)
          · (try dsimp only)
            (go_split_ands; (repeat' apply And.intro) <;> (repeat' (first | with_reducible assumption | (refine cell_later hbq ?_; assumption))))
          clear hK K
          try clear hHeld1
          try simp only [Act.put, List.setIfInBounds_toArray, List.set_cons_zero, List.set_cons_succ]
          clear hbq
          refine wpAnyH_take (i := 7) (oi := { dst := some 86, op := Go.Op.binOp Go.BinOp.neq 4 (Go.Operand.tmp 80) (Go.Operand.tmp 85) 4, type := 4, pos := "law.go:109", after := #[{ on := 1, ground := Go.Ground.data }, { on := 6, ground := Go.Ground.data }], guard := none }) (v := ?v7rf) rfl (by kernel_rfl) (by kernel_rfl) (by kernel_rfl) (fun _ _ _ h => h) (Or.inl ⟨by rfl, ?hy7rf⟩) (by assumption) ?rest7rf
          case hy7rf => (intro w hSw; (try dsimp only at hSw); go_simp; try with_reducible rfl)
          try simp only [Act.put, List.setIfInBounds_toArray, List.set_cons_zero, List.set_cons_succ]
          refine wpAnyH_take (i := 8) (oi := { dst := some 87, op := Go.Op.move (Go.Operand.tmp 86), type := 4, pos := "law.go:109", after := #[{ on := 7, ground := Go.Ground.data }, { on := 6, ground := Go.Ground.chain }], guard := none }) (v := ?v8rf) rfl (by kernel_rfl) (by kernel_rfl) (by kernel_rfl) (fun _ _ _ h => h) (Or.inl ⟨by rfl, ?hy8rf⟩) (by assumption) ?rest8rf
          case hy8rf => (intro w hSw; (try dsimp only at hSw); go_simp; try with_reducible rfl)
          try simp only [Act.put, List.setIfInBounds_toArray, List.set_cons_zero, List.set_cons_succ]
          refine wpAnyH_take (i := 9) (oi := { dst := some 88, op := Go.Op.move (Go.Operand.tmp 19), type := 43, pos := "law.go:109", after := #[{ on := 8, ground := Go.Ground.guard }], guard := some (8, false) }) (v := ?v9rf) rfl (by kernel_rfl) (by kernel_rfl) (by kernel_rfl) (fun _ _ _ h => h) (Or.inl ⟨by rfl, ?hy9rf⟩) (by assumption) ?rest9rf
          case hy9rf => (intro w hSw; (try dsimp only at hSw); go_simp; try with_reducible rfl)
          try simp only [Act.put, List.setIfInBounds_toArray, List.set_cons_zero, List.set_cons_succ]
          refine wpAnyH_take (i := 10) (oi := { dst := some 89, op := Go.Op.binOp Go.BinOp.neq 43 (Go.Operand.tmp 88) (Go.Operand.const (Go.Value.int Go.IntKind.i64 0)) 43, type := 4, pos := "law.go:109", after := #[{ on := 9, ground := Go.Ground.data }, { on := 8, ground := Go.Ground.guard }], guard := some (8, false) }) (v := ?v10rf) rfl (by kernel_rfl) (by kernel_rfl) (by kernel_rfl) (fun _ _ _ h => h) (Or.inl ⟨by rfl, ?hy10rf⟩) (by assumption) ?rest10rf
          case hy10rf => (intro w hSw; (try dsimp only at hSw); go_simp; try with_reducible rfl)
          try simp only [Act.put, List.setIfInBounds_toArray, List.set_cons_zero, List.set_cons_succ]
          refine wpAnyH_take (i := 11) (oi := { dst := some 90, op := Go.Op.move (Go.Operand.tmp 89), type := 4, pos := "law.go:109", after := #[{ on := 10, ground := Go.Ground.data }, { on := 8, ground := Go.Ground.chain }, { on := 8, ground := Go.Ground.guard }], guard := some (8, false) }) (v := ?v11rf) rfl (by kernel_rfl) (by kernel_rfl) (by kernel_rfl) (fun _ _ _ h => h) (Or.inl ⟨by rfl, ?hy11rf⟩) (by assumption) ?rest11rf
          case hy11rf => (intro w hSw; (try dsimp only at hSw); go_simp; try with_reducible rfl)
          try simp only [Act.put, List.setIfInBounds_toArray, List.set_cons_zero, List.set_cons_succ]
          refine wpAnyH_take (i := 12) (oi := { dst := some 91, op := Go.Op.move (Go.Operand.tmp 18), type := 26, pos := "law.go:109", after := #[{ on := 11, ground := Go.Ground.guard }], guard := some (11, true) }) (v := ?v12rf) rfl (by kernel_rfl) (by kernel_rfl) (by kernel_rfl) (fun _ _ _ h => h) (Or.inl ⟨by rfl, ?hy12rf⟩) (by assumption) ?rest12rf
          case hy12rf => (intro w hSw; (try dsimp only at hSw); go_simp; try with_reducible rfl)
          try simp only [Act.put, List.setIfInBounds_toArray, List.set_cons_zero, List.set_cons_succ]
          refine wpAnyH_take (i := 14) (oi := { dst := some 93, op := Go.Op.load 30 (Go.Operand.tmp 16), type := 30, pos := "law.go:109", after := #[{ on := 11, ground := Go.Ground.guard }], guard := some (11, true) }) (v := ?v14rf) rfl (by kernel_rfl) (by kernel_rfl) (by kernel_rfl) (fun _ _ _ h => h) (Or.inl ⟨by rfl, ?hy14rf⟩) (by assumption) ?rest14rf
          case hy14rf => (intro w hSw; (try dsimp only at hSw); go_simp; try with_reducible rfl)
          try simp only [Act.put, List.setIfInBounds_toArray, List.set_cons_zero, List.set_cons_succ]
          refine wpAnyH_ready (rs := [13]) (by kernel_rfl) (by simp) ?_
          refine AllReadyH.cons (o := { dst := some 92, op := Go.Op.call { callee := Go.Callee.value (Go.Operand.func 12), args := #[Go.Operand.tmp 91], argTypes := #[26] }, type := 30, pos := "law.go:109", after := #[{ on := 12, ground := Go.Ground.data }, { on := 11, ground := Go.Ground.chain }, { on := 11, ground := Go.Ground.guard }], guard := some (11, true) }) rfl (fun K hK => ?_) AllReadyH.nil
          go_simp
          refine (pixels 9 9 LF F2 T2 _ (by have := hLF.out; omega) (by have := hLF.out; omega) (frm_later hF8.out By2)).mono ?_; rintro e y3 ⟨g5, c5, rfl, ho5, hbq⟩
          have R5 : Row y3 0 g5 c5 LF := own_less ho5 (Nat.zero_le _)
          have R6 : Row y3 0 gw cw LF := row_later hbq (row_later By2 hr8.out)
          have By3 : Below z3.heap.size z3 y3 := below_step By2 hbq
          clear ho5
          go_wp2_with fail
          refine hK.out _ _ ?_ (fun hHeld3 => ?_)
          · (try dsimp only)
            (go_split_ands; (repeat' apply And.intro) <;> (repeat' (first | with_reducible assumption | (refine cell_later hbq ?_; assumption))))
          clear hK K
          try clear hHeld2
          try simp only [Act.put, List.setIfInBounds_toArray, List.set_cons_zero, List.set_cons_succ]
          clear hbq
          refine wpAnyH_ready (rs := [15]) (by kernel_rfl) (by simp) ?_
          refine AllReadyH.cons (o := { dst := some 94, op := Go.Op.call { callee := Go.Callee.value (Go.Operand.func 11), args := #[Go.Operand.tmp 92, Go.Operand.tmp 93], argTypes := #[30, 30] }, type := 4, pos := "law.go:109", after := #[{ on := 13, ground := Go.Ground.data }, { on := 14, ground := Go.Ground.data }, { on := 13, ground := Go.Ground.chain }, { on := 11, ground := Go.Ground.guard }], guard := some (11, true) }) rfl (fun K hK => ?_) AllReadyH.nil
          go_simp
          refine (same 9 9 LF _ _ _ _ _ _ _ R5 R6).mono ?_; rintro e y4 ⟨rfl, hbq⟩
          have By4 : Below z3.heap.size z3 y4 := below_step By3 hbq
          go_wp2_with fail
          refine hK.out _ _ ?_ (fun hHeld4 => ?_)
          · (try dsimp only)
            (go_split_ands; (repeat' apply And.intro) <;> (repeat' (first | with_reducible assumption | (refine cell_later hbq ?_; assumption))))
          clear hK K
          try clear hHeld3
          try simp only [Act.put, List.setIfInBounds_toArray, List.set_cons_zero, List.set_cons_succ]
          clear hbq
          refine wpAnyH_take (i := 16) (oi := { dst := some 95, op := Go.Op.unOp Go.UnOp.not 4 (Go.Operand.tmp 94), type := 4, pos := "law.go:109", after := #[{ on := 15, ground := Go.Ground.data }, { on := 11, ground := Go.Ground.guard }], guard := some (11, true) }) (v := ?v16rf) rfl (by kernel_rfl) (by kernel_rfl) (by kernel_rfl) (fun _ _ _ h => h) (Or.inl ⟨by rfl, ?hy16rf⟩) (by assumption) ?rest16rf
          case hy16rf => (intro w hSw; (try dsimp only at hSw); go_simp; try with_reducible rfl)
          try simp only [Act.put, List.setIfInBounds_toArray, List.set_cons_zero, List.set_cons_succ]
          refine wpAnyH_take (i := 17) (oi := { dst := some 96, op := Go.Op.pick (Go.Operand.tmp 90) (Go.Operand.tmp 95) (Go.Operand.const (Go.Value.bool false)), type := 4, pos := "law.go:109", after := #[{ on := 11, ground := Go.Ground.data }, { on := 16, ground := Go.Ground.data }, { on := 8, ground := Go.Ground.guard }], guard := some (8, false) }) (v := ?v17rf) rfl (by kernel_rfl) (by kernel_rfl) (by kernel_rfl) (fun _ _ _ h => h) (Or.inl ⟨by rfl, ?hy17rf⟩) (by assumption) ?rest17rf
          case hy17rf => (intro w hSw; (try dsimp only at hSw); go_simp; try with_reducible rfl)
          try simp only [Act.put, List.setIfInBounds_toArray, List.set_cons_zero, List.set_cons_succ]
          refine wpAnyH_take (i := 18) (oi := { dst := some 97, op := Go.Op.pick (Go.Operand.tmp 87) (Go.Operand.const (Go.Value.bool true)) (Go.Operand.tmp 96), type := 4, pos := "law.go:109", after := #[{ on := 8, ground := Go.Ground.data }, { on := 17, ground := Go.Ground.data }], guard := none }) (v := ?v18rf) rfl (by kernel_rfl) (by kernel_rfl) (by kernel_rfl) (fun _ _ _ h => h) (Or.inl ⟨by rfl, ?hy18rf⟩) (by assumption) ?rest18rf
          case hy18rf => (intro w hSw; (try dsimp only at hSw); go_simp; try with_reducible rfl)
          try simp only [Act.put, List.setIfInBounds_toArray, List.set_cons_zero, List.set_cons_succ]
          refine wpAnyH_done (by kernel_rfl) ?_ _
          go_wp2_with fail
          go_meet
          exact ⟨rfl, By4⟩
        case true =>
          refine wp_region_held_drew (S := fun w' => w'.cell? ⟨w.heap.size + 1 + 1, 0, none⟩ = some (.int .u8 op) ∧ w'.cell? ⟨w.heap.size + 1 + 1, 1, none⟩ = some (.int .u8 key) ∧ w'.cell? ⟨w.heap.size + 1 + 1, 2, none⟩ = some (.int .u8 aw) ∧ w'.cell? ⟨w.heap.size + 1 + 1, 3, none⟩ = some (.int .u8 ah) ∧ w'.cell? ⟨w.heap.size + 1 + 1, 4, none⟩ = some (.int .u8 ink) ∧ w'.cell? ⟨w3.heap.size, 0, none⟩ = some (.int .i64 Q0) ∧ w'.cell? ⟨w3.heap.size, 1, none⟩ = some (.int .i64 Q1) ∧ w'.cell? ⟨w3.heap.size, 2, none⟩ = some (.int .i64 Q2) ∧ w'.cell? ⟨w3.heap.size, 3, none⟩ = some (.int .i64 Q3) ∧ w'.cell? ⟨w3.heap.size, 4, none⟩ = some (.int .i64 Q4) ∧ w'.cell? ⟨w3.heap.size, 5, none⟩ = some (.int .i64 Q5) ∧ w'.cell? ⟨w3.heap.size, 6, none⟩ = some (.int .u8 t6) ∧ w'.cell? ⟨w4.heap.size, 0, none⟩ = some (.int .i64 9) ∧ w'.cell? ⟨w4.heap.size, 1, none⟩ = some (.int .i64 9) ∧ w'.cell? ⟨w4.heap.size, 2, none⟩ = some (.slice (some ⟨gw, 0, none⟩) LF.length cw)) (by kernel_rfl) ⟨a0, a1, a2, a3, a4, v0, v1, v2, v3, v4, v5, v6, b0, b1, b2⟩ (fun hHeld0 => ?_)
          refine wpAnyH_take (i := 0) (oi := { dst := some 79, op := Go.Op.move (Go.Operand.tmp 19), type := 43, pos := "law.go:109", after := #[], guard := none }) (v := ?v0rt) rfl (by kernel_rfl) (by kernel_rfl) (by kernel_rfl) (fun _ _ _ h => h) (Or.inl ⟨by rfl, ?hy0rt⟩) (by assumption) ?rest0rt
          case hy0rt => (intro w hSw; (try dsimp only at hSw); go_simp; try with_reducible rfl)
          try simp only [Act.put, List.setIfInBounds_toArray, List.set_cons_zero, List.set_cons_succ]
          refine wpAnyH_take (i := 1) (oi := { dst := some 80, op := Go.Op.binOp Go.BinOp.eql 43 (Go.Operand.tmp 79) (Go.Operand.const (Go.Value.int Go.IntKind.i64 0)) 43, type := 4, pos := "law.go:109", after := #[{ on := 0, ground := Go.Ground.data }], guard := none }) (v := ?v1rt) rfl (by kernel_rfl) (by kernel_rfl) (by kernel_rfl) (fun _ _ _ h => h) (Or.inl ⟨by rfl, ?hy1rt⟩) (by assumption) ?rest1rt
          case hy1rt => (intro w hSw; (try dsimp only at hSw); go_simp; try with_reducible rfl)
          try simp only [Act.put, List.setIfInBounds_toArray, List.set_cons_zero, List.set_cons_succ]
          refine wpAnyH_take (i := 2) (oi := { dst := some 81, op := Go.Op.move (Go.Operand.tmp 15), type := 50, pos := "law.go:109", after := #[], guard := none }) (v := ?v2rt) rfl (by kernel_rfl) (by kernel_rfl) (by kernel_rfl) (fun _ _ _ h => h) (Or.inl ⟨by rfl, ?hy2rt⟩) (by assumption) ?rest2rt
          case hy2rt => (intro w hSw; (try dsimp only at hSw); go_simp; try with_reducible rfl)
          try simp only [Act.put, List.setIfInBounds_toArray, List.set_cons_zero, List.set_cons_succ]
          refine wpAnyH_take (i := 3) (oi := { dst := some 82, op := Go.Op.load 35 (Go.Operand.tmp 8), type := 35, pos := "law.go:109", after := #[], guard := none }) (v := ?v3rt) rfl (by kernel_rfl) (by kernel_rfl) (by kernel_rfl) (fun _ _ _ h => h) (Or.inl ⟨by rfl, ?hy3rt⟩) (by assumption) ?rest3rt
          case hy3rt => (intro w hSw; (try dsimp only at hSw); go_simp; try with_reducible rfl)
          try simp only [Act.put, List.setIfInBounds_toArray, List.set_cons_zero, List.set_cons_succ]
          refine wpAnyH_take (i := 5) (oi := { dst := some 84, op := Go.Op.load 39 (Go.Operand.tmp 14), type := 39, pos := "law.go:109", after := #[], guard := none }) (v := ?v5rt) rfl (by kernel_rfl) (by kernel_rfl) (by kernel_rfl) (fun _ _ _ h => h) (Or.inl ⟨by rfl, ?hy5rt⟩) (by assumption) ?rest5rt
          case hy5rt => (intro w hSw; (try dsimp only at hSw); go_simp; try with_reducible rfl)
          try simp only [Act.put, List.setIfInBounds_toArray, List.set_cons_zero, List.set_cons_succ]
          refine wpAnyH_ready (rs := [4]) (by kernel_rfl) (by simp) ?_
          refine AllReadyH.cons (o := { dst := some 83, op := Go.Op.call { callee := Go.Callee.value (Go.Operand.func 13), args := #[Go.Operand.tmp 82], argTypes := #[35] }, type := 30, pos := "law.go:109", after := #[{ on := 3, ground := Go.Ground.data }], guard := none }) rfl (fun K hK => ?_) AllReadyH.nil
          go_simp
          refine (HS.out _).mono ?_; rintro e y1 ⟨gy, cy, rfl, ho, hbq⟩
          have Ry1 : Row y1 0 gy cy al := own_less ho (Nat.zero_le _)
          have Gy1 := own_base ho gy rfl
          clear ho
          have By1 : Below z3.heap.size z3 y1 := below_step (below_drew1 (Below.refl _ _)) hbq
          go_wp2_with fail
          refine hK.out _ _ ?_ (fun hHeld1 => ?_)
          · (try dsimp only)
            (go_split_ands; (repeat' apply And.intro) <;> (repeat' (first | with_reducible assumption | (refine cell_later hbq ?_; assumption))))
          clear hK K
          try clear hHeld0
          try simp only [Act.put, List.setIfInBounds_toArray, List.set_cons_zero, List.set_cons_succ]
          clear hbq
          refine wpAnyH_ready (rs := [6]) (by kernel_rfl) (by simp) ?_
          refine AllReadyH.cons (o := { dst := some 85, op := Go.Op.call { callee := Go.Callee.value (Go.Operand.tmp 81), args := #[Go.Operand.tmp 83, Go.Operand.tmp 84], argTypes := #[30, 39] }, type := 4, pos := "law.go:109", after := #[{ on := 2, ground := Go.Ground.data }, { on := 4, ground := Go.Ground.data }, { on := 5, ground := Go.Ground.data }, { on := 4, ground := Go.Ground.chain }], guard := none }) rfl (fun K hK => ?_) AllReadyH.nil
          go_simp
          refine (HM2.out _ _ _ Ry1).mono ?_; rintro e y2 ⟨rfl, hbq⟩
          have By2 : Below z3.heap.size z3 y2 := below_step By1 hbq
          go_wp2_with fail
          refine hK.out _ _ ?_ (fun hHeld2 => ?_)
          · (try dsimp only)
            (go_split_ands; (repeat' apply And.intro) <;> (repeat' (first | with_reducible assumption | (refine cell_later hbq ?_; assumption))))
          clear hK K
          try clear hHeld1
          try simp only [Act.put, List.setIfInBounds_toArray, List.set_cons_zero, List.set_cons_succ]
          clear hbq
          refine wpAnyH_take (i := 7) (oi := { dst := some 86, op := Go.Op.binOp Go.BinOp.neq 4 (Go.Operand.tmp 80) (Go.Operand.tmp 85) 4, type := 4, pos := "law.go:109", after := #[{ on := 1, ground := Go.Ground.data }, { on := 6, ground := Go.Ground.data }], guard := none }) (v := ?v7rt) rfl (by kernel_rfl) (by kernel_rfl) (by kernel_rfl) (fun _ _ _ h => h) (Or.inl ⟨by rfl, ?hy7rt⟩) (by assumption) ?rest7rt
          case hy7rt => (intro w hSw; (try dsimp only at hSw); go_simp; try with_reducible rfl)
          try simp only [Act.put, List.setIfInBounds_toArray, List.set_cons_zero, List.set_cons_succ]
          refine wpAnyH_take (i := 8) (oi := { dst := some 87, op := Go.Op.move (Go.Operand.tmp 86), type := 4, pos := "law.go:109", after := #[{ on := 7, ground := Go.Ground.data }, { on := 6, ground := Go.Ground.chain }], guard := none }) (v := ?v8rt) rfl (by kernel_rfl) (by kernel_rfl) (by kernel_rfl) (fun _ _ _ h => h) (Or.inl ⟨by rfl, ?hy8rt⟩) (by assumption) ?rest8rt
          case hy8rt => (intro w hSw; (try dsimp only at hSw); go_simp; try with_reducible rfl)
          try simp only [Act.put, List.setIfInBounds_toArray, List.set_cons_zero, List.set_cons_succ]
          refine wpAnyH_take (i := 9) (oi := { dst := some 88, op := Go.Op.move (Go.Operand.tmp 19), type := 43, pos := "law.go:109", after := #[{ on := 8, ground := Go.Ground.guard }], guard := some (8, false) }) (v := ?v9rt) rfl (by kernel_rfl) (by kernel_rfl) (by kernel_rfl) (fun _ _ _ h => h) (Or.inl ⟨by rfl, ?hy9rt⟩) (by assumption) ?rest9rt
          case hy9rt => (intro w hSw; (try dsimp only at hSw); go_simp; try with_reducible rfl)
          try simp only [Act.put, List.setIfInBounds_toArray, List.set_cons_zero, List.set_cons_succ]
          refine wpAnyH_take (i := 10) (oi := { dst := some 89, op := Go.Op.binOp Go.BinOp.neq 43 (Go.Operand.tmp 88) (Go.Operand.const (Go.Value.int Go.IntKind.i64 0)) 43, type := 4, pos := "law.go:109", after := #[{ on := 9, ground := Go.Ground.data }, { on := 8, ground := Go.Ground.guard }], guard := some (8, false) }) (v := ?v10rt) rfl (by kernel_rfl) (by kernel_rfl) (by kernel_rfl) (fun _ _ _ h => h) (Or.inl ⟨by rfl, ?hy10rt⟩) (by assumption) ?rest10rt
          case hy10rt => (intro w hSw; (try dsimp only at hSw); go_simp; try with_reducible rfl)
          try simp only [Act.put, List.setIfInBounds_toArray, List.set_cons_zero, List.set_cons_succ]
          refine wpAnyH_take (i := 11) (oi := { dst := some 90, op := Go.Op.move (Go.Operand.tmp 89), type := 4, pos := "law.go:109", after := #[{ on := 10, ground := Go.Ground.data }, { on := 8, ground := Go.Ground.chain }, { on := 8, ground := Go.Ground.guard }], guard := some (8, false) }) (v := ?v11rt) rfl (by kernel_rfl) (by kernel_rfl) (by kernel_rfl) (fun _ _ _ h => h) (Or.inl ⟨by rfl, ?hy11rt⟩) (by assumption) ?rest11rt
          case hy11rt => (intro w hSw; (try dsimp only at hSw); go_simp; try with_reducible rfl)
          try simp only [Act.put, List.setIfInBounds_toArray, List.set_cons_zero, List.set_cons_succ]
          refine wpAnyH_take (i := 12) (oi := { dst := some 91, op := Go.Op.move (Go.Operand.tmp 18), type := 26, pos := "law.go:109", after := #[{ on := 11, ground := Go.Ground.guard }], guard := some (11, true) }) (v := undef) rfl (by kernel_rfl) (by kernel_rfl) (by kernel_rfl) (fun _ _ _ h => h) (Or.inr ⟨by rfl, rfl⟩) (by assumption) ?_
          try simp only [Act.put, List.setIfInBounds_toArray, List.set_cons_zero, List.set_cons_succ]
          refine wpAnyH_take (i := 13) (oi := { dst := some 92, op := Go.Op.call { callee := Go.Callee.value (Go.Operand.func 12), args := #[Go.Operand.tmp 91], argTypes := #[26] }, type := 30, pos := "law.go:109", after := #[{ on := 12, ground := Go.Ground.data }, { on := 11, ground := Go.Ground.chain }, { on := 11, ground := Go.Ground.guard }], guard := some (11, true) }) (v := undef) rfl (by kernel_rfl) (by kernel_rfl) (by kernel_rfl) (fun _ _ _ h => h) (Or.inr ⟨by rfl, rfl⟩) (by assumption) ?_
          try simp only [Act.put, List.setIfInBounds_toArray, List.set_cons_zero, List.set_cons_succ]
          refine wpAnyH_take (i := 14) (oi := { dst := some 93, op := Go.Op.load 30 (Go.Operand.tmp 16), type := 30, pos := "law.go:109", after := #[{ on := 11, ground := Go.Ground.guard }], guard := some (11, true) }) (v := undef) rfl (by kernel_rfl) (by kernel_rfl) (by kernel_rfl) (fun _ _ _ h => h) (Or.inr ⟨by rfl, rfl⟩) (by assumption) ?_
          try simp only [Act.put, List.setIfInBounds_toArray, List.set_cons_zero, List.set_cons_succ]
          refine wpAnyH_take (i := 15) (oi := { dst := some 94, op := Go.Op.call { callee := Go.Callee.value (Go.Operand.func 11), args := #[Go.Operand.tmp 92, Go.Operand.tmp 93], argTypes := #[30, 30] }, type := 4, pos := "law.go:109", after := #[{ on := 13, ground := Go.Ground.data }, { on := 14, ground := Go.Ground.data }, { on := 13, ground := Go.Ground.chain }, { on := 11, ground := Go.Ground.guard }], guard := some (11, true) }) (v := undef) rfl (by kernel_rfl) (by kernel_rfl) (by kernel_rfl) (fun _ _ _ h => h) (Or.inr ⟨by rfl, rfl⟩) (by assumption) ?_
          try simp only [Act.put, List.setIfInBounds_toArray, List.set_cons_zero, List.set_cons_succ]
          refine wpAnyH_take (i := 16) (oi := { dst := some 95, op := Go.Op.unOp Go.UnOp.not 4 (Go.Operand.tmp 94), type := 4, pos := "law.go:109", after := #[{ on := 15, ground := Go.Ground.data }, { on := 11, ground := Go.Ground.guard }], guard := some (11, true) }) (v := undef) rfl (by kernel_rfl) (by kernel_rfl) (by kernel_rfl) (fun _ _ _ h => h) (Or.inr ⟨by rfl, rfl⟩) (by assumption) ?_
          try simp only [Act.put, List.setIfInBounds_toArray, List.set_cons_zero, List.set_cons_succ]
          refine wpAnyH_take (i := 17) (oi := { dst := some 96, op := Go.Op.pick (Go.Operand.tmp 90) (Go.Operand.tmp 95) (Go.Operand.const (Go.Value.bool false)), type := 4, pos := "law.go:109", after := #[{ on := 11, ground := Go.Ground.data }, { on := 16, ground := Go.Ground.data }, { on := 8, ground := Go.Ground.guard }], guard := some (8, false) }) (v := ?v17rt) rfl (by kernel_rfl) (by kernel_rfl) (by kernel_rfl) (fun _ _ _ h => h) (Or.inl ⟨by rfl, ?hy17rt⟩) (by assumption) ?rest17rt
          case hy17rt => (intro w hSw; (try dsimp only at hSw); go_simp; try with_reducible rfl)
          try simp only [Act.put, List.setIfInBounds_toArray, List.set_cons_zero, List.set_cons_succ]
          refine wpAnyH_take (i := 18) (oi := { dst := some 97, op := Go.Op.pick (Go.Operand.tmp 87) (Go.Operand.const (Go.Value.bool true)) (Go.Operand.tmp 96), type := 4, pos := "law.go:109", after := #[{ on := 8, ground := Go.Ground.data }, { on := 17, ground := Go.Ground.data }], guard := none }) (v := ?v18rt) rfl (by kernel_rfl) (by kernel_rfl) (by kernel_rfl) (fun _ _ _ h => h) (Or.inl ⟨by rfl, ?hy18rt⟩) (by assumption) ?rest18rt
          case hy18rt => (intro w hSw; (try dsimp only at hSw); go_simp; try with_reducible rfl)
          try simp only [Act.put, List.setIfInBounds_toArray, List.set_cons_zero, List.set_cons_succ]
          refine wpAnyH_done (by kernel_rfl) ?_ _
          go_wp2_with fail
          go_meet
          exact ⟨rfl, By2⟩

      case rest =>
        obtain ⟨rfl, hbz⟩ := hcut
        obtain ⟨wq, hwq⟩ : ∃ wq, wq = wc := ⟨_, rfl⟩
        rw [← hwq] at hbz ⊢
        clear hwq
        have hbx10 := Lib.hid (boxes_later hbx9.out hbz)
        have hF9 := Lib.hid (frm_later hF8.out hbz)
        have hB10 := Lib.hid (below_step hB9.out hbz)
        have s10 := hbz.size
        clear hbz hbx9 hq9 hb9 hr8 hF8 hB9 a0 a1 a2 a3 a4 v0 v1 v2 v3 v4 v5 v6 b0 b1 b2 HM2 HO HT
        have hB9 := hB10
        clear hB10
        have a0 : wq.cell? ⟨w.heap.size + 1 + 1, 0, none⟩ = some (.int .u8 op) := blk_cell hbx10.out.2.2.1 0
        have a1 : wq.cell? ⟨w.heap.size + 1 + 1, 1, none⟩ = some (.int .u8 key) := blk_cell hbx10.out.2.2.1 1
        have a2 : wq.cell? ⟨w.heap.size + 1 + 1, 2, none⟩ = some (.int .u8 aw) := blk_cell hbx10.out.2.2.1 2
        have a3 : wq.cell? ⟨w.heap.size + 1 + 1, 3, none⟩ = some (.int .u8 ah) := blk_cell hbx10.out.2.2.1 3
        have a4 : wq.cell? ⟨w.heap.size + 1 + 1, 4, none⟩ = some (.int .u8 ink) := blk_cell hbx10.out.2.2.1 4
        have v0 : wq.cell? ⟨w.heap.size + 1, 0, none⟩ = some (.int .i64 PX) := blk_cell hbx10.out.2.1 0
        have v1 : wq.cell? ⟨w.heap.size + 1, 1, none⟩ = some (.int .i64 PY) := blk_cell hbx10.out.2.1 1
        have v2 : wq.cell? ⟨w.heap.size + 1, 2, none⟩ = some (.int .i64 RN) := blk_cell hbx10.out.2.1 2
        have v3 : wq.cell? ⟨w.heap.size + 1, 3, none⟩ = some (.int .i64 RD) := blk_cell hbx10.out.2.1 3
        have v4 : wq.cell? ⟨w.heap.size + 1, 4, none⟩ = some (.int .i64 LO) := blk_cell hbx10.out.2.1 4
        have v5 : wq.cell? ⟨w.heap.size + 1, 5, none⟩ = some (.int .i64 HI) := blk_cell hbx10.out.2.1 5
        have v6 : wq.cell? ⟨w.heap.size + 1, 6, none⟩ = some (.int .u8 INK) := blk_cell hbx10.out.2.1 6

        have he3 : decide (er m3 = 0) = m3 := by cases m3 <;> rfl
        have he4 : (er m3 == 0) = m3 := by cases m3 <;> rfl
        clear he1 he2
        go_upto_region 18 with fail
        cases c2
        case false =>
          refine wp_region_held_drew (S := fun w' => w'.cell? ⟨w.heap.size + 1 + 1, 0, none⟩ = some (.int .u8 op) ∧ w'.cell? ⟨w.heap.size + 1 + 1, 1, none⟩ = some (.int .u8 key) ∧ w'.cell? ⟨w.heap.size + 1 + 1, 2, none⟩ = some (.int .u8 aw) ∧ w'.cell? ⟨w.heap.size + 1 + 1, 3, none⟩ = some (.int .u8 ah) ∧ w'.cell? ⟨w.heap.size + 1 + 1, 4, none⟩ = some (.int .u8 ink) ∧ w'.cell? ⟨w.heap.size + 1, 0, none⟩ = some (.int .i64 PX) ∧ w'.cell? ⟨w.heap.size + 1, 1, none⟩ = some (.int .i64 PY) ∧ w'.cell? ⟨w.heap.size + 1, 2, none⟩ = some (.int .i64 RN) ∧ w'.cell? ⟨w.heap.size + 1, 3, none⟩ = some (.int .i64 RD) ∧ w'.cell? ⟨w.heap.size + 1, 4, none⟩ = some (.int .i64 LO) ∧ w'.cell? ⟨w.heap.size + 1, 5, none⟩ = some (.int .i64 HI) ∧ w'.cell? ⟨w.heap.size + 1, 6, none⟩ = some (.int .u8 INK)) (by kernel_rfl) ⟨a0, a1, a2, a3, a4, v0, v1, v2, v3, v4, v5, v6⟩ (fun hHeld0 => ?_)
          refine wpAnyH_take (i := 0) (oi := { dst := some 98, op := Go.Op.move (Go.Operand.tmp 18), type := 26, pos := "law.go:112", after := #[], guard := none }) (v := ?v0sf) rfl (by kernel_rfl) (by kernel_rfl) (by kernel_rfl) (fun _ _ _ h => h) (Or.inl ⟨by rfl, ?hy0sf⟩) (by assumption) ?rest0sf
          case hy0sf => (intro w hSw; (try dsimp only at hSw); go_simp; try with_reducible rfl)
          try simp only [Act.put, List.setIfInBounds_toArray, List.set_cons_zero, List.set_cons_succ]
          refine wpAnyH_take (i := 1) (oi := { dst := some 99, op := Go.Op.load 35 (Go.Operand.tmp 8), type := 35, pos := "law.go:112", after := #[], guard := none }) (v := ?v1sf) rfl (by kernel_rfl) (by kernel_rfl) (by kernel_rfl) (fun _ _ _ h => h) (Or.inl ⟨by rfl, ?hy1sf⟩) (by assumption) ?rest1sf
          case hy1sf => (intro w hSw; (try dsimp only at hSw); go_simp; try with_reducible rfl)
          try simp only [Act.put, List.setIfInBounds_toArray, List.set_cons_zero, List.set_cons_succ]
          refine wpAnyH_take (i := 3) (oi := { dst := some 101, op := Go.Op.load 39 (Go.Operand.tmp 7), type := 39, pos := "law.go:112", after := #[], guard := none }) (v := ?v3sf) rfl (by kernel_rfl) (by kernel_rfl) (by kernel_rfl) (fun _ _ _ h => h) (Or.inl ⟨by rfl, ?hy3sf⟩) (by assumption) ?rest3sf
          case hy3sf => (intro w hSw; (try dsimp only at hSw); go_simp; try with_reducible rfl)
          try simp only [Act.put, List.setIfInBounds_toArray, List.set_cons_zero, List.set_cons_succ]
          refine wpAnyH_take (i := 6) (oi := { dst := some 104, op := Go.Op.move (Go.Operand.tmp 15), type := 50, pos := "law.go:112", after := #[], guard := none }) (v := ?v6sf) rfl (by kernel_rfl) (by kernel_rfl) (by kernel_rfl) (fun _ _ _ h => h) (Or.inl ⟨by rfl, ?hy6sf⟩) (by assumption) ?rest6sf
          case hy6sf => (intro w hSw; (try dsimp only at hSw); go_simp; try with_reducible rfl)
          try simp only [Act.put, List.setIfInBounds_toArray, List.set_cons_zero, List.set_cons_succ]
          refine wpAnyH_take (i := 7) (oi := { dst := some 105, op := Go.Op.load 35 (Go.Operand.tmp 8), type := 35, pos := "law.go:112", after := #[], guard := none }) (v := ?v7sf) rfl (by kernel_rfl) (by kernel_rfl) (by kernel_rfl) (fun _ _ _ h => h) (Or.inl ⟨by rfl, ?hy7sf⟩) (by assumption) ?rest7sf
          case hy7sf => (intro w hSw; (try dsimp only at hSw); go_simp; try with_reducible rfl)
          try simp only [Act.put, List.setIfInBounds_toArray, List.set_cons_zero, List.set_cons_succ]
          refine wpAnyH_take (i := 9) (oi := { dst := some 107, op := Go.Op.load 39 (Go.Operand.tmp 7), type := 39, pos := "law.go:112", after := #[], guard := none }) (v := ?v9sf) rfl (by kernel_rfl) (by kernel_rfl) (by kernel_rfl) (fun _ _ _ h => h) (Or.inl ⟨by rfl, ?hy9sf⟩) (by assumption) ?rest9sf
          case hy9sf => (intro w hSw; (try dsimp only at hSw); go_simp; try with_reducible rfl)
          try simp only [Act.put, List.setIfInBounds_toArray, List.set_cons_zero, List.set_cons_succ]
          refine wpAnyH_ready (rs := [2]) (by kernel_rfl) (by simp) ?_
          refine AllReadyH.cons (o := { dst := some 100, op := Go.Op.call { callee := Go.Callee.value (Go.Operand.func 13), args := #[Go.Operand.tmp 99], argTypes := #[35] }, type := 30, pos := "law.go:112", after := #[{ on := 1, ground := Go.Ground.data }], guard := none }) rfl (fun K hK => ?_) AllReadyH.nil
          go_simp
          refine (HS.out _).mono ?_; rintro e y1 ⟨gy, cy, rfl, ho, hbq⟩
          have Ry1 : Row y1 0 gy cy al := own_less ho (Nat.zero_le _)
          have Gy1 := own_base ho gy rfl
          clear ho
          have By1 : Below wq.heap.size wq y1 := below_step (below_drew1 (Below.refl _ _)) hbq
          have sy1 := By1.size
          go_wp2_with fail
          refine hK.out _ _ ?_ (fun hHeld1 => ?_)
          · (try dsimp only)
            (go_split_ands; (repeat' apply And.intro) <;> (repeat' (first | with_reducible assumption | (refine cell_later hbq ?_; assumption))))
          clear hK K
          try clear hHeld0
          try simp only [Act.put, List.setIfInBounds_toArray, List.set_cons_zero, List.set_cons_succ]
          clear hbq
          refine wpAnyH_ready (rs := [4]) (by kernel_rfl) (by simp) ?_
          refine AllReadyH.cons (o := { dst := some 102, op := Go.Op.call { callee := Go.Callee.value (Go.Operand.func 15), args := #[Go.Operand.tmp 98, Go.Operand.tmp 100, Go.Operand.tmp 101], argTypes := #[26, 30, 39] }, type := 43, pos := "law.go:112", after := #[{ on := 0, ground := Go.Ground.data }, { on := 2, ground := Go.Ground.data }, { on := 3, ground := Go.Ground.data }, { on := 2, ground := Go.Ground.chain }], guard := none }) rfl (fun K hK => ?_) AllReadyH.nil
          go_simp
          refine (HD3.out F2 T2 gy cy L2 _ hL2.out hL2b.out Ry1 (by have h8 : wq.heap.size ≤ gy := Gy1; omega) (frm_later hF9.out By1)).mono ?_; rintro e y2 ⟨rfl, ⟨L3, hl3a, hl3b, hl3c, hl3d⟩, hS3⟩
          clear hl3a hl3b hl3c hl3d
          have ky0 : y2.cell? ⟨w.heap.size + 1 + 1, 0, none⟩ = some (.int .u8 op) := hS3.cell (a := ⟨w.heap.size + 1 + 1, 0, none⟩) (by show w.heap.size + 1 + 1 ≠ T2; omega) (by go_split_ands; assumption)
          have ky1 : y2.cell? ⟨w.heap.size + 1 + 1, 1, none⟩ = some (.int .u8 key) := hS3.cell (a := ⟨w.heap.size + 1 + 1, 1, none⟩) (by show w.heap.size + 1 + 1 ≠ T2; omega) (by go_split_ands; assumption)
          have ky2 : y2.cell? ⟨w.heap.size + 1 + 1, 2, none⟩ = some (.int .u8 aw) := hS3.cell (a := ⟨w.heap.size + 1 + 1, 2, none⟩) (by show w.heap.size + 1 + 1 ≠ T2; omega) (by go_split_ands; assumption)
          have ky3 : y2.cell? ⟨w.heap.size + 1 + 1, 3, none⟩ = some (.int .u8 ah) := hS3.cell (a := ⟨w.heap.size + 1 + 1, 3, none⟩) (by show w.heap.size + 1 + 1 ≠ T2; omega) (by go_split_ands; assumption)
          have ky4 : y2.cell? ⟨w.heap.size + 1 + 1, 4, none⟩ = some (.int .u8 ink) := hS3.cell (a := ⟨w.heap.size + 1 + 1, 4, none⟩) (by show w.heap.size + 1 + 1 ≠ T2; omega) (by go_split_ands; assumption)
          have ky5 : y2.cell? ⟨w.heap.size + 1, 0, none⟩ = some (.int .i64 PX) := hS3.cell (a := ⟨w.heap.size + 1, 0, none⟩) (by show w.heap.size + 1 ≠ T2; omega) (by go_split_ands; assumption)
          have ky6 : y2.cell? ⟨w.heap.size + 1, 1, none⟩ = some (.int .i64 PY) := hS3.cell (a := ⟨w.heap.size + 1, 1, none⟩) (by show w.heap.size + 1 ≠ T2; omega) (by go_split_ands; assumption)
          have ky7 : y2.cell? ⟨w.heap.size + 1, 2, none⟩ = some (.int .i64 RN) := hS3.cell (a := ⟨w.heap.size + 1, 2, none⟩) (by show w.heap.size + 1 ≠ T2; omega) (by go_split_ands; assumption)
          have ky8 : y2.cell? ⟨w.heap.size + 1, 3, none⟩ = some (.int .i64 RD) := hS3.cell (a := ⟨w.heap.size + 1, 3, none⟩) (by show w.heap.size + 1 ≠ T2; omega) (by go_split_ands; assumption)
          have ky9 : y2.cell? ⟨w.heap.size + 1, 4, none⟩ = some (.int .i64 LO) := hS3.cell (a := ⟨w.heap.size + 1, 4, none⟩) (by show w.heap.size + 1 ≠ T2; omega) (by go_split_ands; assumption)
          have ky10 : y2.cell? ⟨w.heap.size + 1, 5, none⟩ = some (.int .i64 HI) := hS3.cell (a := ⟨w.heap.size + 1, 5, none⟩) (by show w.heap.size + 1 ≠ T2; omega) (by go_split_ands; assumption)
          have ky11 : y2.cell? ⟨w.heap.size + 1, 6, none⟩ = some (.int .u8 INK) := hS3.cell (a := ⟨w.heap.size + 1, 6, none⟩) (by show w.heap.size + 1 ≠ T2; omega) (by go_split_ands; assumption)
          have hBy2 : Below w.heap.size w y2 := sv_below (below_step hB9.out By1) hS3 (by omega) (by have := hB9.out.size; omega)
          go_wp2_with fail
          refine hK.out _ _ ?_ (fun hHeld2 => ?_)
          · (try dsimp only)
            (go_split_ands; (repeat' apply And.intro) <;> with_reducible assumption)
          clear hK K
          try clear hHeld1
          try simp only [Act.put, List.setIfInBounds_toArray, List.set_cons_zero, List.set_cons_succ]
          refine wpAnyH_take (i := 5) (oi := { dst := some 103, op := Go.Op.binOp Go.BinOp.eql 43 (Go.Operand.tmp 102) (Go.Operand.const (Go.Value.int Go.IntKind.i64 0)) 43, type := 4, pos := "law.go:112", after := #[{ on := 4, ground := Go.Ground.data }], guard := none }) (v := ?v5sf) rfl (by kernel_rfl) (by kernel_rfl) (by kernel_rfl) (fun _ _ _ h => h) (Or.inl ⟨by rfl, ?hy5sf⟩) (by assumption) ?rest5sf
          case hy5sf => (intro w hSw; (try dsimp only at hSw); go_simp; try with_reducible rfl)
          try simp only [Act.put, List.setIfInBounds_toArray, List.set_cons_zero, List.set_cons_succ]
          refine wpAnyH_ready (rs := [8]) (by kernel_rfl) (by simp) ?_
          refine AllReadyH.cons (o := { dst := some 106, op := Go.Op.call { callee := Go.Callee.value (Go.Operand.func 13), args := #[Go.Operand.tmp 105], argTypes := #[35] }, type := 30, pos := "law.go:112", after := #[{ on := 7, ground := Go.Ground.data }, { on := 4, ground := Go.Ground.chain }], guard := none }) rfl (fun K hK => ?_) AllReadyH.nil
          go_simp
          refine (HS.out _).mono ?_; rintro e y3 ⟨gz, cz, rfl, ho, hbq⟩
          have Ry3 : Row y3 0 gz cz al := own_less ho (Nat.zero_le _)
          have Gy3 := own_base ho gz rfl
          clear ho
          have By3 : Below w.heap.size w y3 := below_step hBy2 hbq
          go_wp2_with fail
          refine hK.out _ _ ?_ (fun hHeld3 => ?_)
          · (try dsimp only)
            (go_split_ands; (repeat' apply And.intro) <;> (repeat' (first | with_reducible assumption | (refine cell_later hbq ?_; assumption))))
          clear hK K
          try clear hHeld2
          try simp only [Act.put, List.setIfInBounds_toArray, List.set_cons_zero, List.set_cons_succ]
          clear hbq
          refine wpAnyH_ready (rs := [10]) (by kernel_rfl) (by simp) ?_
          refine AllReadyH.cons (o := { dst := some 108, op := Go.Op.call { callee := Go.Callee.value (Go.Operand.tmp 104), args := #[Go.Operand.tmp 106, Go.Operand.tmp 107], argTypes := #[30, 39] }, type := 4, pos := "law.go:112", after := #[{ on := 6, ground := Go.Ground.data }, { on := 8, ground := Go.Ground.data }, { on := 9, ground := Go.Ground.data }, { on := 8, ground := Go.Ground.chain }], guard := none }) rfl (fun K hK => ?_) AllReadyH.nil
          go_simp
          refine (HM3.out _ _ _ Ry3).mono ?_; rintro e y4 ⟨rfl, hbq⟩
          have By4 : Below w.heap.size w y4 := below_step By3 hbq
          go_wp2_with fail
          refine hK.out _ _ ?_ (fun hHeld4 => ?_)
          · (try dsimp only)
            (go_split_ands; (repeat' apply And.intro) <;> (repeat' (first | with_reducible assumption | (refine cell_later hbq ?_; assumption))))
          clear hK K
          try clear hHeld3
          try simp only [Act.put, List.setIfInBounds_toArray, List.set_cons_zero, List.set_cons_succ]
          clear hbq
          refine wpAnyH_take (i := 11) (oi := { dst := some 109, op := Go.Op.binOp Go.BinOp.eql 4 (Go.Operand.tmp 103) (Go.Operand.tmp 108) 4, type := 4, pos := "law.go:112", after := #[{ on := 5, ground := Go.Ground.data }, { on := 10, ground := Go.Ground.data }], guard := none }) (v := ?v11sf) rfl (by kernel_rfl) (by kernel_rfl) (by kernel_rfl) (fun _ _ _ h => h) (Or.inl ⟨by rfl, ?hy11sf⟩) (by assumption) ?rest11sf
          case hy11sf => (intro w hSw; (try dsimp only at hSw); go_simp; try with_reducible rfl)
          try simp only [Act.put, List.setIfInBounds_toArray, List.set_cons_zero, List.set_cons_succ]
          refine wpAnyH_take (i := 12) (oi := { dst := some 110, op := Go.Op.move (Go.Operand.tmp 109), type := 4, pos := "law.go:112", after := #[{ on := 11, ground := Go.Ground.data }, { on := 10, ground := Go.Ground.chain }], guard := none }) (v := ?v12sf) rfl (by kernel_rfl) (by kernel_rfl) (by kernel_rfl) (fun _ _ _ h => h) (Or.inl ⟨by rfl, ?hy12sf⟩) (by assumption) ?rest12sf
          case hy12sf => (intro w hSw; (try dsimp only at hSw); go_simp; try with_reducible rfl)
          try simp only [Act.put, List.setIfInBounds_toArray, List.set_cons_zero, List.set_cons_succ]
          refine wpAnyH_take (i := 13) (oi := { dst := some 111, op := Go.Op.fieldAddr 39 (Go.Operand.tmp 7) 2, type := 0, pos := "law.go:112", after := #[{ on := 12, ground := Go.Ground.guard }], guard := some (12, true) }) (v := ?v13sf) rfl (by kernel_rfl) (by kernel_rfl) (by kernel_rfl) (fun _ _ _ h => h) (Or.inl ⟨by rfl, ?hy13sf⟩) (by assumption) ?rest13sf
          case hy13sf => (intro w hSw; (try dsimp only at hSw); go_simp; try with_reducible rfl)
          try simp only [Act.put, List.setIfInBounds_toArray, List.set_cons_zero, List.set_cons_succ]
          refine wpAnyH_take (i := 14) (oi := { dst := some 112, op := Go.Op.load 37 (Go.Operand.tmp 111), type := 37, pos := "law.go:112", after := #[{ on := 13, ground := Go.Ground.data }, { on := 12, ground := Go.Ground.guard }], guard := some (12, true) }) (v := ?v14sf) rfl (by kernel_rfl) (by kernel_rfl) (by kernel_rfl) (fun _ _ _ h => h) (Or.inl ⟨by rfl, ?hy14sf⟩) (by assumption) ?rest14sf
          case hy14sf => (intro w hSw; (try dsimp only at hSw); go_simp; try with_reducible rfl)
          try simp only [Act.put, List.setIfInBounds_toArray, List.set_cons_zero, List.set_cons_succ]
          refine wpAnyH_take (i := 16) (oi := { dst := some 114, op := Go.Op.fieldAddr 39 (Go.Operand.tmp 7) 2, type := 0, pos := "law.go:112", after := #[{ on := 12, ground := Go.Ground.guard }], guard := some (12, true) }) (v := ?v16sf) rfl (by kernel_rfl) (by kernel_rfl) (by kernel_rfl) (fun _ _ _ h => h) (Or.inl ⟨by rfl, ?hy16sf⟩) (by assumption) ?rest16sf
          case hy16sf => (intro w hSw; (try dsimp only at hSw); go_simp; try with_reducible rfl)
          try simp only [Act.put, List.setIfInBounds_toArray, List.set_cons_zero, List.set_cons_succ]
          refine wpAnyH_take (i := 17) (oi := { dst := some 115, op := Go.Op.fieldAddr 37 (Go.Operand.tmp 114) 0, type := 0, pos := "law.go:112", after := #[{ on := 16, ground := Go.Ground.data }, { on := 12, ground := Go.Ground.guard }], guard := some (12, true) }) (v := ?v17sf) rfl (by kernel_rfl) (by kernel_rfl) (by kernel_rfl) (fun _ _ _ h => h) (Or.inl ⟨by rfl, ?hy17sf⟩) (by assumption) ?rest17sf
          case hy17sf => (intro w hSw; (try dsimp only at hSw); go_simp; try with_reducible rfl)
          try simp only [Act.put, List.setIfInBounds_toArray, List.set_cons_zero, List.set_cons_succ]
          refine wpAnyH_take (i := 18) (oi := { dst := some 116, op := Go.Op.load 3 (Go.Operand.tmp 115), type := 3, pos := "law.go:112", after := #[{ on := 17, ground := Go.Ground.data }, { on := 12, ground := Go.Ground.guard }], guard := some (12, true) }) (v := ?v18sf) rfl (by kernel_rfl) (by kernel_rfl) (by kernel_rfl) (fun _ _ _ h => h) (Or.inl ⟨by rfl, ?hy18sf⟩) (by assumption) ?rest18sf
          case hy18sf => (intro w hSw; (try dsimp only at hSw); go_simp; try with_reducible rfl)
          try simp only [Act.put, List.setIfInBounds_toArray, List.set_cons_zero, List.set_cons_succ]
          refine wpAnyH_take (i := 19) (oi := { dst := some 117, op := Go.Op.fieldAddr 39 (Go.Operand.tmp 7) 2, type := 0, pos := "law.go:112", after := #[{ on := 12, ground := Go.Ground.guard }], guard := some (12, true) }) (v := ?v19sf) rfl (by kernel_rfl) (by kernel_rfl) (by kernel_rfl) (fun _ _ _ h => h) (Or.inl ⟨by rfl, ?hy19sf⟩) (by assumption) ?rest19sf
          case hy19sf => (intro w hSw; (try dsimp only at hSw); go_simp; try with_reducible rfl)
          try simp only [Act.put, List.setIfInBounds_toArray, List.set_cons_zero, List.set_cons_succ]
          refine wpAnyH_take (i := 20) (oi := { dst := some 118, op := Go.Op.fieldAddr 37 (Go.Operand.tmp 117) 1, type := 0, pos := "law.go:112", after := #[{ on := 19, ground := Go.Ground.data }, { on := 12, ground := Go.Ground.guard }], guard := some (12, true) }) (v := ?v20sf) rfl (by kernel_rfl) (by kernel_rfl) (by kernel_rfl) (fun _ _ _ h => h) (Or.inl ⟨by rfl, ?hy20sf⟩) (by assumption) ?rest20sf
          case hy20sf => (intro w hSw; (try dsimp only at hSw); go_simp; try with_reducible rfl)
          try simp only [Act.put, List.setIfInBounds_toArray, List.set_cons_zero, List.set_cons_succ]
          refine wpAnyH_take (i := 21) (oi := { dst := some 119, op := Go.Op.load 3 (Go.Operand.tmp 118), type := 3, pos := "law.go:112", after := #[{ on := 20, ground := Go.Ground.data }, { on := 12, ground := Go.Ground.guard }], guard := some (12, true) }) (v := ?v21sf) rfl (by kernel_rfl) (by kernel_rfl) (by kernel_rfl) (fun _ _ _ h => h) (Or.inl ⟨by rfl, ?hy21sf⟩) (by assumption) ?rest21sf
          case hy21sf => (intro w hSw; (try dsimp only at hSw); go_simp; try with_reducible rfl)
          try simp only [Act.put, List.setIfInBounds_toArray, List.set_cons_zero, List.set_cons_succ]
          refine wpAnyH_take (i := 22) (oi := { dst := some 120, op := Go.Op.call { callee := Go.Callee.builtin Go.Builtin.min, args := #[Go.Operand.tmp 116, Go.Operand.tmp 119], argTypes := #[3, 3] }, type := 3, pos := "law.go:112", after := #[{ on := 18, ground := Go.Ground.data }, { on := 21, ground := Go.Ground.data }, { on := 12, ground := Go.Ground.guard }], guard := some (12, true) }) (v := ?v22sf) rfl (by kernel_rfl) (by kernel_rfl) (by kernel_rfl) (fun _ _ _ h => h) (Or.inl ⟨by rfl, ?hy22sf⟩) (by assumption) ?rest22sf
          case hy22sf => (intro w hSw; (try dsimp only at hSw); go_simp; try with_reducible rfl)
          try simp only [Act.put, List.setIfInBounds_toArray, List.set_cons_zero, List.set_cons_succ]
          refine wpAnyH_take (i := 23) (oi := { dst := some 121, op := Go.Op.binOp Go.BinOp.gtr 3 (Go.Operand.tmp 120) (Go.Operand.const (Go.Value.int Go.IntKind.i64 0)) 3, type := 4, pos := "law.go:112", after := #[{ on := 22, ground := Go.Ground.data }, { on := 12, ground := Go.Ground.guard }], guard := some (12, true) }) (v := ?v23sf) rfl (by kernel_rfl) (by kernel_rfl) (by kernel_rfl) (fun _ _ _ h => h) (Or.inl ⟨by rfl, ?hy23sf⟩) (by assumption) ?rest23sf
          case hy23sf => (intro w hSw; (try dsimp only at hSw); go_simp; try with_reducible rfl)
          try simp only [Act.put, List.setIfInBounds_toArray, List.set_cons_zero, List.set_cons_succ]
          refine wpAnyH_ready (rs := [15]) (by kernel_rfl) (by simp) ?_
          refine AllReadyH.cons (o := { dst := some 113, op := Go.Op.call { callee := Go.Callee.value (Go.Operand.func 19), args := #[Go.Operand.tmp 112], argTypes := #[37] }, type := 4, pos := "law.go:112", after := #[{ on := 14, ground := Go.Ground.data }, { on := 12, ground := Go.Ground.chain }, { on := 12, ground := Go.Ground.guard }], guard := some (12, true) }) rfl (fun K hK => ?_) AllReadyH.nil
          go_simp
          refine (HR3.out _).mono ?_; rintro e y5 ⟨rfl, hbq⟩
          have By5 : Below w.heap.size w y5 := below_step By4 hbq
          go_wp2_with fail
          refine hK.out _ _ ?_ (fun hHeld5 => ?_)
          · (try dsimp only)
            (go_split_ands; (repeat' apply And.intro) <;> (repeat' (first | with_reducible assumption | (refine cell_later hbq ?_; assumption))))
          clear hK K
          try clear hHeld4
          try simp only [Act.put, List.setIfInBounds_toArray, List.set_cons_zero, List.set_cons_succ]
          clear hbq
          refine wpAnyH_take (i := 24) (oi := { dst := some 122, op := Go.Op.move (Go.Operand.tmp 121), type := 4, pos := "law.go:112", after := #[{ on := 23, ground := Go.Ground.data }, { on := 15, ground := Go.Ground.chain }, { on := 12, ground := Go.Ground.guard }], guard := some (12, true) }) (v := ?v24sf) rfl (by kernel_rfl) (by kernel_rfl) (by kernel_rfl) (fun _ _ _ h => h) (Or.inl ⟨by rfl, ?hy24sf⟩) (by assumption) ?rest24sf
          case hy24sf => (intro w hSw; (try dsimp only at hSw); go_simp; try with_reducible rfl)
          try simp only [Act.put, List.setIfInBounds_toArray, List.set_cons_zero, List.set_cons_succ]
          refine wpAnyH_take (i := 25) (oi := { dst := some 123, op := Go.Op.fieldAddr 39 (Go.Operand.tmp 7) 2, type := 0, pos := "law.go:112", after := #[{ on := 24, ground := Go.Ground.guard }], guard := some (24, true) }) (v := undef) rfl (by kernel_rfl) (by kernel_rfl) (by kernel_rfl) (fun _ _ _ h => h) (Or.inr ⟨by rfl, rfl⟩) (by assumption) ?_
          try simp only [Act.put, List.setIfInBounds_toArray, List.set_cons_zero, List.set_cons_succ]
          refine wpAnyH_take (i := 26) (oi := { dst := some 124, op := Go.Op.fieldAddr 37 (Go.Operand.tmp 123) 0, type := 0, pos := "law.go:112", after := #[{ on := 25, ground := Go.Ground.data }, { on := 24, ground := Go.Ground.guard }], guard := some (24, true) }) (v := undef) rfl (by kernel_rfl) (by kernel_rfl) (by kernel_rfl) (fun _ _ _ h => h) (Or.inr ⟨by rfl, rfl⟩) (by assumption) ?_
          try simp only [Act.put, List.setIfInBounds_toArray, List.set_cons_zero, List.set_cons_succ]
          refine wpAnyH_take (i := 27) (oi := { dst := some 125, op := Go.Op.load 3 (Go.Operand.tmp 124), type := 3, pos := "law.go:112", after := #[{ on := 26, ground := Go.Ground.data }, { on := 24, ground := Go.Ground.guard }], guard := some (24, true) }) (v := undef) rfl (by kernel_rfl) (by kernel_rfl) (by kernel_rfl) (fun _ _ _ h => h) (Or.inr ⟨by rfl, rfl⟩) (by assumption) ?_
          try simp only [Act.put, List.setIfInBounds_toArray, List.set_cons_zero, List.set_cons_succ]
          refine wpAnyH_take (i := 28) (oi := { dst := some 126, op := Go.Op.fieldAddr 39 (Go.Operand.tmp 7) 2, type := 0, pos := "law.go:112", after := #[{ on := 24, ground := Go.Ground.guard }], guard := some (24, true) }) (v := undef) rfl (by kernel_rfl) (by kernel_rfl) (by kernel_rfl) (fun _ _ _ h => h) (Or.inr ⟨by rfl, rfl⟩) (by assumption) ?_
          try simp only [Act.put, List.setIfInBounds_toArray, List.set_cons_zero, List.set_cons_succ]
          refine wpAnyH_take (i := 29) (oi := { dst := some 127, op := Go.Op.fieldAddr 37 (Go.Operand.tmp 126) 1, type := 0, pos := "law.go:112", after := #[{ on := 28, ground := Go.Ground.data }, { on := 24, ground := Go.Ground.guard }], guard := some (24, true) }) (v := undef) rfl (by kernel_rfl) (by kernel_rfl) (by kernel_rfl) (fun _ _ _ h => h) (Or.inr ⟨by rfl, rfl⟩) (by assumption) ?_
          try simp only [Act.put, List.setIfInBounds_toArray, List.set_cons_zero, List.set_cons_succ]
          refine wpAnyH_take (i := 30) (oi := { dst := some 128, op := Go.Op.load 3 (Go.Operand.tmp 127), type := 3, pos := "law.go:112", after := #[{ on := 29, ground := Go.Ground.data }, { on := 24, ground := Go.Ground.guard }], guard := some (24, true) }) (v := undef) rfl (by kernel_rfl) (by kernel_rfl) (by kernel_rfl) (fun _ _ _ h => h) (Or.inr ⟨by rfl, rfl⟩) (by assumption) ?_
          try simp only [Act.put, List.setIfInBounds_toArray, List.set_cons_zero, List.set_cons_succ]
          refine wpAnyH_take (i := 31) (oi := { dst := some 129, op := Go.Op.call { callee := Go.Callee.builtin Go.Builtin.max, args := #[Go.Operand.tmp 125, Go.Operand.tmp 128], argTypes := #[3, 3] }, type := 3, pos := "law.go:112", after := #[{ on := 27, ground := Go.Ground.data }, { on := 30, ground := Go.Ground.data }, { on := 24, ground := Go.Ground.guard }], guard := some (24, true) }) (v := undef) rfl (by kernel_rfl) (by kernel_rfl) (by kernel_rfl) (fun _ _ _ h => h) (Or.inr ⟨by rfl, rfl⟩) (by assumption) ?_
          try simp only [Act.put, List.setIfInBounds_toArray, List.set_cons_zero, List.set_cons_succ]
          refine wpAnyH_take (i := 32) (oi := { dst := some 130, op := Go.Op.binOp Go.BinOp.lss 3 (Go.Operand.tmp 129) (Go.Operand.const (Go.Value.int Go.IntKind.i64 65)) 3, type := 4, pos := "law.go:112", after := #[{ on := 31, ground := Go.Ground.data }, { on := 24, ground := Go.Ground.guard }], guard := some (24, true) }) (v := undef) rfl (by kernel_rfl) (by kernel_rfl) (by kernel_rfl) (fun _ _ _ h => h) (Or.inr ⟨by rfl, rfl⟩) (by assumption) ?_
          try simp only [Act.put, List.setIfInBounds_toArray, List.set_cons_zero, List.set_cons_succ]
          refine wpAnyH_take (i := 33) (oi := { dst := some 131, op := Go.Op.pick (Go.Operand.tmp 122) (Go.Operand.tmp 130) (Go.Operand.const (Go.Value.bool false)), type := 4, pos := "law.go:112", after := #[{ on := 24, ground := Go.Ground.data }, { on := 32, ground := Go.Ground.data }, { on := 12, ground := Go.Ground.guard }], guard := some (12, true) }) (v := ?v33sf) rfl (by kernel_rfl) (by kernel_rfl) (by kernel_rfl) (fun _ _ _ h => h) (Or.inl ⟨by rfl, ?hy33sf⟩) (by assumption) ?rest33sf
          case hy33sf => (intro w hSw; (try dsimp only at hSw); go_simp; try with_reducible rfl)
          try simp only [Act.put, List.setIfInBounds_toArray, List.set_cons_zero, List.set_cons_succ]
          refine wpAnyH_take (i := 34) (oi := { dst := some 132, op := Go.Op.binOp Go.BinOp.eql 4 (Go.Operand.tmp 113) (Go.Operand.tmp 131) 4, type := 4, pos := "law.go:112", after := #[{ on := 15, ground := Go.Ground.data }, { on := 33, ground := Go.Ground.data }, { on := 12, ground := Go.Ground.guard }], guard := some (12, true) }) (v := ?v34sf) rfl (by kernel_rfl) (by kernel_rfl) (by kernel_rfl) (fun _ _ _ h => h) (Or.inl ⟨by rfl, ?hy34sf⟩) (by assumption) ?rest34sf
          case hy34sf => (intro w hSw; (try dsimp only at hSw); go_simp; try with_reducible rfl)
          try simp only [Act.put, List.setIfInBounds_toArray, List.set_cons_zero, List.set_cons_succ]
          refine wpAnyH_take (i := 35) (oi := { dst := some 133, op := Go.Op.pick (Go.Operand.tmp 110) (Go.Operand.tmp 132) (Go.Operand.const (Go.Value.bool false)), type := 4, pos := "law.go:112", after := #[{ on := 12, ground := Go.Ground.data }, { on := 34, ground := Go.Ground.data }], guard := none }) (v := ?v35sf) rfl (by kernel_rfl) (by kernel_rfl) (by kernel_rfl) (fun _ _ _ h => h) (Or.inl ⟨by rfl, ?hy35sf⟩) (by assumption) ?rest35sf
          case hy35sf => (intro w hSw; (try dsimp only at hSw); go_simp; try with_reducible rfl)
          try simp only [Act.put, List.setIfInBounds_toArray, List.set_cons_zero, List.set_cons_succ]
          refine wpAnyH_take (i := 36) (oi := { dst := some 12, op := Go.Op.assign (Go.Operand.tmp 133), type := 4, pos := "law.go:112", after := #[{ on := 35, ground := Go.Ground.data }, { on := 24, ground := Go.Ground.chain }, { on := 0, ground := Go.Ground.phase }, { on := 1, ground := Go.Ground.phase }, { on := 2, ground := Go.Ground.phase }, { on := 3, ground := Go.Ground.phase }, { on := 4, ground := Go.Ground.phase }, { on := 5, ground := Go.Ground.phase }, { on := 6, ground := Go.Ground.phase }, { on := 7, ground := Go.Ground.phase }, { on := 8, ground := Go.Ground.phase }, { on := 9, ground := Go.Ground.phase }, { on := 10, ground := Go.Ground.phase }, { on := 11, ground := Go.Ground.phase }, { on := 12, ground := Go.Ground.phase }, { on := 13, ground := Go.Ground.phase }, { on := 14, ground := Go.Ground.phase }, { on := 15, ground := Go.Ground.phase }, { on := 16, ground := Go.Ground.phase }, { on := 17, ground := Go.Ground.phase }, { on := 18, ground := Go.Ground.phase }, { on := 19, ground := Go.Ground.phase }, { on := 20, ground := Go.Ground.phase }, { on := 21, ground := Go.Ground.phase }, { on := 22, ground := Go.Ground.phase }, { on := 23, ground := Go.Ground.phase }, { on := 24, ground := Go.Ground.phase }, { on := 25, ground := Go.Ground.phase }, { on := 26, ground := Go.Ground.phase }, { on := 27, ground := Go.Ground.phase }, { on := 28, ground := Go.Ground.phase }, { on := 29, ground := Go.Ground.phase }, { on := 30, ground := Go.Ground.phase }, { on := 31, ground := Go.Ground.phase }, { on := 32, ground := Go.Ground.phase }, { on := 33, ground := Go.Ground.phase }, { on := 34, ground := Go.Ground.phase }, { on := 35, ground := Go.Ground.phase }], guard := none }) (v := ?v36sf) rfl (by kernel_rfl) (by kernel_rfl) (by kernel_rfl) (fun _ _ _ h => h) (Or.inl ⟨by rfl, ?hy36sf⟩) (by assumption) ?rest36sf
          case hy36sf => (intro w hSw; (try dsimp only at hSw); go_simp; try with_reducible rfl)
          try simp only [Act.put, List.setIfInBounds_toArray, List.set_cons_zero, List.set_cons_succ]
          refine wpAnyH_done (by kernel_rfl) ?_ _
          go_wp2_with fail
          go_ret
          exact ⟨rfl, By5⟩
        case true =>
          cases c3
          case false =>
            refine wp_region_held_drew (S := fun w' => w'.cell? ⟨w.heap.size + 1 + 1, 0, none⟩ = some (.int .u8 op) ∧ w'.cell? ⟨w.heap.size + 1 + 1, 1, none⟩ = some (.int .u8 key) ∧ w'.cell? ⟨w.heap.size + 1 + 1, 2, none⟩ = some (.int .u8 aw) ∧ w'.cell? ⟨w.heap.size + 1 + 1, 3, none⟩ = some (.int .u8 ah) ∧ w'.cell? ⟨w.heap.size + 1 + 1, 4, none⟩ = some (.int .u8 ink) ∧ w'.cell? ⟨w.heap.size + 1, 0, none⟩ = some (.int .i64 PX) ∧ w'.cell? ⟨w.heap.size + 1, 1, none⟩ = some (.int .i64 PY) ∧ w'.cell? ⟨w.heap.size + 1, 2, none⟩ = some (.int .i64 RN) ∧ w'.cell? ⟨w.heap.size + 1, 3, none⟩ = some (.int .i64 RD) ∧ w'.cell? ⟨w.heap.size + 1, 4, none⟩ = some (.int .i64 LO) ∧ w'.cell? ⟨w.heap.size + 1, 5, none⟩ = some (.int .i64 HI) ∧ w'.cell? ⟨w.heap.size + 1, 6, none⟩ = some (.int .u8 INK)) (by kernel_rfl) ⟨a0, a1, a2, a3, a4, v0, v1, v2, v3, v4, v5, v6⟩ (fun hHeld0 => ?_)
            refine wpAnyH_take (i := 0) (oi := { dst := some 98, op := Go.Op.move (Go.Operand.tmp 18), type := 26, pos := "law.go:112", after := #[], guard := none }) (v := ?v0stf) rfl (by kernel_rfl) (by kernel_rfl) (by kernel_rfl) (fun _ _ _ h => h) (Or.inl ⟨by rfl, ?hy0stf⟩) (by assumption) ?rest0stf
            case hy0stf => (intro w hSw; (try dsimp only at hSw); go_simp; try with_reducible rfl)
            try simp only [Act.put, List.setIfInBounds_toArray, List.set_cons_zero, List.set_cons_succ]
            refine wpAnyH_take (i := 1) (oi := { dst := some 99, op := Go.Op.load 35 (Go.Operand.tmp 8), type := 35, pos := "law.go:112", after := #[], guard := none }) (v := ?v1stf) rfl (by kernel_rfl) (by kernel_rfl) (by kernel_rfl) (fun _ _ _ h => h) (Or.inl ⟨by rfl, ?hy1stf⟩) (by assumption) ?rest1stf
            case hy1stf => (intro w hSw; (try dsimp only at hSw); go_simp; try with_reducible rfl)
            try simp only [Act.put, List.setIfInBounds_toArray, List.set_cons_zero, List.set_cons_succ]
            refine wpAnyH_take (i := 3) (oi := { dst := some 101, op := Go.Op.load 39 (Go.Operand.tmp 7), type := 39, pos := "law.go:112", after := #[], guard := none }) (v := ?v3stf) rfl (by kernel_rfl) (by kernel_rfl) (by kernel_rfl) (fun _ _ _ h => h) (Or.inl ⟨by rfl, ?hy3stf⟩) (by assumption) ?rest3stf
            case hy3stf => (intro w hSw; (try dsimp only at hSw); go_simp; try with_reducible rfl)
            try simp only [Act.put, List.setIfInBounds_toArray, List.set_cons_zero, List.set_cons_succ]
            refine wpAnyH_take (i := 6) (oi := { dst := some 104, op := Go.Op.move (Go.Operand.tmp 15), type := 50, pos := "law.go:112", after := #[], guard := none }) (v := ?v6stf) rfl (by kernel_rfl) (by kernel_rfl) (by kernel_rfl) (fun _ _ _ h => h) (Or.inl ⟨by rfl, ?hy6stf⟩) (by assumption) ?rest6stf
            case hy6stf => (intro w hSw; (try dsimp only at hSw); go_simp; try with_reducible rfl)
            try simp only [Act.put, List.setIfInBounds_toArray, List.set_cons_zero, List.set_cons_succ]
            refine wpAnyH_take (i := 7) (oi := { dst := some 105, op := Go.Op.load 35 (Go.Operand.tmp 8), type := 35, pos := "law.go:112", after := #[], guard := none }) (v := ?v7stf) rfl (by kernel_rfl) (by kernel_rfl) (by kernel_rfl) (fun _ _ _ h => h) (Or.inl ⟨by rfl, ?hy7stf⟩) (by assumption) ?rest7stf
            case hy7stf => (intro w hSw; (try dsimp only at hSw); go_simp; try with_reducible rfl)
            try simp only [Act.put, List.setIfInBounds_toArray, List.set_cons_zero, List.set_cons_succ]
            refine wpAnyH_take (i := 9) (oi := { dst := some 107, op := Go.Op.load 39 (Go.Operand.tmp 7), type := 39, pos := "law.go:112", after := #[], guard := none }) (v := ?v9stf) rfl (by kernel_rfl) (by kernel_rfl) (by kernel_rfl) (fun _ _ _ h => h) (Or.inl ⟨by rfl, ?hy9stf⟩) (by assumption) ?rest9stf
            case hy9stf => (intro w hSw; (try dsimp only at hSw); go_simp; try with_reducible rfl)
            try simp only [Act.put, List.setIfInBounds_toArray, List.set_cons_zero, List.set_cons_succ]
            refine wpAnyH_ready (rs := [2]) (by kernel_rfl) (by simp) ?_
            refine AllReadyH.cons (o := { dst := some 100, op := Go.Op.call { callee := Go.Callee.value (Go.Operand.func 13), args := #[Go.Operand.tmp 99], argTypes := #[35] }, type := 30, pos := "law.go:112", after := #[{ on := 1, ground := Go.Ground.data }], guard := none }) rfl (fun K hK => ?_) AllReadyH.nil
            go_simp
            refine (HS.out _).mono ?_; rintro e y1 ⟨gy, cy, rfl, ho, hbq⟩
            have Ry1 : Row y1 0 gy cy al := own_less ho (Nat.zero_le _)
            have Gy1 := own_base ho gy rfl
            clear ho
            have By1 : Below wq.heap.size wq y1 := below_step (below_drew1 (Below.refl _ _)) hbq
            have sy1 := By1.size
            go_wp2_with fail
            refine hK.out _ _ ?_ (fun hHeld1 => ?_)
            · (try dsimp only)
              (go_split_ands; (repeat' apply And.intro) <;> (repeat' (first | with_reducible assumption | (refine cell_later hbq ?_; assumption))))
            clear hK K
            try clear hHeld0
            try simp only [Act.put, List.setIfInBounds_toArray, List.set_cons_zero, List.set_cons_succ]
            clear hbq
            refine wpAnyH_ready (rs := [4]) (by kernel_rfl) (by simp) ?_
            refine AllReadyH.cons (o := { dst := some 102, op := Go.Op.call { callee := Go.Callee.value (Go.Operand.func 15), args := #[Go.Operand.tmp 98, Go.Operand.tmp 100, Go.Operand.tmp 101], argTypes := #[26, 30, 39] }, type := 43, pos := "law.go:112", after := #[{ on := 0, ground := Go.Ground.data }, { on := 2, ground := Go.Ground.data }, { on := 3, ground := Go.Ground.data }, { on := 2, ground := Go.Ground.chain }], guard := none }) rfl (fun K hK => ?_) AllReadyH.nil
            go_simp
            refine (HD3.out F2 T2 gy cy L2 _ hL2.out hL2b.out Ry1 (by have h8 : wq.heap.size ≤ gy := Gy1; omega) (frm_later hF9.out By1)).mono ?_; rintro e y2 ⟨rfl, ⟨L3, hl3a, hl3b, hl3c, hl3d⟩, hS3⟩
            clear hl3a hl3b hl3c hl3d
            have ky0 : y2.cell? ⟨w.heap.size + 1 + 1, 0, none⟩ = some (.int .u8 op) := hS3.cell (a := ⟨w.heap.size + 1 + 1, 0, none⟩) (by show w.heap.size + 1 + 1 ≠ T2; omega) (by go_split_ands; assumption)
            have ky1 : y2.cell? ⟨w.heap.size + 1 + 1, 1, none⟩ = some (.int .u8 key) := hS3.cell (a := ⟨w.heap.size + 1 + 1, 1, none⟩) (by show w.heap.size + 1 + 1 ≠ T2; omega) (by go_split_ands; assumption)
            have ky2 : y2.cell? ⟨w.heap.size + 1 + 1, 2, none⟩ = some (.int .u8 aw) := hS3.cell (a := ⟨w.heap.size + 1 + 1, 2, none⟩) (by show w.heap.size + 1 + 1 ≠ T2; omega) (by go_split_ands; assumption)
            have ky3 : y2.cell? ⟨w.heap.size + 1 + 1, 3, none⟩ = some (.int .u8 ah) := hS3.cell (a := ⟨w.heap.size + 1 + 1, 3, none⟩) (by show w.heap.size + 1 + 1 ≠ T2; omega) (by go_split_ands; assumption)
            have ky4 : y2.cell? ⟨w.heap.size + 1 + 1, 4, none⟩ = some (.int .u8 ink) := hS3.cell (a := ⟨w.heap.size + 1 + 1, 4, none⟩) (by show w.heap.size + 1 + 1 ≠ T2; omega) (by go_split_ands; assumption)
            have ky5 : y2.cell? ⟨w.heap.size + 1, 0, none⟩ = some (.int .i64 PX) := hS3.cell (a := ⟨w.heap.size + 1, 0, none⟩) (by show w.heap.size + 1 ≠ T2; omega) (by go_split_ands; assumption)
            have ky6 : y2.cell? ⟨w.heap.size + 1, 1, none⟩ = some (.int .i64 PY) := hS3.cell (a := ⟨w.heap.size + 1, 1, none⟩) (by show w.heap.size + 1 ≠ T2; omega) (by go_split_ands; assumption)
            have ky7 : y2.cell? ⟨w.heap.size + 1, 2, none⟩ = some (.int .i64 RN) := hS3.cell (a := ⟨w.heap.size + 1, 2, none⟩) (by show w.heap.size + 1 ≠ T2; omega) (by go_split_ands; assumption)
            have ky8 : y2.cell? ⟨w.heap.size + 1, 3, none⟩ = some (.int .i64 RD) := hS3.cell (a := ⟨w.heap.size + 1, 3, none⟩) (by show w.heap.size + 1 ≠ T2; omega) (by go_split_ands; assumption)
            have ky9 : y2.cell? ⟨w.heap.size + 1, 4, none⟩ = some (.int .i64 LO) := hS3.cell (a := ⟨w.heap.size + 1, 4, none⟩) (by show w.heap.size + 1 ≠ T2; omega) (by go_split_ands; assumption)
            have ky10 : y2.cell? ⟨w.heap.size + 1, 5, none⟩ = some (.int .i64 HI) := hS3.cell (a := ⟨w.heap.size + 1, 5, none⟩) (by show w.heap.size + 1 ≠ T2; omega) (by go_split_ands; assumption)
            have ky11 : y2.cell? ⟨w.heap.size + 1, 6, none⟩ = some (.int .u8 INK) := hS3.cell (a := ⟨w.heap.size + 1, 6, none⟩) (by show w.heap.size + 1 ≠ T2; omega) (by go_split_ands; assumption)
            have hBy2 : Below w.heap.size w y2 := sv_below (below_step hB9.out By1) hS3 (by omega) (by have := hB9.out.size; omega)
            go_wp2_with fail
            refine hK.out _ _ ?_ (fun hHeld2 => ?_)
            · (try dsimp only)
              (go_split_ands; (repeat' apply And.intro) <;> with_reducible assumption)
            clear hK K
            try clear hHeld1
            try simp only [Act.put, List.setIfInBounds_toArray, List.set_cons_zero, List.set_cons_succ]
            refine wpAnyH_take (i := 5) (oi := { dst := some 103, op := Go.Op.binOp Go.BinOp.eql 43 (Go.Operand.tmp 102) (Go.Operand.const (Go.Value.int Go.IntKind.i64 0)) 43, type := 4, pos := "law.go:112", after := #[{ on := 4, ground := Go.Ground.data }], guard := none }) (v := ?v5stf) rfl (by kernel_rfl) (by kernel_rfl) (by kernel_rfl) (fun _ _ _ h => h) (Or.inl ⟨by rfl, ?hy5stf⟩) (by assumption) ?rest5stf
            case hy5stf => (intro w hSw; (try dsimp only at hSw); go_simp; try with_reducible rfl)
            try simp only [Act.put, List.setIfInBounds_toArray, List.set_cons_zero, List.set_cons_succ]
            refine wpAnyH_ready (rs := [8]) (by kernel_rfl) (by simp) ?_
            refine AllReadyH.cons (o := { dst := some 106, op := Go.Op.call { callee := Go.Callee.value (Go.Operand.func 13), args := #[Go.Operand.tmp 105], argTypes := #[35] }, type := 30, pos := "law.go:112", after := #[{ on := 7, ground := Go.Ground.data }, { on := 4, ground := Go.Ground.chain }], guard := none }) rfl (fun K hK => ?_) AllReadyH.nil
            go_simp
            refine (HS.out _).mono ?_; rintro e y3 ⟨gz, cz, rfl, ho, hbq⟩
            have Ry3 : Row y3 0 gz cz al := own_less ho (Nat.zero_le _)
            have Gy3 := own_base ho gz rfl
            clear ho
            have By3 : Below w.heap.size w y3 := below_step hBy2 hbq
            go_wp2_with fail
            refine hK.out _ _ ?_ (fun hHeld3 => ?_)
            · (try dsimp only)
              (go_split_ands; (repeat' apply And.intro) <;> (repeat' (first | with_reducible assumption | (refine cell_later hbq ?_; assumption))))
            clear hK K
            try clear hHeld2
            try simp only [Act.put, List.setIfInBounds_toArray, List.set_cons_zero, List.set_cons_succ]
            clear hbq
            refine wpAnyH_ready (rs := [10]) (by kernel_rfl) (by simp) ?_
            refine AllReadyH.cons (o := { dst := some 108, op := Go.Op.call { callee := Go.Callee.value (Go.Operand.tmp 104), args := #[Go.Operand.tmp 106, Go.Operand.tmp 107], argTypes := #[30, 39] }, type := 4, pos := "law.go:112", after := #[{ on := 6, ground := Go.Ground.data }, { on := 8, ground := Go.Ground.data }, { on := 9, ground := Go.Ground.data }, { on := 8, ground := Go.Ground.chain }], guard := none }) rfl (fun K hK => ?_) AllReadyH.nil
            go_simp
            refine (HM3.out _ _ _ Ry3).mono ?_; rintro e y4 ⟨rfl, hbq⟩
            have By4 : Below w.heap.size w y4 := below_step By3 hbq
            go_wp2_with fail
            refine hK.out _ _ ?_ (fun hHeld4 => ?_)
            · (try dsimp only)
              (go_split_ands; (repeat' apply And.intro) <;> (repeat' (first | with_reducible assumption | (refine cell_later hbq ?_; assumption))))
            clear hK K
            try clear hHeld3
            try simp only [Act.put, List.setIfInBounds_toArray, List.set_cons_zero, List.set_cons_succ]
            clear hbq
            refine wpAnyH_take (i := 11) (oi := { dst := some 109, op := Go.Op.binOp Go.BinOp.eql 4 (Go.Operand.tmp 103) (Go.Operand.tmp 108) 4, type := 4, pos := "law.go:112", after := #[{ on := 5, ground := Go.Ground.data }, { on := 10, ground := Go.Ground.data }], guard := none }) (v := ?v11stf) rfl (by kernel_rfl) (by kernel_rfl) (by kernel_rfl) (fun _ _ _ h => h) (Or.inl ⟨by rfl, ?hy11stf⟩) (by assumption) ?rest11stf
            case hy11stf => (intro w hSw; (try dsimp only at hSw); go_simp; try with_reducible rfl)
            try simp only [Act.put, List.setIfInBounds_toArray, List.set_cons_zero, List.set_cons_succ]
            refine wpAnyH_take (i := 12) (oi := { dst := some 110, op := Go.Op.move (Go.Operand.tmp 109), type := 4, pos := "law.go:112", after := #[{ on := 11, ground := Go.Ground.data }, { on := 10, ground := Go.Ground.chain }], guard := none }) (v := ?v12stf) rfl (by kernel_rfl) (by kernel_rfl) (by kernel_rfl) (fun _ _ _ h => h) (Or.inl ⟨by rfl, ?hy12stf⟩) (by assumption) ?rest12stf
            case hy12stf => (intro w hSw; (try dsimp only at hSw); go_simp; try with_reducible rfl)
            try simp only [Act.put, List.setIfInBounds_toArray, List.set_cons_zero, List.set_cons_succ]
            refine wpAnyH_take (i := 13) (oi := { dst := some 111, op := Go.Op.fieldAddr 39 (Go.Operand.tmp 7) 2, type := 0, pos := "law.go:112", after := #[{ on := 12, ground := Go.Ground.guard }], guard := some (12, true) }) (v := ?v13stf) rfl (by kernel_rfl) (by kernel_rfl) (by kernel_rfl) (fun _ _ _ h => h) (Or.inl ⟨by rfl, ?hy13stf⟩) (by assumption) ?rest13stf
            case hy13stf => (intro w hSw; (try dsimp only at hSw); go_simp; try with_reducible rfl)
            try simp only [Act.put, List.setIfInBounds_toArray, List.set_cons_zero, List.set_cons_succ]
            refine wpAnyH_take (i := 14) (oi := { dst := some 112, op := Go.Op.load 37 (Go.Operand.tmp 111), type := 37, pos := "law.go:112", after := #[{ on := 13, ground := Go.Ground.data }, { on := 12, ground := Go.Ground.guard }], guard := some (12, true) }) (v := ?v14stf) rfl (by kernel_rfl) (by kernel_rfl) (by kernel_rfl) (fun _ _ _ h => h) (Or.inl ⟨by rfl, ?hy14stf⟩) (by assumption) ?rest14stf
            case hy14stf => (intro w hSw; (try dsimp only at hSw); go_simp; try with_reducible rfl)
            try simp only [Act.put, List.setIfInBounds_toArray, List.set_cons_zero, List.set_cons_succ]
            refine wpAnyH_take (i := 16) (oi := { dst := some 114, op := Go.Op.fieldAddr 39 (Go.Operand.tmp 7) 2, type := 0, pos := "law.go:112", after := #[{ on := 12, ground := Go.Ground.guard }], guard := some (12, true) }) (v := ?v16stf) rfl (by kernel_rfl) (by kernel_rfl) (by kernel_rfl) (fun _ _ _ h => h) (Or.inl ⟨by rfl, ?hy16stf⟩) (by assumption) ?rest16stf
            case hy16stf => (intro w hSw; (try dsimp only at hSw); go_simp; try with_reducible rfl)
            try simp only [Act.put, List.setIfInBounds_toArray, List.set_cons_zero, List.set_cons_succ]
            refine wpAnyH_take (i := 17) (oi := { dst := some 115, op := Go.Op.fieldAddr 37 (Go.Operand.tmp 114) 0, type := 0, pos := "law.go:112", after := #[{ on := 16, ground := Go.Ground.data }, { on := 12, ground := Go.Ground.guard }], guard := some (12, true) }) (v := ?v17stf) rfl (by kernel_rfl) (by kernel_rfl) (by kernel_rfl) (fun _ _ _ h => h) (Or.inl ⟨by rfl, ?hy17stf⟩) (by assumption) ?rest17stf
            case hy17stf => (intro w hSw; (try dsimp only at hSw); go_simp; try with_reducible rfl)
            try simp only [Act.put, List.setIfInBounds_toArray, List.set_cons_zero, List.set_cons_succ]
            refine wpAnyH_take (i := 18) (oi := { dst := some 116, op := Go.Op.load 3 (Go.Operand.tmp 115), type := 3, pos := "law.go:112", after := #[{ on := 17, ground := Go.Ground.data }, { on := 12, ground := Go.Ground.guard }], guard := some (12, true) }) (v := ?v18stf) rfl (by kernel_rfl) (by kernel_rfl) (by kernel_rfl) (fun _ _ _ h => h) (Or.inl ⟨by rfl, ?hy18stf⟩) (by assumption) ?rest18stf
            case hy18stf => (intro w hSw; (try dsimp only at hSw); go_simp; try with_reducible rfl)
            try simp only [Act.put, List.setIfInBounds_toArray, List.set_cons_zero, List.set_cons_succ]
            refine wpAnyH_take (i := 19) (oi := { dst := some 117, op := Go.Op.fieldAddr 39 (Go.Operand.tmp 7) 2, type := 0, pos := "law.go:112", after := #[{ on := 12, ground := Go.Ground.guard }], guard := some (12, true) }) (v := ?v19stf) rfl (by kernel_rfl) (by kernel_rfl) (by kernel_rfl) (fun _ _ _ h => h) (Or.inl ⟨by rfl, ?hy19stf⟩) (by assumption) ?rest19stf
            case hy19stf => (intro w hSw; (try dsimp only at hSw); go_simp; try with_reducible rfl)
            try simp only [Act.put, List.setIfInBounds_toArray, List.set_cons_zero, List.set_cons_succ]
            refine wpAnyH_take (i := 20) (oi := { dst := some 118, op := Go.Op.fieldAddr 37 (Go.Operand.tmp 117) 1, type := 0, pos := "law.go:112", after := #[{ on := 19, ground := Go.Ground.data }, { on := 12, ground := Go.Ground.guard }], guard := some (12, true) }) (v := ?v20stf) rfl (by kernel_rfl) (by kernel_rfl) (by kernel_rfl) (fun _ _ _ h => h) (Or.inl ⟨by rfl, ?hy20stf⟩) (by assumption) ?rest20stf
            case hy20stf => (intro w hSw; (try dsimp only at hSw); go_simp; try with_reducible rfl)
            try simp only [Act.put, List.setIfInBounds_toArray, List.set_cons_zero, List.set_cons_succ]
            refine wpAnyH_take (i := 21) (oi := { dst := some 119, op := Go.Op.load 3 (Go.Operand.tmp 118), type := 3, pos := "law.go:112", after := #[{ on := 20, ground := Go.Ground.data }, { on := 12, ground := Go.Ground.guard }], guard := some (12, true) }) (v := ?v21stf) rfl (by kernel_rfl) (by kernel_rfl) (by kernel_rfl) (fun _ _ _ h => h) (Or.inl ⟨by rfl, ?hy21stf⟩) (by assumption) ?rest21stf
            case hy21stf => (intro w hSw; (try dsimp only at hSw); go_simp; try with_reducible rfl)
            try simp only [Act.put, List.setIfInBounds_toArray, List.set_cons_zero, List.set_cons_succ]
            refine wpAnyH_take (i := 22) (oi := { dst := some 120, op := Go.Op.call { callee := Go.Callee.builtin Go.Builtin.min, args := #[Go.Operand.tmp 116, Go.Operand.tmp 119], argTypes := #[3, 3] }, type := 3, pos := "law.go:112", after := #[{ on := 18, ground := Go.Ground.data }, { on := 21, ground := Go.Ground.data }, { on := 12, ground := Go.Ground.guard }], guard := some (12, true) }) (v := ?v22stf) rfl (by kernel_rfl) (by kernel_rfl) (by kernel_rfl) (fun _ _ _ h => h) (Or.inl ⟨by rfl, ?hy22stf⟩) (by assumption) ?rest22stf
            case hy22stf => (intro w hSw; (try dsimp only at hSw); go_simp; try with_reducible rfl)
            try simp only [Act.put, List.setIfInBounds_toArray, List.set_cons_zero, List.set_cons_succ]
            refine wpAnyH_take (i := 23) (oi := { dst := some 121, op := Go.Op.binOp Go.BinOp.gtr 3 (Go.Operand.tmp 120) (Go.Operand.const (Go.Value.int Go.IntKind.i64 0)) 3, type := 4, pos := "law.go:112", after := #[{ on := 22, ground := Go.Ground.data }, { on := 12, ground := Go.Ground.guard }], guard := some (12, true) }) (v := ?v23stf) rfl (by kernel_rfl) (by kernel_rfl) (by kernel_rfl) (fun _ _ _ h => h) (Or.inl ⟨by rfl, ?hy23stf⟩) (by assumption) ?rest23stf
            case hy23stf => (intro w hSw; (try dsimp only at hSw); go_simp; try with_reducible rfl)
            try simp only [Act.put, List.setIfInBounds_toArray, List.set_cons_zero, List.set_cons_succ]
            refine wpAnyH_ready (rs := [15]) (by kernel_rfl) (by simp) ?_
            refine AllReadyH.cons (o := { dst := some 113, op := Go.Op.call { callee := Go.Callee.value (Go.Operand.func 19), args := #[Go.Operand.tmp 112], argTypes := #[37] }, type := 4, pos := "law.go:112", after := #[{ on := 14, ground := Go.Ground.data }, { on := 12, ground := Go.Ground.chain }, { on := 12, ground := Go.Ground.guard }], guard := some (12, true) }) rfl (fun K hK => ?_) AllReadyH.nil
            go_simp
            refine (HR3.out _).mono ?_; rintro e y5 ⟨rfl, hbq⟩
            have By5 : Below w.heap.size w y5 := below_step By4 hbq
            go_wp2_with fail
            refine hK.out _ _ ?_ (fun hHeld5 => ?_)
            · (try dsimp only)
              (go_split_ands; (repeat' apply And.intro) <;> (repeat' (first | with_reducible assumption | (refine cell_later hbq ?_; assumption))))
            clear hK K
            try clear hHeld4
            try simp only [Act.put, List.setIfInBounds_toArray, List.set_cons_zero, List.set_cons_succ]
            clear hbq
            refine wpAnyH_take (i := 24) (oi := { dst := some 122, op := Go.Op.move (Go.Operand.tmp 121), type := 4, pos := "law.go:112", after := #[{ on := 23, ground := Go.Ground.data }, { on := 15, ground := Go.Ground.chain }, { on := 12, ground := Go.Ground.guard }], guard := some (12, true) }) (v := ?v24stf) rfl (by kernel_rfl) (by kernel_rfl) (by kernel_rfl) (fun _ _ _ h => h) (Or.inl ⟨by rfl, ?hy24stf⟩) (by assumption) ?rest24stf
            case hy24stf => (intro w hSw; (try dsimp only at hSw); go_simp; try with_reducible rfl)
            try simp only [Act.put, List.setIfInBounds_toArray, List.set_cons_zero, List.set_cons_succ]
            refine wpAnyH_take (i := 25) (oi := { dst := some 123, op := Go.Op.fieldAddr 39 (Go.Operand.tmp 7) 2, type := 0, pos := "law.go:112", after := #[{ on := 24, ground := Go.Ground.guard }], guard := some (24, true) }) (v := ?v25stf) rfl (by kernel_rfl) (by kernel_rfl) (by kernel_rfl) (fun _ _ _ h => h) (Or.inl ⟨by rfl, ?hy25stf⟩) (by assumption) ?rest25stf
            case hy25stf => (intro w hSw; (try dsimp only at hSw); go_simp; try with_reducible rfl)
            try simp only [Act.put, List.setIfInBounds_toArray, List.set_cons_zero, List.set_cons_succ]
            refine wpAnyH_take (i := 26) (oi := { dst := some 124, op := Go.Op.fieldAddr 37 (Go.Operand.tmp 123) 0, type := 0, pos := "law.go:112", after := #[{ on := 25, ground := Go.Ground.data }, { on := 24, ground := Go.Ground.guard }], guard := some (24, true) }) (v := ?v26stf) rfl (by kernel_rfl) (by kernel_rfl) (by kernel_rfl) (fun _ _ _ h => h) (Or.inl ⟨by rfl, ?hy26stf⟩) (by assumption) ?rest26stf
            case hy26stf => (intro w hSw; (try dsimp only at hSw); go_simp; try with_reducible rfl)
            try simp only [Act.put, List.setIfInBounds_toArray, List.set_cons_zero, List.set_cons_succ]
            refine wpAnyH_take (i := 27) (oi := { dst := some 125, op := Go.Op.load 3 (Go.Operand.tmp 124), type := 3, pos := "law.go:112", after := #[{ on := 26, ground := Go.Ground.data }, { on := 24, ground := Go.Ground.guard }], guard := some (24, true) }) (v := ?v27stf) rfl (by kernel_rfl) (by kernel_rfl) (by kernel_rfl) (fun _ _ _ h => h) (Or.inl ⟨by rfl, ?hy27stf⟩) (by assumption) ?rest27stf
            case hy27stf => (intro w hSw; (try dsimp only at hSw); go_simp; try with_reducible rfl)
            try simp only [Act.put, List.setIfInBounds_toArray, List.set_cons_zero, List.set_cons_succ]
            refine wpAnyH_take (i := 28) (oi := { dst := some 126, op := Go.Op.fieldAddr 39 (Go.Operand.tmp 7) 2, type := 0, pos := "law.go:112", after := #[{ on := 24, ground := Go.Ground.guard }], guard := some (24, true) }) (v := ?v28stf) rfl (by kernel_rfl) (by kernel_rfl) (by kernel_rfl) (fun _ _ _ h => h) (Or.inl ⟨by rfl, ?hy28stf⟩) (by assumption) ?rest28stf
            case hy28stf => (intro w hSw; (try dsimp only at hSw); go_simp; try with_reducible rfl)
            try simp only [Act.put, List.setIfInBounds_toArray, List.set_cons_zero, List.set_cons_succ]
            refine wpAnyH_take (i := 29) (oi := { dst := some 127, op := Go.Op.fieldAddr 37 (Go.Operand.tmp 126) 1, type := 0, pos := "law.go:112", after := #[{ on := 28, ground := Go.Ground.data }, { on := 24, ground := Go.Ground.guard }], guard := some (24, true) }) (v := ?v29stf) rfl (by kernel_rfl) (by kernel_rfl) (by kernel_rfl) (fun _ _ _ h => h) (Or.inl ⟨by rfl, ?hy29stf⟩) (by assumption) ?rest29stf
            case hy29stf => (intro w hSw; (try dsimp only at hSw); go_simp; try with_reducible rfl)
            try simp only [Act.put, List.setIfInBounds_toArray, List.set_cons_zero, List.set_cons_succ]
            refine wpAnyH_take (i := 30) (oi := { dst := some 128, op := Go.Op.load 3 (Go.Operand.tmp 127), type := 3, pos := "law.go:112", after := #[{ on := 29, ground := Go.Ground.data }, { on := 24, ground := Go.Ground.guard }], guard := some (24, true) }) (v := ?v30stf) rfl (by kernel_rfl) (by kernel_rfl) (by kernel_rfl) (fun _ _ _ h => h) (Or.inl ⟨by rfl, ?hy30stf⟩) (by assumption) ?rest30stf
            case hy30stf => (intro w hSw; (try dsimp only at hSw); go_simp; try with_reducible rfl)
            try simp only [Act.put, List.setIfInBounds_toArray, List.set_cons_zero, List.set_cons_succ]
            refine wpAnyH_take (i := 31) (oi := { dst := some 129, op := Go.Op.call { callee := Go.Callee.builtin Go.Builtin.max, args := #[Go.Operand.tmp 125, Go.Operand.tmp 128], argTypes := #[3, 3] }, type := 3, pos := "law.go:112", after := #[{ on := 27, ground := Go.Ground.data }, { on := 30, ground := Go.Ground.data }, { on := 24, ground := Go.Ground.guard }], guard := some (24, true) }) (v := ?v31stf) rfl (by kernel_rfl) (by kernel_rfl) (by kernel_rfl) (fun _ _ _ h => h) (Or.inl ⟨by rfl, ?hy31stf⟩) (by assumption) ?rest31stf
            case hy31stf => (intro w hSw; (try dsimp only at hSw); go_simp; try with_reducible rfl)
            try simp only [Act.put, List.setIfInBounds_toArray, List.set_cons_zero, List.set_cons_succ]
            refine wpAnyH_take (i := 32) (oi := { dst := some 130, op := Go.Op.binOp Go.BinOp.lss 3 (Go.Operand.tmp 129) (Go.Operand.const (Go.Value.int Go.IntKind.i64 65)) 3, type := 4, pos := "law.go:112", after := #[{ on := 31, ground := Go.Ground.data }, { on := 24, ground := Go.Ground.guard }], guard := some (24, true) }) (v := ?v32stf) rfl (by kernel_rfl) (by kernel_rfl) (by kernel_rfl) (fun _ _ _ h => h) (Or.inl ⟨by rfl, ?hy32stf⟩) (by assumption) ?rest32stf
            case hy32stf => (intro w hSw; (try dsimp only at hSw); go_simp; try with_reducible rfl)
            try simp only [Act.put, List.setIfInBounds_toArray, List.set_cons_zero, List.set_cons_succ]
            refine wpAnyH_take (i := 33) (oi := { dst := some 131, op := Go.Op.pick (Go.Operand.tmp 122) (Go.Operand.tmp 130) (Go.Operand.const (Go.Value.bool false)), type := 4, pos := "law.go:112", after := #[{ on := 24, ground := Go.Ground.data }, { on := 32, ground := Go.Ground.data }, { on := 12, ground := Go.Ground.guard }], guard := some (12, true) }) (v := ?v33stf) rfl (by kernel_rfl) (by kernel_rfl) (by kernel_rfl) (fun _ _ _ h => h) (Or.inl ⟨by rfl, ?hy33stf⟩) (by assumption) ?rest33stf
            case hy33stf => (intro w hSw; (try dsimp only at hSw); go_simp; try with_reducible rfl)
            try simp only [Act.put, List.setIfInBounds_toArray, List.set_cons_zero, List.set_cons_succ]
            refine wpAnyH_take (i := 34) (oi := { dst := some 132, op := Go.Op.binOp Go.BinOp.eql 4 (Go.Operand.tmp 113) (Go.Operand.tmp 131) 4, type := 4, pos := "law.go:112", after := #[{ on := 15, ground := Go.Ground.data }, { on := 33, ground := Go.Ground.data }, { on := 12, ground := Go.Ground.guard }], guard := some (12, true) }) (v := ?v34stf) rfl (by kernel_rfl) (by kernel_rfl) (by kernel_rfl) (fun _ _ _ h => h) (Or.inl ⟨by rfl, ?hy34stf⟩) (by assumption) ?rest34stf
            case hy34stf => (intro w hSw; (try dsimp only at hSw); go_simp; try with_reducible rfl)
            try simp only [Act.put, List.setIfInBounds_toArray, List.set_cons_zero, List.set_cons_succ]
            refine wpAnyH_take (i := 35) (oi := { dst := some 133, op := Go.Op.pick (Go.Operand.tmp 110) (Go.Operand.tmp 132) (Go.Operand.const (Go.Value.bool false)), type := 4, pos := "law.go:112", after := #[{ on := 12, ground := Go.Ground.data }, { on := 34, ground := Go.Ground.data }], guard := none }) (v := ?v35stf) rfl (by kernel_rfl) (by kernel_rfl) (by kernel_rfl) (fun _ _ _ h => h) (Or.inl ⟨by rfl, ?hy35stf⟩) (by assumption) ?rest35stf
            case hy35stf => (intro w hSw; (try dsimp only at hSw); go_simp; try with_reducible rfl)
            try simp only [Act.put, List.setIfInBounds_toArray, List.set_cons_zero, List.set_cons_succ]
            refine wpAnyH_take (i := 36) (oi := { dst := some 12, op := Go.Op.assign (Go.Operand.tmp 133), type := 4, pos := "law.go:112", after := #[{ on := 35, ground := Go.Ground.data }, { on := 24, ground := Go.Ground.chain }, { on := 0, ground := Go.Ground.phase }, { on := 1, ground := Go.Ground.phase }, { on := 2, ground := Go.Ground.phase }, { on := 3, ground := Go.Ground.phase }, { on := 4, ground := Go.Ground.phase }, { on := 5, ground := Go.Ground.phase }, { on := 6, ground := Go.Ground.phase }, { on := 7, ground := Go.Ground.phase }, { on := 8, ground := Go.Ground.phase }, { on := 9, ground := Go.Ground.phase }, { on := 10, ground := Go.Ground.phase }, { on := 11, ground := Go.Ground.phase }, { on := 12, ground := Go.Ground.phase }, { on := 13, ground := Go.Ground.phase }, { on := 14, ground := Go.Ground.phase }, { on := 15, ground := Go.Ground.phase }, { on := 16, ground := Go.Ground.phase }, { on := 17, ground := Go.Ground.phase }, { on := 18, ground := Go.Ground.phase }, { on := 19, ground := Go.Ground.phase }, { on := 20, ground := Go.Ground.phase }, { on := 21, ground := Go.Ground.phase }, { on := 22, ground := Go.Ground.phase }, { on := 23, ground := Go.Ground.phase }, { on := 24, ground := Go.Ground.phase }, { on := 25, ground := Go.Ground.phase }, { on := 26, ground := Go.Ground.phase }, { on := 27, ground := Go.Ground.phase }, { on := 28, ground := Go.Ground.phase }, { on := 29, ground := Go.Ground.phase }, { on := 30, ground := Go.Ground.phase }, { on := 31, ground := Go.Ground.phase }, { on := 32, ground := Go.Ground.phase }, { on := 33, ground := Go.Ground.phase }, { on := 34, ground := Go.Ground.phase }, { on := 35, ground := Go.Ground.phase }], guard := none }) (v := ?v36stf) rfl (by kernel_rfl) (by kernel_rfl) (by kernel_rfl) (fun _ _ _ h => h) (Or.inl ⟨by rfl, ?hy36stf⟩) (by assumption) ?rest36stf
            case hy36stf => (intro w hSw; (try dsimp only at hSw); go_simp; try with_reducible rfl)
            try simp only [Act.put, List.setIfInBounds_toArray, List.set_cons_zero, List.set_cons_succ]
            refine wpAnyH_done (by kernel_rfl) ?_ _
            go_wp2_with fail
            go_ret
            exact ⟨rfl, By5⟩
          case true =>
            refine wp_region_held_drew (S := fun w' => w'.cell? ⟨w.heap.size + 1 + 1, 0, none⟩ = some (.int .u8 op) ∧ w'.cell? ⟨w.heap.size + 1 + 1, 1, none⟩ = some (.int .u8 key) ∧ w'.cell? ⟨w.heap.size + 1 + 1, 2, none⟩ = some (.int .u8 aw) ∧ w'.cell? ⟨w.heap.size + 1 + 1, 3, none⟩ = some (.int .u8 ah) ∧ w'.cell? ⟨w.heap.size + 1 + 1, 4, none⟩ = some (.int .u8 ink) ∧ w'.cell? ⟨w.heap.size + 1, 0, none⟩ = some (.int .i64 PX) ∧ w'.cell? ⟨w.heap.size + 1, 1, none⟩ = some (.int .i64 PY) ∧ w'.cell? ⟨w.heap.size + 1, 2, none⟩ = some (.int .i64 RN) ∧ w'.cell? ⟨w.heap.size + 1, 3, none⟩ = some (.int .i64 RD) ∧ w'.cell? ⟨w.heap.size + 1, 4, none⟩ = some (.int .i64 LO) ∧ w'.cell? ⟨w.heap.size + 1, 5, none⟩ = some (.int .i64 HI) ∧ w'.cell? ⟨w.heap.size + 1, 6, none⟩ = some (.int .u8 INK)) (by kernel_rfl) ⟨a0, a1, a2, a3, a4, v0, v1, v2, v3, v4, v5, v6⟩ (fun hHeld0 => ?_)
            refine wpAnyH_take (i := 0) (oi := { dst := some 98, op := Go.Op.move (Go.Operand.tmp 18), type := 26, pos := "law.go:112", after := #[], guard := none }) (v := ?v0stt) rfl (by kernel_rfl) (by kernel_rfl) (by kernel_rfl) (fun _ _ _ h => h) (Or.inl ⟨by rfl, ?hy0stt⟩) (by assumption) ?rest0stt
            case hy0stt => (intro w hSw; (try dsimp only at hSw); go_simp; try with_reducible rfl)
            try simp only [Act.put, List.setIfInBounds_toArray, List.set_cons_zero, List.set_cons_succ]
            refine wpAnyH_take (i := 1) (oi := { dst := some 99, op := Go.Op.load 35 (Go.Operand.tmp 8), type := 35, pos := "law.go:112", after := #[], guard := none }) (v := ?v1stt) rfl (by kernel_rfl) (by kernel_rfl) (by kernel_rfl) (fun _ _ _ h => h) (Or.inl ⟨by rfl, ?hy1stt⟩) (by assumption) ?rest1stt
            case hy1stt => (intro w hSw; (try dsimp only at hSw); go_simp; try with_reducible rfl)
            try simp only [Act.put, List.setIfInBounds_toArray, List.set_cons_zero, List.set_cons_succ]
            refine wpAnyH_take (i := 3) (oi := { dst := some 101, op := Go.Op.load 39 (Go.Operand.tmp 7), type := 39, pos := "law.go:112", after := #[], guard := none }) (v := ?v3stt) rfl (by kernel_rfl) (by kernel_rfl) (by kernel_rfl) (fun _ _ _ h => h) (Or.inl ⟨by rfl, ?hy3stt⟩) (by assumption) ?rest3stt
            case hy3stt => (intro w hSw; (try dsimp only at hSw); go_simp; try with_reducible rfl)
            try simp only [Act.put, List.setIfInBounds_toArray, List.set_cons_zero, List.set_cons_succ]
            refine wpAnyH_take (i := 6) (oi := { dst := some 104, op := Go.Op.move (Go.Operand.tmp 15), type := 50, pos := "law.go:112", after := #[], guard := none }) (v := ?v6stt) rfl (by kernel_rfl) (by kernel_rfl) (by kernel_rfl) (fun _ _ _ h => h) (Or.inl ⟨by rfl, ?hy6stt⟩) (by assumption) ?rest6stt
            case hy6stt => (intro w hSw; (try dsimp only at hSw); go_simp; try with_reducible rfl)
            try simp only [Act.put, List.setIfInBounds_toArray, List.set_cons_zero, List.set_cons_succ]
            refine wpAnyH_take (i := 7) (oi := { dst := some 105, op := Go.Op.load 35 (Go.Operand.tmp 8), type := 35, pos := "law.go:112", after := #[], guard := none }) (v := ?v7stt) rfl (by kernel_rfl) (by kernel_rfl) (by kernel_rfl) (fun _ _ _ h => h) (Or.inl ⟨by rfl, ?hy7stt⟩) (by assumption) ?rest7stt
            case hy7stt => (intro w hSw; (try dsimp only at hSw); go_simp; try with_reducible rfl)
            try simp only [Act.put, List.setIfInBounds_toArray, List.set_cons_zero, List.set_cons_succ]
            refine wpAnyH_take (i := 9) (oi := { dst := some 107, op := Go.Op.load 39 (Go.Operand.tmp 7), type := 39, pos := "law.go:112", after := #[], guard := none }) (v := ?v9stt) rfl (by kernel_rfl) (by kernel_rfl) (by kernel_rfl) (fun _ _ _ h => h) (Or.inl ⟨by rfl, ?hy9stt⟩) (by assumption) ?rest9stt
            case hy9stt => (intro w hSw; (try dsimp only at hSw); go_simp; try with_reducible rfl)
            try simp only [Act.put, List.setIfInBounds_toArray, List.set_cons_zero, List.set_cons_succ]
            refine wpAnyH_ready (rs := [2]) (by kernel_rfl) (by simp) ?_
            refine AllReadyH.cons (o := { dst := some 100, op := Go.Op.call { callee := Go.Callee.value (Go.Operand.func 13), args := #[Go.Operand.tmp 99], argTypes := #[35] }, type := 30, pos := "law.go:112", after := #[{ on := 1, ground := Go.Ground.data }], guard := none }) rfl (fun K hK => ?_) AllReadyH.nil
            go_simp
            refine (HS.out _).mono ?_; rintro e y1 ⟨gy, cy, rfl, ho, hbq⟩
            have Ry1 : Row y1 0 gy cy al := own_less ho (Nat.zero_le _)
            have Gy1 := own_base ho gy rfl
            clear ho
            have By1 : Below wq.heap.size wq y1 := below_step (below_drew1 (Below.refl _ _)) hbq
            have sy1 := By1.size
            go_wp2_with fail
            refine hK.out _ _ ?_ (fun hHeld1 => ?_)
            · (try dsimp only)
              (go_split_ands; (repeat' apply And.intro) <;> (repeat' (first | with_reducible assumption | (refine cell_later hbq ?_; assumption))))
            clear hK K
            try clear hHeld0
            try simp only [Act.put, List.setIfInBounds_toArray, List.set_cons_zero, List.set_cons_succ]
            clear hbq
            refine wpAnyH_ready (rs := [4]) (by kernel_rfl) (by simp) ?_
            refine AllReadyH.cons (o := { dst := some 102, op := Go.Op.call { callee := Go.Callee.value (Go.Operand.func 15), args := #[Go.Operand.tmp 98, Go.Operand.tmp 100, Go.Operand.tmp 101], argTypes := #[26, 30, 39] }, type := 43, pos := "law.go:112", after := #[{ on := 0, ground := Go.Ground.data }, { on := 2, ground := Go.Ground.data }, { on := 3, ground := Go.Ground.data }, { on := 2, ground := Go.Ground.chain }], guard := none }) rfl (fun K hK => ?_) AllReadyH.nil
            go_simp
            refine (HD3.out F2 T2 gy cy L2 _ hL2.out hL2b.out Ry1 (by have h8 : wq.heap.size ≤ gy := Gy1; omega) (frm_later hF9.out By1)).mono ?_; rintro e y2 ⟨rfl, ⟨L3, hl3a, hl3b, hl3c, hl3d⟩, hS3⟩
            clear hl3a hl3b hl3c hl3d
            have ky0 : y2.cell? ⟨w.heap.size + 1 + 1, 0, none⟩ = some (.int .u8 op) := hS3.cell (a := ⟨w.heap.size + 1 + 1, 0, none⟩) (by show w.heap.size + 1 + 1 ≠ T2; omega) (by go_split_ands; assumption)
            have ky1 : y2.cell? ⟨w.heap.size + 1 + 1, 1, none⟩ = some (.int .u8 key) := hS3.cell (a := ⟨w.heap.size + 1 + 1, 1, none⟩) (by show w.heap.size + 1 + 1 ≠ T2; omega) (by go_split_ands; assumption)
            have ky2 : y2.cell? ⟨w.heap.size + 1 + 1, 2, none⟩ = some (.int .u8 aw) := hS3.cell (a := ⟨w.heap.size + 1 + 1, 2, none⟩) (by show w.heap.size + 1 + 1 ≠ T2; omega) (by go_split_ands; assumption)
            have ky3 : y2.cell? ⟨w.heap.size + 1 + 1, 3, none⟩ = some (.int .u8 ah) := hS3.cell (a := ⟨w.heap.size + 1 + 1, 3, none⟩) (by show w.heap.size + 1 + 1 ≠ T2; omega) (by go_split_ands; assumption)
            have ky4 : y2.cell? ⟨w.heap.size + 1 + 1, 4, none⟩ = some (.int .u8 ink) := hS3.cell (a := ⟨w.heap.size + 1 + 1, 4, none⟩) (by show w.heap.size + 1 + 1 ≠ T2; omega) (by go_split_ands; assumption)
            have ky5 : y2.cell? ⟨w.heap.size + 1, 0, none⟩ = some (.int .i64 PX) := hS3.cell (a := ⟨w.heap.size + 1, 0, none⟩) (by show w.heap.size + 1 ≠ T2; omega) (by go_split_ands; assumption)
            have ky6 : y2.cell? ⟨w.heap.size + 1, 1, none⟩ = some (.int .i64 PY) := hS3.cell (a := ⟨w.heap.size + 1, 1, none⟩) (by show w.heap.size + 1 ≠ T2; omega) (by go_split_ands; assumption)
            have ky7 : y2.cell? ⟨w.heap.size + 1, 2, none⟩ = some (.int .i64 RN) := hS3.cell (a := ⟨w.heap.size + 1, 2, none⟩) (by show w.heap.size + 1 ≠ T2; omega) (by go_split_ands; assumption)
            have ky8 : y2.cell? ⟨w.heap.size + 1, 3, none⟩ = some (.int .i64 RD) := hS3.cell (a := ⟨w.heap.size + 1, 3, none⟩) (by show w.heap.size + 1 ≠ T2; omega) (by go_split_ands; assumption)
            have ky9 : y2.cell? ⟨w.heap.size + 1, 4, none⟩ = some (.int .i64 LO) := hS3.cell (a := ⟨w.heap.size + 1, 4, none⟩) (by show w.heap.size + 1 ≠ T2; omega) (by go_split_ands; assumption)
            have ky10 : y2.cell? ⟨w.heap.size + 1, 5, none⟩ = some (.int .i64 HI) := hS3.cell (a := ⟨w.heap.size + 1, 5, none⟩) (by show w.heap.size + 1 ≠ T2; omega) (by go_split_ands; assumption)
            have ky11 : y2.cell? ⟨w.heap.size + 1, 6, none⟩ = some (.int .u8 INK) := hS3.cell (a := ⟨w.heap.size + 1, 6, none⟩) (by show w.heap.size + 1 ≠ T2; omega) (by go_split_ands; assumption)
            have hBy2 : Below w.heap.size w y2 := sv_below (below_step hB9.out By1) hS3 (by omega) (by have := hB9.out.size; omega)
            go_wp2_with fail
            refine hK.out _ _ ?_ (fun hHeld2 => ?_)
            · (try dsimp only)
              (go_split_ands; (repeat' apply And.intro) <;> with_reducible assumption)
            clear hK K
            try clear hHeld1
            try simp only [Act.put, List.setIfInBounds_toArray, List.set_cons_zero, List.set_cons_succ]
            refine wpAnyH_take (i := 5) (oi := { dst := some 103, op := Go.Op.binOp Go.BinOp.eql 43 (Go.Operand.tmp 102) (Go.Operand.const (Go.Value.int Go.IntKind.i64 0)) 43, type := 4, pos := "law.go:112", after := #[{ on := 4, ground := Go.Ground.data }], guard := none }) (v := ?v5stt) rfl (by kernel_rfl) (by kernel_rfl) (by kernel_rfl) (fun _ _ _ h => h) (Or.inl ⟨by rfl, ?hy5stt⟩) (by assumption) ?rest5stt
            case hy5stt => (intro w hSw; (try dsimp only at hSw); go_simp; try with_reducible rfl)
            try simp only [Act.put, List.setIfInBounds_toArray, List.set_cons_zero, List.set_cons_succ]
            refine wpAnyH_ready (rs := [8]) (by kernel_rfl) (by simp) ?_
            refine AllReadyH.cons (o := { dst := some 106, op := Go.Op.call { callee := Go.Callee.value (Go.Operand.func 13), args := #[Go.Operand.tmp 105], argTypes := #[35] }, type := 30, pos := "law.go:112", after := #[{ on := 7, ground := Go.Ground.data }, { on := 4, ground := Go.Ground.chain }], guard := none }) rfl (fun K hK => ?_) AllReadyH.nil
            go_simp
            refine (HS.out _).mono ?_; rintro e y3 ⟨gz, cz, rfl, ho, hbq⟩
            have Ry3 : Row y3 0 gz cz al := own_less ho (Nat.zero_le _)
            have Gy3 := own_base ho gz rfl
            clear ho
            have By3 : Below w.heap.size w y3 := below_step hBy2 hbq
            go_wp2_with fail
            refine hK.out _ _ ?_ (fun hHeld3 => ?_)
            · (try dsimp only)
              (go_split_ands; (repeat' apply And.intro) <;> (repeat' (first | with_reducible assumption | (refine cell_later hbq ?_; assumption))))
            clear hK K
            try clear hHeld2
            try simp only [Act.put, List.setIfInBounds_toArray, List.set_cons_zero, List.set_cons_succ]
            clear hbq
            refine wpAnyH_ready (rs := [10]) (by kernel_rfl) (by simp) ?_
            refine AllReadyH.cons (o := { dst := some 108, op := Go.Op.call { callee := Go.Callee.value (Go.Operand.tmp 104), args := #[Go.Operand.tmp 106, Go.Operand.tmp 107], argTypes := #[30, 39] }, type := 4, pos := "law.go:112", after := #[{ on := 6, ground := Go.Ground.data }, { on := 8, ground := Go.Ground.data }, { on := 9, ground := Go.Ground.data }, { on := 8, ground := Go.Ground.chain }], guard := none }) rfl (fun K hK => ?_) AllReadyH.nil
            go_simp
            refine (HM3.out _ _ _ Ry3).mono ?_; rintro e y4 ⟨rfl, hbq⟩
            have By4 : Below w.heap.size w y4 := below_step By3 hbq
            go_wp2_with fail
            refine hK.out _ _ ?_ (fun hHeld4 => ?_)
            · (try dsimp only)
              (go_split_ands; (repeat' apply And.intro) <;> (repeat' (first | with_reducible assumption | (refine cell_later hbq ?_; assumption))))
            clear hK K
            try clear hHeld3
            try simp only [Act.put, List.setIfInBounds_toArray, List.set_cons_zero, List.set_cons_succ]
            clear hbq
            refine wpAnyH_take (i := 11) (oi := { dst := some 109, op := Go.Op.binOp Go.BinOp.eql 4 (Go.Operand.tmp 103) (Go.Operand.tmp 108) 4, type := 4, pos := "law.go:112", after := #[{ on := 5, ground := Go.Ground.data }, { on := 10, ground := Go.Ground.data }], guard := none }) (v := ?v11stt) rfl (by kernel_rfl) (by kernel_rfl) (by kernel_rfl) (fun _ _ _ h => h) (Or.inl ⟨by rfl, ?hy11stt⟩) (by assumption) ?rest11stt
            case hy11stt => (intro w hSw; (try dsimp only at hSw); go_simp; try with_reducible rfl)
            try simp only [Act.put, List.setIfInBounds_toArray, List.set_cons_zero, List.set_cons_succ]
            refine wpAnyH_take (i := 12) (oi := { dst := some 110, op := Go.Op.move (Go.Operand.tmp 109), type := 4, pos := "law.go:112", after := #[{ on := 11, ground := Go.Ground.data }, { on := 10, ground := Go.Ground.chain }], guard := none }) (v := ?v12stt) rfl (by kernel_rfl) (by kernel_rfl) (by kernel_rfl) (fun _ _ _ h => h) (Or.inl ⟨by rfl, ?hy12stt⟩) (by assumption) ?rest12stt
            case hy12stt => (intro w hSw; (try dsimp only at hSw); go_simp; try with_reducible rfl)
            try simp only [Act.put, List.setIfInBounds_toArray, List.set_cons_zero, List.set_cons_succ]
            refine wpAnyH_take (i := 13) (oi := { dst := some 111, op := Go.Op.fieldAddr 39 (Go.Operand.tmp 7) 2, type := 0, pos := "law.go:112", after := #[{ on := 12, ground := Go.Ground.guard }], guard := some (12, true) }) (v := ?v13stt) rfl (by kernel_rfl) (by kernel_rfl) (by kernel_rfl) (fun _ _ _ h => h) (Or.inl ⟨by rfl, ?hy13stt⟩) (by assumption) ?rest13stt
            case hy13stt => (intro w hSw; (try dsimp only at hSw); go_simp; try with_reducible rfl)
            try simp only [Act.put, List.setIfInBounds_toArray, List.set_cons_zero, List.set_cons_succ]
            refine wpAnyH_take (i := 14) (oi := { dst := some 112, op := Go.Op.load 37 (Go.Operand.tmp 111), type := 37, pos := "law.go:112", after := #[{ on := 13, ground := Go.Ground.data }, { on := 12, ground := Go.Ground.guard }], guard := some (12, true) }) (v := ?v14stt) rfl (by kernel_rfl) (by kernel_rfl) (by kernel_rfl) (fun _ _ _ h => h) (Or.inl ⟨by rfl, ?hy14stt⟩) (by assumption) ?rest14stt
            case hy14stt => (intro w hSw; (try dsimp only at hSw); go_simp; try with_reducible rfl)
            try simp only [Act.put, List.setIfInBounds_toArray, List.set_cons_zero, List.set_cons_succ]
            refine wpAnyH_take (i := 16) (oi := { dst := some 114, op := Go.Op.fieldAddr 39 (Go.Operand.tmp 7) 2, type := 0, pos := "law.go:112", after := #[{ on := 12, ground := Go.Ground.guard }], guard := some (12, true) }) (v := ?v16stt) rfl (by kernel_rfl) (by kernel_rfl) (by kernel_rfl) (fun _ _ _ h => h) (Or.inl ⟨by rfl, ?hy16stt⟩) (by assumption) ?rest16stt
            case hy16stt => (intro w hSw; (try dsimp only at hSw); go_simp; try with_reducible rfl)
            try simp only [Act.put, List.setIfInBounds_toArray, List.set_cons_zero, List.set_cons_succ]
            refine wpAnyH_take (i := 17) (oi := { dst := some 115, op := Go.Op.fieldAddr 37 (Go.Operand.tmp 114) 0, type := 0, pos := "law.go:112", after := #[{ on := 16, ground := Go.Ground.data }, { on := 12, ground := Go.Ground.guard }], guard := some (12, true) }) (v := ?v17stt) rfl (by kernel_rfl) (by kernel_rfl) (by kernel_rfl) (fun _ _ _ h => h) (Or.inl ⟨by rfl, ?hy17stt⟩) (by assumption) ?rest17stt
            case hy17stt => (intro w hSw; (try dsimp only at hSw); go_simp; try with_reducible rfl)
            try simp only [Act.put, List.setIfInBounds_toArray, List.set_cons_zero, List.set_cons_succ]
            refine wpAnyH_take (i := 18) (oi := { dst := some 116, op := Go.Op.load 3 (Go.Operand.tmp 115), type := 3, pos := "law.go:112", after := #[{ on := 17, ground := Go.Ground.data }, { on := 12, ground := Go.Ground.guard }], guard := some (12, true) }) (v := ?v18stt) rfl (by kernel_rfl) (by kernel_rfl) (by kernel_rfl) (fun _ _ _ h => h) (Or.inl ⟨by rfl, ?hy18stt⟩) (by assumption) ?rest18stt
            case hy18stt => (intro w hSw; (try dsimp only at hSw); go_simp; try with_reducible rfl)
            try simp only [Act.put, List.setIfInBounds_toArray, List.set_cons_zero, List.set_cons_succ]
            refine wpAnyH_take (i := 19) (oi := { dst := some 117, op := Go.Op.fieldAddr 39 (Go.Operand.tmp 7) 2, type := 0, pos := "law.go:112", after := #[{ on := 12, ground := Go.Ground.guard }], guard := some (12, true) }) (v := ?v19stt) rfl (by kernel_rfl) (by kernel_rfl) (by kernel_rfl) (fun _ _ _ h => h) (Or.inl ⟨by rfl, ?hy19stt⟩) (by assumption) ?rest19stt
            case hy19stt => (intro w hSw; (try dsimp only at hSw); go_simp; try with_reducible rfl)
            try simp only [Act.put, List.setIfInBounds_toArray, List.set_cons_zero, List.set_cons_succ]
            refine wpAnyH_take (i := 20) (oi := { dst := some 118, op := Go.Op.fieldAddr 37 (Go.Operand.tmp 117) 1, type := 0, pos := "law.go:112", after := #[{ on := 19, ground := Go.Ground.data }, { on := 12, ground := Go.Ground.guard }], guard := some (12, true) }) (v := ?v20stt) rfl (by kernel_rfl) (by kernel_rfl) (by kernel_rfl) (fun _ _ _ h => h) (Or.inl ⟨by rfl, ?hy20stt⟩) (by assumption) ?rest20stt
            case hy20stt => (intro w hSw; (try dsimp only at hSw); go_simp; try with_reducible rfl)
            try simp only [Act.put, List.setIfInBounds_toArray, List.set_cons_zero, List.set_cons_succ]
            refine wpAnyH_take (i := 21) (oi := { dst := some 119, op := Go.Op.load 3 (Go.Operand.tmp 118), type := 3, pos := "law.go:112", after := #[{ on := 20, ground := Go.Ground.data }, { on := 12, ground := Go.Ground.guard }], guard := some (12, true) }) (v := ?v21stt) rfl (by kernel_rfl) (by kernel_rfl) (by kernel_rfl) (fun _ _ _ h => h) (Or.inl ⟨by rfl, ?hy21stt⟩) (by assumption) ?rest21stt
            case hy21stt => (intro w hSw; (try dsimp only at hSw); go_simp; try with_reducible rfl)
            try simp only [Act.put, List.setIfInBounds_toArray, List.set_cons_zero, List.set_cons_succ]
            refine wpAnyH_take (i := 22) (oi := { dst := some 120, op := Go.Op.call { callee := Go.Callee.builtin Go.Builtin.min, args := #[Go.Operand.tmp 116, Go.Operand.tmp 119], argTypes := #[3, 3] }, type := 3, pos := "law.go:112", after := #[{ on := 18, ground := Go.Ground.data }, { on := 21, ground := Go.Ground.data }, { on := 12, ground := Go.Ground.guard }], guard := some (12, true) }) (v := ?v22stt) rfl (by kernel_rfl) (by kernel_rfl) (by kernel_rfl) (fun _ _ _ h => h) (Or.inl ⟨by rfl, ?hy22stt⟩) (by assumption) ?rest22stt
            case hy22stt => (intro w hSw; (try dsimp only at hSw); go_simp; try with_reducible rfl)
            try simp only [Act.put, List.setIfInBounds_toArray, List.set_cons_zero, List.set_cons_succ]
            refine wpAnyH_take (i := 23) (oi := { dst := some 121, op := Go.Op.binOp Go.BinOp.gtr 3 (Go.Operand.tmp 120) (Go.Operand.const (Go.Value.int Go.IntKind.i64 0)) 3, type := 4, pos := "law.go:112", after := #[{ on := 22, ground := Go.Ground.data }, { on := 12, ground := Go.Ground.guard }], guard := some (12, true) }) (v := ?v23stt) rfl (by kernel_rfl) (by kernel_rfl) (by kernel_rfl) (fun _ _ _ h => h) (Or.inl ⟨by rfl, ?hy23stt⟩) (by assumption) ?rest23stt
            case hy23stt => (intro w hSw; (try dsimp only at hSw); go_simp; try with_reducible rfl)
            try simp only [Act.put, List.setIfInBounds_toArray, List.set_cons_zero, List.set_cons_succ]
            refine wpAnyH_ready (rs := [15]) (by kernel_rfl) (by simp) ?_
            refine AllReadyH.cons (o := { dst := some 113, op := Go.Op.call { callee := Go.Callee.value (Go.Operand.func 19), args := #[Go.Operand.tmp 112], argTypes := #[37] }, type := 4, pos := "law.go:112", after := #[{ on := 14, ground := Go.Ground.data }, { on := 12, ground := Go.Ground.chain }, { on := 12, ground := Go.Ground.guard }], guard := some (12, true) }) rfl (fun K hK => ?_) AllReadyH.nil
            go_simp
            refine (HR3.out _).mono ?_; rintro e y5 ⟨rfl, hbq⟩
            have By5 : Below w.heap.size w y5 := below_step By4 hbq
            go_wp2_with fail
            refine hK.out _ _ ?_ (fun hHeld5 => ?_)
            · (try dsimp only)
              (go_split_ands; (repeat' apply And.intro) <;> (repeat' (first | with_reducible assumption | (refine cell_later hbq ?_; assumption))))
            clear hK K
            try clear hHeld4
            try simp only [Act.put, List.setIfInBounds_toArray, List.set_cons_zero, List.set_cons_succ]
            clear hbq
            refine wpAnyH_take (i := 24) (oi := { dst := some 122, op := Go.Op.move (Go.Operand.tmp 121), type := 4, pos := "law.go:112", after := #[{ on := 23, ground := Go.Ground.data }, { on := 15, ground := Go.Ground.chain }, { on := 12, ground := Go.Ground.guard }], guard := some (12, true) }) (v := ?v24stt) rfl (by kernel_rfl) (by kernel_rfl) (by kernel_rfl) (fun _ _ _ h => h) (Or.inl ⟨by rfl, ?hy24stt⟩) (by assumption) ?rest24stt
            case hy24stt => (intro w hSw; (try dsimp only at hSw); go_simp; try with_reducible rfl)
            try simp only [Act.put, List.setIfInBounds_toArray, List.set_cons_zero, List.set_cons_succ]
            refine wpAnyH_take (i := 25) (oi := { dst := some 123, op := Go.Op.fieldAddr 39 (Go.Operand.tmp 7) 2, type := 0, pos := "law.go:112", after := #[{ on := 24, ground := Go.Ground.guard }], guard := some (24, true) }) (v := ?v25stt) rfl (by kernel_rfl) (by kernel_rfl) (by kernel_rfl) (fun _ _ _ h => h) (Or.inl ⟨by rfl, ?hy25stt⟩) (by assumption) ?rest25stt
            case hy25stt => (intro w hSw; (try dsimp only at hSw); go_simp; try with_reducible rfl)
            try simp only [Act.put, List.setIfInBounds_toArray, List.set_cons_zero, List.set_cons_succ]
            refine wpAnyH_take (i := 26) (oi := { dst := some 124, op := Go.Op.fieldAddr 37 (Go.Operand.tmp 123) 0, type := 0, pos := "law.go:112", after := #[{ on := 25, ground := Go.Ground.data }, { on := 24, ground := Go.Ground.guard }], guard := some (24, true) }) (v := ?v26stt) rfl (by kernel_rfl) (by kernel_rfl) (by kernel_rfl) (fun _ _ _ h => h) (Or.inl ⟨by rfl, ?hy26stt⟩) (by assumption) ?rest26stt
            case hy26stt => (intro w hSw; (try dsimp only at hSw); go_simp; try with_reducible rfl)
            try simp only [Act.put, List.setIfInBounds_toArray, List.set_cons_zero, List.set_cons_succ]
            refine wpAnyH_take (i := 27) (oi := { dst := some 125, op := Go.Op.load 3 (Go.Operand.tmp 124), type := 3, pos := "law.go:112", after := #[{ on := 26, ground := Go.Ground.data }, { on := 24, ground := Go.Ground.guard }], guard := some (24, true) }) (v := ?v27stt) rfl (by kernel_rfl) (by kernel_rfl) (by kernel_rfl) (fun _ _ _ h => h) (Or.inl ⟨by rfl, ?hy27stt⟩) (by assumption) ?rest27stt
            case hy27stt => (intro w hSw; (try dsimp only at hSw); go_simp; try with_reducible rfl)
            try simp only [Act.put, List.setIfInBounds_toArray, List.set_cons_zero, List.set_cons_succ]
            refine wpAnyH_take (i := 28) (oi := { dst := some 126, op := Go.Op.fieldAddr 39 (Go.Operand.tmp 7) 2, type := 0, pos := "law.go:112", after := #[{ on := 24, ground := Go.Ground.guard }], guard := some (24, true) }) (v := ?v28stt) rfl (by kernel_rfl) (by kernel_rfl) (by kernel_rfl) (fun _ _ _ h => h) (Or.inl ⟨by rfl, ?hy28stt⟩) (by assumption) ?rest28stt
            case hy28stt => (intro w hSw; (try dsimp only at hSw); go_simp; try with_reducible rfl)
            try simp only [Act.put, List.setIfInBounds_toArray, List.set_cons_zero, List.set_cons_succ]
            refine wpAnyH_take (i := 29) (oi := { dst := some 127, op := Go.Op.fieldAddr 37 (Go.Operand.tmp 126) 1, type := 0, pos := "law.go:112", after := #[{ on := 28, ground := Go.Ground.data }, { on := 24, ground := Go.Ground.guard }], guard := some (24, true) }) (v := ?v29stt) rfl (by kernel_rfl) (by kernel_rfl) (by kernel_rfl) (fun _ _ _ h => h) (Or.inl ⟨by rfl, ?hy29stt⟩) (by assumption) ?rest29stt
            case hy29stt => (intro w hSw; (try dsimp only at hSw); go_simp; try with_reducible rfl)
            try simp only [Act.put, List.setIfInBounds_toArray, List.set_cons_zero, List.set_cons_succ]
            refine wpAnyH_take (i := 30) (oi := { dst := some 128, op := Go.Op.load 3 (Go.Operand.tmp 127), type := 3, pos := "law.go:112", after := #[{ on := 29, ground := Go.Ground.data }, { on := 24, ground := Go.Ground.guard }], guard := some (24, true) }) (v := ?v30stt) rfl (by kernel_rfl) (by kernel_rfl) (by kernel_rfl) (fun _ _ _ h => h) (Or.inl ⟨by rfl, ?hy30stt⟩) (by assumption) ?rest30stt
            case hy30stt => (intro w hSw; (try dsimp only at hSw); go_simp; try with_reducible rfl)
            try simp only [Act.put, List.setIfInBounds_toArray, List.set_cons_zero, List.set_cons_succ]
            refine wpAnyH_take (i := 31) (oi := { dst := some 129, op := Go.Op.call { callee := Go.Callee.builtin Go.Builtin.max, args := #[Go.Operand.tmp 125, Go.Operand.tmp 128], argTypes := #[3, 3] }, type := 3, pos := "law.go:112", after := #[{ on := 27, ground := Go.Ground.data }, { on := 30, ground := Go.Ground.data }, { on := 24, ground := Go.Ground.guard }], guard := some (24, true) }) (v := ?v31stt) rfl (by kernel_rfl) (by kernel_rfl) (by kernel_rfl) (fun _ _ _ h => h) (Or.inl ⟨by rfl, ?hy31stt⟩) (by assumption) ?rest31stt
            case hy31stt => (intro w hSw; (try dsimp only at hSw); go_simp; try with_reducible rfl)
            try simp only [Act.put, List.setIfInBounds_toArray, List.set_cons_zero, List.set_cons_succ]
            refine wpAnyH_take (i := 32) (oi := { dst := some 130, op := Go.Op.binOp Go.BinOp.lss 3 (Go.Operand.tmp 129) (Go.Operand.const (Go.Value.int Go.IntKind.i64 65)) 3, type := 4, pos := "law.go:112", after := #[{ on := 31, ground := Go.Ground.data }, { on := 24, ground := Go.Ground.guard }], guard := some (24, true) }) (v := ?v32stt) rfl (by kernel_rfl) (by kernel_rfl) (by kernel_rfl) (fun _ _ _ h => h) (Or.inl ⟨by rfl, ?hy32stt⟩) (by assumption) ?rest32stt
            case hy32stt => (intro w hSw; (try dsimp only at hSw); go_simp; try with_reducible rfl)
            try simp only [Act.put, List.setIfInBounds_toArray, List.set_cons_zero, List.set_cons_succ]
            refine wpAnyH_take (i := 33) (oi := { dst := some 131, op := Go.Op.pick (Go.Operand.tmp 122) (Go.Operand.tmp 130) (Go.Operand.const (Go.Value.bool false)), type := 4, pos := "law.go:112", after := #[{ on := 24, ground := Go.Ground.data }, { on := 32, ground := Go.Ground.data }, { on := 12, ground := Go.Ground.guard }], guard := some (12, true) }) (v := ?v33stt) rfl (by kernel_rfl) (by kernel_rfl) (by kernel_rfl) (fun _ _ _ h => h) (Or.inl ⟨by rfl, ?hy33stt⟩) (by assumption) ?rest33stt
            case hy33stt => (intro w hSw; (try dsimp only at hSw); go_simp; try with_reducible rfl)
            try simp only [Act.put, List.setIfInBounds_toArray, List.set_cons_zero, List.set_cons_succ]
            refine wpAnyH_take (i := 34) (oi := { dst := some 132, op := Go.Op.binOp Go.BinOp.eql 4 (Go.Operand.tmp 113) (Go.Operand.tmp 131) 4, type := 4, pos := "law.go:112", after := #[{ on := 15, ground := Go.Ground.data }, { on := 33, ground := Go.Ground.data }, { on := 12, ground := Go.Ground.guard }], guard := some (12, true) }) (v := ?v34stt) rfl (by kernel_rfl) (by kernel_rfl) (by kernel_rfl) (fun _ _ _ h => h) (Or.inl ⟨by rfl, ?hy34stt⟩) (by assumption) ?rest34stt
            case hy34stt => (intro w hSw; (try dsimp only at hSw); go_simp; try with_reducible rfl)
            try simp only [Act.put, List.setIfInBounds_toArray, List.set_cons_zero, List.set_cons_succ]
            refine wpAnyH_take (i := 35) (oi := { dst := some 133, op := Go.Op.pick (Go.Operand.tmp 110) (Go.Operand.tmp 132) (Go.Operand.const (Go.Value.bool false)), type := 4, pos := "law.go:112", after := #[{ on := 12, ground := Go.Ground.data }, { on := 34, ground := Go.Ground.data }], guard := none }) (v := ?v35stt) rfl (by kernel_rfl) (by kernel_rfl) (by kernel_rfl) (fun _ _ _ h => h) (Or.inl ⟨by rfl, ?hy35stt⟩) (by assumption) ?rest35stt
            case hy35stt => (intro w hSw; (try dsimp only at hSw); go_simp; try with_reducible rfl)
            try simp only [Act.put, List.setIfInBounds_toArray, List.set_cons_zero, List.set_cons_succ]
            refine wpAnyH_take (i := 36) (oi := { dst := some 12, op := Go.Op.assign (Go.Operand.tmp 133), type := 4, pos := "law.go:112", after := #[{ on := 35, ground := Go.Ground.data }, { on := 24, ground := Go.Ground.chain }, { on := 0, ground := Go.Ground.phase }, { on := 1, ground := Go.Ground.phase }, { on := 2, ground := Go.Ground.phase }, { on := 3, ground := Go.Ground.phase }, { on := 4, ground := Go.Ground.phase }, { on := 5, ground := Go.Ground.phase }, { on := 6, ground := Go.Ground.phase }, { on := 7, ground := Go.Ground.phase }, { on := 8, ground := Go.Ground.phase }, { on := 9, ground := Go.Ground.phase }, { on := 10, ground := Go.Ground.phase }, { on := 11, ground := Go.Ground.phase }, { on := 12, ground := Go.Ground.phase }, { on := 13, ground := Go.Ground.phase }, { on := 14, ground := Go.Ground.phase }, { on := 15, ground := Go.Ground.phase }, { on := 16, ground := Go.Ground.phase }, { on := 17, ground := Go.Ground.phase }, { on := 18, ground := Go.Ground.phase }, { on := 19, ground := Go.Ground.phase }, { on := 20, ground := Go.Ground.phase }, { on := 21, ground := Go.Ground.phase }, { on := 22, ground := Go.Ground.phase }, { on := 23, ground := Go.Ground.phase }, { on := 24, ground := Go.Ground.phase }, { on := 25, ground := Go.Ground.phase }, { on := 26, ground := Go.Ground.phase }, { on := 27, ground := Go.Ground.phase }, { on := 28, ground := Go.Ground.phase }, { on := 29, ground := Go.Ground.phase }, { on := 30, ground := Go.Ground.phase }, { on := 31, ground := Go.Ground.phase }, { on := 32, ground := Go.Ground.phase }, { on := 33, ground := Go.Ground.phase }, { on := 34, ground := Go.Ground.phase }, { on := 35, ground := Go.Ground.phase }], guard := none }) (v := ?v36stt) rfl (by kernel_rfl) (by kernel_rfl) (by kernel_rfl) (fun _ _ _ h => h) (Or.inl ⟨by rfl, ?hy36stt⟩) (by assumption) ?rest36stt
            case hy36stt => (intro w hSw; (try dsimp only at hSw); go_simp; try with_reducible rfl)
            try simp only [Act.put, List.setIfInBounds_toArray, List.set_cons_zero, List.set_cons_succ]
            refine wpAnyH_done (by kernel_rfl) ?_ _
            go_wp2_with fail
            go_ret
            exact ⟨rfl, By5⟩

end Go.Proofs.Ytfbnaicnmkkohaa.WalkWrong
