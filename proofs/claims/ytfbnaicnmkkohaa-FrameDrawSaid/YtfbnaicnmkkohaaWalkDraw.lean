/- FrameDraw's walk. Conditions: as each states. -/
import Derived.Test.YtfbnaicnmkkohaaParts
import Derived.Deep.CutRange
import Derived.Laws.Cover1
namespace Go.Proofs.Ytfbnaicnmkkohaa.WalkDraw
open Go Go.RowKit Go.Lib Go.Proofs.YtfbnaicnmkkohaaW.PrintWords Go.Proofs.YtfbnaicnmkkohaaW.PrintLast Go.Proofs.YtfbnaicnmkkohaaW.PrintMore Go.Proofs.Ytfbnaicnmkkohaa.Core Go.Proofs.Ytfbnaicnmkkohaa.PFramePlace Go.Proofs.Ytfbnaicnmkkohaa.Repeat Go.Proofs.Ytfbnaicnmkkohaa.Frames Go.Proofs.Ytfbnaicnmkkohaa.Draw Go.Proofs.Ytfbnaicnmkkohaa.Drawn Go.Proofs.Ytfbnaicnmkkohaa.Awake Go.Proofs.Ytfbnaicnmkkohaa.Two Go.Proofs.Ytfbnaicnmkkohaa.WalkFull Go.Proofs.Ytfbnaicnmkkohaa.WalkOut Go.Proofs.Ytfbnaicnmkkohaa.Draw16 Go.Proofs.Ytfbnaicnmkkohaa.Parts
set_option linter.unusedVariables false
set_option linter.unusedSimpArgs false
attribute [local go_sem ↓] Go.wp_at_zero Go.wp_at_succ
attribute [local go_sem] max2_int min2_int
/-- an act in memory -/
def ActAt (w : World) (A : Option Addr) (i : Nat) : Prop := ∃ (g off : Nat) (op key aw ah ink : Int), A = some ⟨g, off, none⟩ ∧ w.cell? ⟨g, off + i * 5, none⟩ = some (.int .u8 op) ∧ w.cell? ⟨g, off + i * 5 + 1, none⟩ = some (.int .u8 key) ∧ w.cell? ⟨g, off + i * 5 + 2, none⟩ = some (.int .u8 aw) ∧ w.cell? ⟨g, off + i * 5 + 3, none⟩ = some (.int .u8 ah) ∧ w.cell? ⟨g, off + i * 5 + 4, none⟩ = some (.int .u8 ink) ∧ 0 ≤ aw ∧ aw ≤ 255 ∧ 0 ≤ ah ∧ ah ≤ 255
/-- a tip in memory -/
def TipAt (w : World) (A : Option Addr) (i : Nat) : Prop := ∃ (g off : Nat) (t0 t1 t2 t3 t4 t5 t6 : Int), A = some ⟨g, off, none⟩ ∧ (w.cell? ⟨g, off + i * 7, none⟩ = some (.int .u8 t0) ∧ w.cell? ⟨g, off + i * 7 + 1, none⟩ = some (.int .u8 t1) ∧ w.cell? ⟨g, off + i * 7 + 2, none⟩ = some (.int .u8 t2) ∧ w.cell? ⟨g, off + i * 7 + 3, none⟩ = some (.int .u8 t3) ∧ w.cell? ⟨g, off + i * 7 + 4, none⟩ = some (.int .u8 t4) ∧ w.cell? ⟨g, off + i * 7 + 5, none⟩ = some (.int .u8 t5) ∧ w.cell? ⟨g, off + i * 7 + 6, none⟩ = some (.int .u8 t6)) ∧
  ((0 ≤ t0 ∧ t0 ≤ 255) ∧ (0 ≤ t1 ∧ t1 ≤ 255) ∧ (0 ≤ t2 ∧ t2 ≤ 255) ∧ (0 ≤ t3 ∧ t3 ≤ 255) ∧ (0 ≤ t4 ∧ t4 ≤ 255) ∧ (0 ≤ t5 ∧ t5 ≤ 255) ∧ (0 ≤ t6 ∧ t6 ≤ 255))
/-- the wanted pixels so far -/
def LoopW (w0 : World) (B F T : Nat) (W H : Nat) (LF : List Int) (q : Nat) (s11 : Value) (w' : World) : Prop :=
  ∃ (k : Nat) (v : Value), s11 = .int .i64 k ∧ k ≤ W * H ∧ LaidB w' q W H v ∧ w'.ownsRow B 5 1 v k ((List.replicate k 30).map (Value.int .u8)) ∧ Frm w' F T W H LF ∧ Below w0.heap.size w0 w'
/-- what was drawn so far is what is wanted -/
def LoopD (w0 : World) (B F T q : Nat) (W H : Nat) (n : Nat) (s12 : Value) (w' : World) : Prop :=
  ∃ (k gq cq : Nat) (LF : List Int), s12 = .int .i64 k ∧ k ≤ n ∧ Frm w' F T W H LF ∧ LaidB w' q W H (.slice (some ⟨gq, 0, none⟩) LF.length cq) ∧ Row w' B gq cq LF ∧ LF.length = W * H ∧ (∀ z ∈ LF, 0 ≤ z ∧ z ≤ 255) ∧ Below w0.heap.size w0 w'
theorem lb_later {w w1 : World} {b : Nat} {W H : Int} {sl : Value} (h : LaidB w b W H sl) (hb : Below w.heap.size w w1) : LaidB w1 b W H sl := blk_below h hb
section
variable {X : World} {b B g cap F T : Nat} {W H W' H' : Int} {sl v : Value} {l : List Int}
theorem lb_reset (h : LaidB X b W H v) : LaidB (setB X b W H sl) b W H sl := blk_put (blk_put (blk_put h 0 _ rfl) 1 _ rfl) 2 _ rfl
theorem row_reset (h : Row X B g cap l) (hb : LaidB X b W H v) : Row (setB X b W H sl) B g cap l :=
  row_set (row_set (row_set h hb (by decide) 0 _) (blk_put hb 0 _ rfl) (by decide) 1 _) (blk_put (blk_put hb 0 _ rfl) 1 _ rfl) (by decide) 2 _
theorem frm_reset (h : Frm X F T W' H' l) (hF : F ≠ b) (hT : T ≠ b) : Frm (setB X b W H sl) F T W' H' l := frm_set (frm_set (frm_set h hF hT) hF hT) hF hT
end
theorem own_far {w : World} {B b n size : Nat} {e : TypeId} {v : Value} {xs : List Value} (h : w.ownsRow B e size v n xs) (hb : b < B) : some b ≠ v.ownBlock := fun he => by
  have := own_base h b he.symm
  omega
theorem wnext {w0 wr w1 : World} {B F T W H q k gn capn : Nat} {LF : List Int} {v : Value} {o : Obj} (hk : k < W * H) (hF : F < B) (hT : T < B) (hqB : w0.heap.size ≤ q) (hB0 : w0.heap.size ≤ B)
    (hq : wr.heap[q]? = some (.cells #[.int .i64 W, .int .i64 H, v] 30 (0, 0))) (hown : wr.ownsRow B 5 1 v k ((List.replicate k 30).map (Value.int .u8))) (hfr : Frm wr F T W H LF) (hb : Below w0.heap.size w0 wr)
    (hgrow : (wr.alloc o).grownBy w1 v.ownBlock) (hown1 : w1.ownsRow B 5 1 (.slice (some ⟨gn, 0, none⟩) (k + 1) capn) (k + 1) ((List.replicate k 30).map (Value.int .u8) ++ [.int .u8 30])) :
    LoopW w0 B F T W H LF q (.int .i64 ((k : Int) + 1)) (w1.setCell ⟨q, 2, none⟩ (.slice (some ⟨gn, 0, none⟩) (k + 1) capn)) := by
  have hq1 := blk_grown (blk_alloc hq o) hgrow (own_ne hown hq (by decide))
  have hF1 := blk_grown (blk_alloc hfr.1 o) hgrow (own_far hown hF)
  have hT1 := blk_grown (blk_alloc hfr.2.1 o) hgrow (own_far hown hT)
  have nF : F ≠ q := blk_ne hF1 hq1 (by decide)
  have nT : T ≠ q := blk_ne hT1 hq1 (by decide)
  refine ⟨k + 1, .slice (some ⟨gn, 0, none⟩) (k + 1) capn, by congr 1, by omega, blk_put hq1 2 _ rfl, ?_, ⟨blk_far hF1 (p := ⟨q, 2, none⟩) nF _, blk_far hT1 (p := ⟨q, 2, none⟩) nT _, hfr.2.2⟩, ?_⟩
  · have h1 := own_setCell hown1 (p := ⟨q, 2, none⟩) (own_ne hown1 hq1 (by decide)) (.slice (some ⟨gn, 0, none⟩) (k + 1) capn)
    rw [List.replicate_succ', List.map_append]
    exact h1
  · refine below_set ?_ hqB
    refine (below_alloc hb o).grown hgrow (by have := (below_alloc hb o).size; exact this) fun b hbk => ?_
    have := own_base hown b hbk
    omega
set_option maxRecDepth 100000 in
set_option maxHeartbeats 8000000 in
theorem walk (wi hi : Int) (A1 A2 : Option Addr) (n1 c1 n2 c2 : Nat) (W H : Nat) (w : World)
    (hw : -128 ≤ wi) (hw2 : wi ≤ 127) (hh : -128 ≤ hi) (hh2 : hi ≤ 127) (hW : mx 1 (mn wi 96) = W) (hH : mx 1 (mn hi 96) = H) (hW1 : 1 ≤ W) (hW2 : W ≤ 96) (hH1 : 1 ≤ H) (hH2 : H ≤ 96)
    (hc1 : n1 ≤ c1) (hc2 : n2 ≤ c2) (hm1 : c1 ≤ 9223372036854775807) (hm2 : c2 ≤ 9223372036854775807)
    (HA : Hid (∀ i, i < n1 → ActAt w A1 i)) (HT : Hid (∀ i, i < n2 → TipAt w A2 i)) :
    Calls Try.prog 3 #[.int .i8 wi, .int .i8 hi, .slice A1 n1 c1, .slice A2 n2 c2] w (Ret (.bool true) w) := by
  obtain ⟨i0, hi0, hz0, hz1, hz2⟩ := info_parts byte_info
  have hWH : W * H ≤ 96 * 96 := Nat.mul_le_mul hW2 hH2
  have hWH1 : 1 ≤ W * H := Nat.mul_pos hW1 hH1
  have HO := Lib.hid fun w => made wi hi 30 W H (W * H) w hW hH (by rw [Int.natCast_mul]) hWH1 (by omega)
  have x1 : IntKind.i64.wrap wi = wi := iw (by omega) (by omega)
  have x2 : IntKind.i64.wrap hi = hi := iw (by omega) (by omega)
  have p1 : (if 96 < wi then 96 else wi) = mn wi 96 := rfl
  have p2 : (if 1 < mn wi 96 then mn wi 96 else 1) = W := hW
  have p3 : (if 96 < hi then 96 else hi) = mn hi 96 := rfl
  have p4 : (if 1 < mn hi 96 then mn hi 96 else 1) = H := hH
  have p5 : IntKind.i64.wrap ((W : Int) * (H : Int)) = (W : Int) * (H : Int) := iw (by rw [← Int.natCast_mul]; omega) (by rw [← Int.natCast_mul]; omega)
  obtain ⟨m12, hm12⟩ : ∃ m : Nat, m = min n1 n2 := ⟨_, rfl⟩
  obtain ⟨nm, hnm⟩ : ∃ m : Nat, m = min m12 6 := ⟨_, rfl⟩
  have p6 : (if n2 < n1 then (n2 : Int) else (n1 : Int)) = (m12 : Int) := by split <;> omega
  have p7 : (if (6 : Int) < (m12 : Int) then (6 : Int) else (m12 : Int)) = (nm : Int) := by split <;> omega
  have nm1 : nm ≤ n1 := by omega
  have nm2 : nm ≤ n2 := by omega
  have nm6 : nm ≤ 6 := by omega
  clear hnm hm12
  generalize mn wi 96 = ma at *
  generalize mn hi 96 = mb at *
  clear hW hH
  go_enter Try.func3, Try.ntmps3
  go_upto_region 8 with (first
    | (go_at_call 9; refine (awake_calls _).mono ?_; rintro e w1 ⟨rfl, hw1⟩)
    | (go_at_call 10; refine (HO.out _).mono ?_; rintro e w2 ⟨F, T, rfl, hzF, hzT, hF, hw2⟩))
  have hB2 : Below w.heap.size w w2 := below_step (below_step (Below.refl _ _) hw1) hw2
  have s12 := hw1.size
  clear hw1 hw2
  have lF : F < w2.heap.size := blk_lt hF.1
  have lT : T < w2.heap.size := blk_lt hF.2.1
  have s2 := hB2.size
  have hBq : Below w.heap.size w (w2.alloc (.cells #[.int .i64 W, .int .i64 H, .slice none 0 0] 30)) := below_alloc hB2 _
  have hFq := frm_alloc hF (.cells #[.int .i64 W, .int .i64 H, .slice none 0 0] 30)
  have hq0 : LaidB (w2.alloc (.cells #[.int .i64 W, .int .i64 H, .slice none 0 0] 30)) w2.heap.size W H (.slice none 0 0) := lb_new rfl
  clear hB2 hF p1 p2 p3 p4 x1 x2
  obtain ⟨LF0, hLF0⟩ : ∃ L : List Int, List.replicate (W * H) 30 = L := ⟨_, rfl⟩
  rw [hLF0] at hFq
  have hLF := Lib.hid hLF0
  clear hLF0
  have hn0 : ((w2.alloc (.cells #[.int .i64 W, .int .i64 H, .slice none 0 0] 30))).ownsRow w2.heap.size 5 1 (.slice none 0 0) 0 ((List.replicate 0 (30 : Int)).map (Value.int .u8)) := own_nil _ _ _ _
  have hWHc := Lib.hid (Int.natCast_mul W H)
  go_loopw [11] (LoopW w w2.heap.size F T W H LF0 w2.heap.size) (fun i _ => W * H - (intOf i).toNat)
  case atStart => exact ⟨0, _, rfl, Nat.zero_le _, hq0, hn0, hFq, hBq⟩
  case round =>
    obtain ⟨k, v, rfl, hk, hq, hown, hfr, hbr⟩ := hrel
    have r0 : wr.cell? ⟨w2.heap.size, 0, none⟩ = some (.int .i64 W) := blk_cell hq 0
    have r1 : wr.cell? ⟨w2.heap.size, 1, none⟩ = some (.int .i64 H) := blk_cell hq 1
    have r2 : wr.cell? ⟨w2.heap.size, 2, none⟩ = some v := blk_cell hq 2
    have lq : w2.heap.size < wr.heap.size := blk_lt hq
    have hqH := Lib.hid hq
    have hownH := Lib.hid hown
    have hfrH := Lib.hid hfr
    have hbrH := Lib.hid hbr
    clear hq hfr hbr hq0 hn0 hFq hBq
    by_cases hlt : k < W * H
    · have hlt' : (k : Int) < (W : Int) * (H : Int) := by have := hWHc.out; omega
      have q1 := own_ne hown hqH.out (by decide)
      clear hown
      go_wp2_with (at_builtin; refine wpList_append_lies _ (by rfl) _ _ 28 (by rfl) w2.heap.size 5 i0 (.int .u8 0) 1 1 Try.underlying28 hi0 hz0 hz1 hz2 rfl (by omega) v k _ (by rfl) (hownH.out.alloc _) ⟨wr.heap.size, 0, none⟩ 1 1 [.int .u8 30] (by rfl) (by rfl) (cell_one_new _ _ _) (by simp [Value.oneCell']) (by omega) (by unfold maxLen; omega) (by omega) (by simp; omega) (wr.heap.size + 1) (by simp) ?_; intro gn capn w3 hown1 hgrow hat hlt1; have hF1' := blk_grown (blk_alloc hqH.out (.cells #[.int .u8 30] 5)) hgrow q1; have hc2 := blk_cell hF1' 2; have hfz2 := blk_frozen hF1' 2; have HF1 := Lib.hid hF1'; clear hF1'; simp at hc2)
      refine ⟨wnext hlt lF lT s2 s2 hqH.out hownH.out hfrH.out hbrH.out hgrow hown1, by simp [intOf]; omega⟩
    · obtain rfl : k = W * H := by omega
      obtain ⟨gq, cq, rfl, hgB, hgl⟩ := hown.form (by omega)
      have hl0 : LF0.length = W * H := by rw [← hLF.out, List.length_replicate]
      have hR := hownH.out
      rw [hLF.out, ← hl0] at hR
      rw [← hl0] at r2
      have hR0 : Row wr w2.heap.size gq cq LF0 := hR
      have hRH := Lib.hid hR0
      have hl0H := Lib.hid hl0
      have hq1 := hqH.out
      rw [← hl0] at hq1
      have hqH := Lib.hid hq1
      have hbd0 := Lib.hid (show ∀ z ∈ LF0, 0 ≤ z ∧ z ≤ 255 from fun z hz => by rw [← hLF.out] at hz; have := List.eq_of_mem_replicate hz; omega)
      have n0 : ¬ (W : Int) * (H : Int) < (W : Int) * (H : Int) := by omega
      have n1' : ¬ ((W * H : Nat) : Int) < (W : Int) * (H : Int) := by have := hWHc.out; omega
      clear hR hR0 hl0 hown hownH hqH hgl hgB
      have hqH := Lib.hid hq1
      clear hq1
      go_upto_region 11 with fail
      go_region_held3 (fun w' => w'.cell? ⟨w2.heap.size, 0, none⟩ = some (.int .i64 W) ∧ w'.cell? ⟨w2.heap.size, 1, none⟩ = some (.int .i64 H) ∧ w'.cell? ⟨w2.heap.size, 2, none⟩ = some (.slice (some ⟨gq, 0, none⟩) LF0.length cq))
        ((go_split_ands; (repeat' apply And.intro) <;> (repeat' (first | with_reducible assumption | with_reducible refine keepD ?_ | (refine cell_later hbq ?_; assumption)))))
        (first
          | (go_at_call 12; refine (pixels W H LF0 F T _ (by have := hl0H.out; omega) (by have := hl0H.out; omega) (by first | exact hfrH.out | exact frm_drew hfrH.out)).mono ?_; rintro e x1 ⟨g2, c2', rfl, ho2, hbq⟩; have R2 := Lib.hid (own_less ho2 (Nat.zero_le _) : Row x1 0 g2 c2' LF0); have R1 := Lib.hid (row_later hbq (by first | exact hRH.out | exact row_drew hRH.out) : Row x1 w2.heap.size gq cq LF0); have Bx1 := Lib.hid (below_step (by (repeat' (first | with_reducible assumption | with_reducible exact Below.refl _ _ | with_reducible refine below_alloc ?_ _ | with_reducible refine below_drew1 ?_ | with_reducible refine below_set ?_ ?_ | omega))) hbq : Below wr.heap.size wr x1); clear ho2)
          | (go_at_call 11; refine (same W H LF0 _ _ _ _ _ _ _ (by first | exact R2.out | exact row_drew R2.out) (by first | exact R1.out | exact row_drew R1.out)).mono ?_; rintro e x2 ⟨rfl, hbq⟩; have Bx2 := Lib.hid (below_step (below_step Bx1.out (by (repeat' (first | with_reducible assumption | with_reducible exact Below.refl _ _ | with_reducible refine below_alloc ?_ _ | with_reducible refine below_drew1 ?_ | with_reducible refine below_set ?_ ?_ | omega)))) hbq : Below wr.heap.size wr x2)))
      go_upto_region 14 with fail
      go_loopw [12] (LoopD w w2.heap.size F T w2.heap.size W H nm) (fun i _ => nm - (intOf i).toNat)
      case atStart => exact ⟨0, gq, cq, LF0, rfl, Nat.zero_le _, frm_later hfrH.out Bx2.out, lb_later hqH.out Bx2.out, row_later Bx2.out hRH.out, hl0H.out, hbd0.out, below_step hbrH.out Bx2.out⟩
      case round =>
        obtain ⟨k, gq, cq, LF, rfl, hk, hfr, hq, hR, hlF, hbd, hbr⟩ := hrel
        by_cases hlt : k < nm
        · have hlt' : (k : Int) < (nm : Int) := by omega
          obtain ⟨ga, oa, op, key, aw, ah, ink, hA1, m0, m1, m2, m3, m4, b0, b1, b2, b3⟩ := HA.out k (by omega)
          obtain ⟨gt, ot, t0, t1, t2, t3, t4, t5, t6, hA2, ⟨u0, u1, u2, u3, u4, u5, u6⟩, v0, v1, v2, v3, v4, v5, v6⟩ := HT.out k (by omega)
          obtain ⟨W1, H1, al, HS0, d1, d2, d3, d4, hal, hal2⟩ := field_of op key aw ah ink b0 b1 b2 b3
          obtain ⟨PX, PY, RN, RD, LO, HI, HTp0, e1, e2, e3, e4, e5, e6, e7, e8, e9, e10, e11⟩ := pen_of t0 t1 t2 t3 t4 t5 t6 v0 v1 v2 v3 v4 v5
          have HS := Lib.hid HS0
          have HTp := Lib.hid HTp0
          clear HS0 HTp0
          subst hA1 hA2
          have z0 : w.heap.size ≤ wr.heap.size := hbr.size
          replace m0 := cell_later hbr m0
          replace m1 := cell_later hbr m1
          replace m2 := cell_later hbr m2
          replace m3 := cell_later hbr m3
          replace m4 := cell_later hbr m4
          replace u0 := cell_later hbr u0
          replace u1 := cell_later hbr u1
          replace u2 := cell_later hbr u2
          replace u3 := cell_later hbr u3
          replace u4 := cell_later hbr u4
          replace u5 := cell_later hbr u5
          replace u6 := cell_later hbr u6

          have la : ga < wr.heap.size := World.block_lt_of_cell? _ _ m0
          have lt : gt < wr.heap.size := World.block_lt_of_cell? _ _ u0
          have hal0 : al.length = W1 * H1 := hal
          have hA1 : W1 * H1 ≤ 12 * 12 := Nat.mul_le_mul d2 d4
          have halI : (al.length : Int) = (W1 : Int) * H1 := by rw [hal, Int.natCast_mul]
          obtain ⟨D, hD⟩ : ∃ D : Nat → Int, D = fun j => col W1 H1 al LO HI t6 (uu PX RD (j % W)) (uu PY RD (j / W)) (2 * RN) (LF.getD j 0) := ⟨_, rfl⟩
          obtain ⟨L2, hL2⟩ : ∃ L : List Int, (List.range LF.length).map D = L := ⟨_, rfl⟩
          have hL2l : L2.length = W * H := by rw [← hL2, List.length_map, List.length_range]; exact hlF
          have hL2b : ∀ z ∈ L2, 0 ≤ z ∧ z ≤ 255 := fun z hz => by
            rw [← hL2] at hz
            obtain ⟨j, hj, rfl⟩ := List.mem_map.1 hz
            rw [hD]
            refine col_bd hal2 (by omega) (by omega) e10 v6.1 v6.2 ?_
            have hjl := List.mem_range.1 hj
            rw [List.getD_eq_getElem?_getD, List.getElem?_eq_getElem hjl]
            exact hbd _ (List.getElem_mem hjl)
          have HDr := Lib.hid (show ∀ (g cap : Nat) (w' : World), al.length ≤ cap → g ≠ T → Frm w' F T W H LF → (∀ j, j < al.length → w'.cell? ⟨g, j, none⟩ = some (.int .u8 (al.getD j 0))) → Calls Try.prog 15 #[.pointer (some ⟨F, 0, none⟩), .agg #[.int .i64 W1, .int .i64 H1, .slice (some ⟨g, 0, none⟩) al.length cap], .agg #[.int .i64 PX, .int .i64 PY, .int .i64 RN, .int .i64 RD, .int .i64 LO, .int .i64 HI, .int .u8 t6]] w' (fun e w2 => e = .returned (.int .i64 0) ∧ Frm w2 F T W H L2 ∧ Sv T w' w2) from fun g cap w' hc hgT hF hg => by
            rw [← hL2]
            exact drawn W H W1 H1 PX PY RN RD LO HI t6 (2 * RN) g cap F T al LF D w' hW1 hW2 hH1 hH2 hlF hbd (by omega) (by omega) (by omega) (by omega) halI hal2 hc (by omega) (by omega) (by omega) (by omega) e5 e6 e7 e8 e9 e10 e11 v6.1 v6.2 rfl hgT hF hg
              (fun y x hx hy => by
                have hgr := FullAll.grid_at (A := D) (H := 0) (y := y) hx
                rw [hD]
                show col W1 H1 al LO HI t6 (uu PX RD ((y * W + x) % W)) (uu PY RD ((y * W + x) / W)) (2 * RN) (LF.getD (y * W + x) 0) = _
                rw [hgr.1, hgr.2]))
          have HDw := Lib.hid (show ∀ (gf capf g cap : Nat) (w' : World), al.length ≤ cap → LF.length ≤ capf → (∀ j, j < LF.length → w'.cell? ⟨gf, j, none⟩ = some (.int .u8 (LF.getD j 0))) → (∀ j, j < al.length → w'.cell? ⟨g, j, none⟩ = some (.int .u8 (al.getD j 0))) → Calls Try.prog 16 #[.agg #[.int .i64 W, .int .i64 H, .slice (some ⟨gf, 0, none⟩) LF.length capf], .agg #[.int .i64 W1, .int .i64 H1, .slice (some ⟨g, 0, none⟩) al.length cap], .agg #[.int .i64 PX, .int .i64 PY, .int .i64 RN, .int .i64 RD, .int .i64 LO, .int .i64 HI, .int .u8 t6]] w' (Shown w' W H L2) from fun gf capf g cap w' hc hcf hf hg => by
            rw [← hL2]
            exact drew16 W H W1 H1 PX PY RN RD LO HI t6 gf capf g cap al LF D w' hW1 hW2 hH1 hH2 hlF hbd (by omega) (by omega) (by omega) (by omega) halI hal2 hc (by omega) (by omega) (by omega) (by omega) e5 e6 e7 e8 e9 e10 e11 v6.1 v6.2 hcf hf hg (fun j hj => by rw [hD]))
          have hL2lH := Lib.hid hL2l
          have hL2bH := Lib.hid hL2b
          have hlFH := Lib.hid hlF
          have hbdH := Lib.hid hbd
          have hfrH := Lib.hid hfr
          have hqkH := Lib.hid hq
          have hRkH := Lib.hid hR
          have hbkH := Lib.hid hbr
          clear hD hL2 hlF hbd hfr hq hR hbr hal hal0 hA1 halI hal2 hL2l hL2b D
          have i1 : (0 : Int) ≤ (k : Int) := by omega
          have i2 : (k : Int) < (n1 : Int) := by omega
          have i3 : (k : Int) < (n2 : Int) := by omega
          have i4 : (n1 : Int) ≤ (c1 : Int) := by omega
          have i5 : (n2 : Int) ≤ (c2 : Int) := by omega
          go_upto_region 16 with fail
          go_cut [13, 14] from 52 to 84 (fun s13 s14 wx => ∃ b p g cap : Nat, s13 = .pointer (some ⟨b, 0, none⟩) ∧ s14 = .pointer (some ⟨p, 0, none⟩) ∧ Two wr.heap.size wx b p g cap W1 H1 al #[.int .i64 PX, .int .i64 PY, .int .i64 RN, .int .i64 RD, .int .i64 LO, .int .i64 HI, .int .u8 t6] ∧ Below wr.heap.size wr wx)
          case first =>
            go_region_held3 (fun w' => w'.cell? ⟨ga, oa + k * 5, none⟩ = some (.int .u8 op) ∧ w'.cell? ⟨ga, oa + k * 5 + 1, none⟩ = some (.int .u8 key) ∧ w'.cell? ⟨ga, oa + k * 5 + 2, none⟩ = some (.int .u8 aw) ∧ w'.cell? ⟨ga, oa + k * 5 + 3, none⟩ = some (.int .u8 ah) ∧ w'.cell? ⟨ga, oa + k * 5 + 4, none⟩ = some (.int .u8 ink) ∧ w'.cell? ⟨gt, ot + k * 7, none⟩ = some (.int .u8 t0) ∧ w'.cell? ⟨gt, ot + k * 7 + 1, none⟩ = some (.int .u8 t1) ∧ w'.cell? ⟨gt, ot + k * 7 + 2, none⟩ = some (.int .u8 t2) ∧ w'.cell? ⟨gt, ot + k * 7 + 3, none⟩ = some (.int .u8 t3) ∧ w'.cell? ⟨gt, ot + k * 7 + 4, none⟩ = some (.int .u8 t4) ∧ w'.cell? ⟨gt, ot + k * 7 + 5, none⟩ = some (.int .u8 t5) ∧ w'.cell? ⟨gt, ot + k * 7 + 6, none⟩ = some (.int .u8 t6))
              ((go_split_ands; (repeat' apply And.intro) <;> (repeat' (first | with_reducible assumption | with_reducible refine keepA ?_ | with_reducible refine keepD ?_ | with_reducible refine keepS ?_ ?_ | (dsimp only; omega)))))
              (first
                | (go_at_call 13; refine (HS.out _).mono ?_; rintro e w3 ⟨g, cap, rfl, how3, hbq⟩; have Bw3 : Below wr.heap.size wr w3 := below_step (by (repeat' (first | with_reducible assumption | with_reducible exact Below.refl _ _ | with_reducible refine below_alloc ?_ _ | with_reducible refine below_drew1 ?_ | with_reducible refine below_set ?_ ?_ | omega))) hbq; have Rw3 : Row w3 wr.heap.size g cap al := own_less how3 (by first | exact Nat.le_refl _ | (simp; done) | (simp; omega)); clear how3; have sw3 := Bw3.size; have kw30 : w3.cell? ⟨ga, oa + k * 5, none⟩ = some (.int .u8 op) := cell_later hbq (by go_split_ands; assumption); have kw31 : w3.cell? ⟨ga, oa + k * 5 + 1, none⟩ = some (.int .u8 key) := cell_later hbq (by go_split_ands; assumption); have kw32 : w3.cell? ⟨ga, oa + k * 5 + 2, none⟩ = some (.int .u8 aw) := cell_later hbq (by go_split_ands; assumption); have kw33 : w3.cell? ⟨ga, oa + k * 5 + 3, none⟩ = some (.int .u8 ah) := cell_later hbq (by go_split_ands; assumption); have kw34 : w3.cell? ⟨ga, oa + k * 5 + 4, none⟩ = some (.int .u8 ink) := cell_later hbq (by go_split_ands; assumption); have kw35 : w3.cell? ⟨gt, ot + k * 7, none⟩ = some (.int .u8 t0) := cell_later hbq (by go_split_ands; assumption); have kw36 : w3.cell? ⟨gt, ot + k * 7 + 1, none⟩ = some (.int .u8 t1) := cell_later hbq (by go_split_ands; assumption); have kw37 : w3.cell? ⟨gt, ot + k * 7 + 2, none⟩ = some (.int .u8 t2) := cell_later hbq (by go_split_ands; assumption); have kw38 : w3.cell? ⟨gt, ot + k * 7 + 3, none⟩ = some (.int .u8 t3) := cell_later hbq (by go_split_ands; assumption); have kw39 : w3.cell? ⟨gt, ot + k * 7 + 4, none⟩ = some (.int .u8 t4) := cell_later hbq (by go_split_ands; assumption); have kw310 : w3.cell? ⟨gt, ot + k * 7 + 5, none⟩ = some (.int .u8 t5) := cell_later hbq (by go_split_ands; assumption); have kw311 : w3.cell? ⟨gt, ot + k * 7 + 6, none⟩ = some (.int .u8 t6) := cell_later hbq (by go_split_ands; assumption); (try (have fbw30 : FreshB w3 (wr.heap.size) := (by first | (with_reducible refine fb_later hbq (fb_new ?_); first | rfl | exact sz1 _ _) | (with_reducible refine fb_later hbq (fb_alloc (fb_new ?_)); first | rfl | exact sz1 _ _) | (with_reducible refine fb_later hbq ?_; with_reducible assumption) | (with_reducible refine fb_later hbq (fb_alloc ?_); with_reducible assumption) | (with_reducible refine fb_later hbq (fb_alloc (fb_alloc ?_)); with_reducible assumption) | (with_reducible refine fb_laterD hbq (fb_new ?_); first | rfl | exact sz1 _ _) | (with_reducible refine fb_laterD hbq (fb_alloc (fb_new ?_)); first | rfl | exact sz1 _ _) | (with_reducible refine fb_laterD hbq ?_; with_reducible assumption) | (with_reducible refine fb_laterD hbq (fb_alloc ?_); with_reducible assumption) | (with_reducible refine fb_laterD hbq (fb_alloc (fb_alloc ?_)); with_reducible assumption)); have fbw30c := fb_cells fbw30; have fbw30d : wr.heap.size < w3.heap.size := blk_lt fbw30; have fbw30e := Nat.ne_of_lt fbw30d; go_split_ands)); (try (have fpw30 : FreshP w3 (wr.heap.size) := (by first | (with_reducible refine fp_later hbq (fp_new ?_); first | rfl | exact sz1 _ _) | (with_reducible refine fp_later hbq (fp_alloc (fp_new ?_)); first | rfl | exact sz1 _ _) | (with_reducible refine fp_later hbq ?_; with_reducible assumption) | (with_reducible refine fp_later hbq (fp_alloc ?_); with_reducible assumption) | (with_reducible refine fp_later hbq (fp_alloc (fp_alloc ?_)); with_reducible assumption) | (with_reducible refine fp_laterD hbq (fp_new ?_); first | rfl | exact sz1 _ _) | (with_reducible refine fp_laterD hbq (fp_alloc (fp_new ?_)); first | rfl | exact sz1 _ _) | (with_reducible refine fp_laterD hbq ?_; with_reducible assumption) | (with_reducible refine fp_laterD hbq (fp_alloc ?_); with_reducible assumption) | (with_reducible refine fp_laterD hbq (fp_alloc (fp_alloc ?_)); with_reducible assumption)); have fpw30c := fp_cells fpw30; have fpw30d : wr.heap.size < w3.heap.size := blk_lt fpw30; have fpw30e := Nat.ne_of_lt fpw30d; go_split_ands)); (try (have fbw31 : FreshB w3 (wr.heap.size + 1) := (by first | (with_reducible refine fb_later hbq (fb_new ?_); first | rfl | exact sz1 _ _) | (with_reducible refine fb_later hbq (fb_alloc (fb_new ?_)); first | rfl | exact sz1 _ _) | (with_reducible refine fb_later hbq ?_; with_reducible assumption) | (with_reducible refine fb_later hbq (fb_alloc ?_); with_reducible assumption) | (with_reducible refine fb_later hbq (fb_alloc (fb_alloc ?_)); with_reducible assumption) | (with_reducible refine fb_laterD hbq (fb_new ?_); first | rfl | exact sz1 _ _) | (with_reducible refine fb_laterD hbq (fb_alloc (fb_new ?_)); first | rfl | exact sz1 _ _) | (with_reducible refine fb_laterD hbq ?_; with_reducible assumption) | (with_reducible refine fb_laterD hbq (fb_alloc ?_); with_reducible assumption) | (with_reducible refine fb_laterD hbq (fb_alloc (fb_alloc ?_)); with_reducible assumption)); have fbw31c := fb_cells fbw31; have fbw31d : wr.heap.size + 1 < w3.heap.size := blk_lt fbw31; have fbw31e := Nat.ne_of_lt fbw31d; go_split_ands)); (try (have fpw31 : FreshP w3 (wr.heap.size + 1) := (by first | (with_reducible refine fp_later hbq (fp_new ?_); first | rfl | exact sz1 _ _) | (with_reducible refine fp_later hbq (fp_alloc (fp_new ?_)); first | rfl | exact sz1 _ _) | (with_reducible refine fp_later hbq ?_; with_reducible assumption) | (with_reducible refine fp_later hbq (fp_alloc ?_); with_reducible assumption) | (with_reducible refine fp_later hbq (fp_alloc (fp_alloc ?_)); with_reducible assumption) | (with_reducible refine fp_laterD hbq (fp_new ?_); first | rfl | exact sz1 _ _) | (with_reducible refine fp_laterD hbq (fp_alloc (fp_new ?_)); first | rfl | exact sz1 _ _) | (with_reducible refine fp_laterD hbq ?_; with_reducible assumption) | (with_reducible refine fp_laterD hbq (fp_alloc ?_); with_reducible assumption) | (with_reducible refine fp_laterD hbq (fp_alloc (fp_alloc ?_)); with_reducible assumption)); have fpw31c := fp_cells fpw31; have fpw31d : wr.heap.size + 1 < w3.heap.size := blk_lt fpw31; have fpw31e := Nat.ne_of_lt fpw31d; go_split_ands)))
                | (go_at_call 14; refine (HTp.out _).mono ?_; rintro e w4 ⟨rfl, hbq⟩; have Bw4 : Below wr.heap.size wr w4 := below_step (by (repeat' (first | with_reducible assumption | with_reducible exact Below.refl _ _ | with_reducible refine below_alloc ?_ _ | with_reducible refine below_drew1 ?_ | with_reducible refine below_set ?_ ?_ | omega))) hbq; have sw4 := Bw4.size; have kw40 : w4.cell? ⟨ga, oa + k * 5, none⟩ = some (.int .u8 op) := cell_later hbq (by go_split_ands; assumption); have kw41 : w4.cell? ⟨ga, oa + k * 5 + 1, none⟩ = some (.int .u8 key) := cell_later hbq (by go_split_ands; assumption); have kw42 : w4.cell? ⟨ga, oa + k * 5 + 2, none⟩ = some (.int .u8 aw) := cell_later hbq (by go_split_ands; assumption); have kw43 : w4.cell? ⟨ga, oa + k * 5 + 3, none⟩ = some (.int .u8 ah) := cell_later hbq (by go_split_ands; assumption); have kw44 : w4.cell? ⟨ga, oa + k * 5 + 4, none⟩ = some (.int .u8 ink) := cell_later hbq (by go_split_ands; assumption); have kw45 : w4.cell? ⟨gt, ot + k * 7, none⟩ = some (.int .u8 t0) := cell_later hbq (by go_split_ands; assumption); have kw46 : w4.cell? ⟨gt, ot + k * 7 + 1, none⟩ = some (.int .u8 t1) := cell_later hbq (by go_split_ands; assumption); have kw47 : w4.cell? ⟨gt, ot + k * 7 + 2, none⟩ = some (.int .u8 t2) := cell_later hbq (by go_split_ands; assumption); have kw48 : w4.cell? ⟨gt, ot + k * 7 + 3, none⟩ = some (.int .u8 t3) := cell_later hbq (by go_split_ands; assumption); have kw49 : w4.cell? ⟨gt, ot + k * 7 + 4, none⟩ = some (.int .u8 t4) := cell_later hbq (by go_split_ands; assumption); have kw410 : w4.cell? ⟨gt, ot + k * 7 + 5, none⟩ = some (.int .u8 t5) := cell_later hbq (by go_split_ands; assumption); have kw411 : w4.cell? ⟨gt, ot + k * 7 + 6, none⟩ = some (.int .u8 t6) := cell_later hbq (by go_split_ands; assumption); (try (have fbw40 : FreshB w4 (wr.heap.size) := (by first | (with_reducible refine fb_later hbq (fb_new ?_); first | rfl | exact sz1 _ _) | (with_reducible refine fb_later hbq (fb_alloc (fb_new ?_)); first | rfl | exact sz1 _ _) | (with_reducible refine fb_later hbq ?_; with_reducible assumption) | (with_reducible refine fb_later hbq (fb_alloc ?_); with_reducible assumption) | (with_reducible refine fb_later hbq (fb_alloc (fb_alloc ?_)); with_reducible assumption) | (with_reducible refine fb_laterD hbq (fb_new ?_); first | rfl | exact sz1 _ _) | (with_reducible refine fb_laterD hbq (fb_alloc (fb_new ?_)); first | rfl | exact sz1 _ _) | (with_reducible refine fb_laterD hbq ?_; with_reducible assumption) | (with_reducible refine fb_laterD hbq (fb_alloc ?_); with_reducible assumption) | (with_reducible refine fb_laterD hbq (fb_alloc (fb_alloc ?_)); with_reducible assumption)); have fbw40c := fb_cells fbw40; have fbw40d : wr.heap.size < w4.heap.size := blk_lt fbw40; have fbw40e := Nat.ne_of_lt fbw40d; go_split_ands)); (try (have fpw40 : FreshP w4 (wr.heap.size) := (by first | (with_reducible refine fp_later hbq (fp_new ?_); first | rfl | exact sz1 _ _) | (with_reducible refine fp_later hbq (fp_alloc (fp_new ?_)); first | rfl | exact sz1 _ _) | (with_reducible refine fp_later hbq ?_; with_reducible assumption) | (with_reducible refine fp_later hbq (fp_alloc ?_); with_reducible assumption) | (with_reducible refine fp_later hbq (fp_alloc (fp_alloc ?_)); with_reducible assumption) | (with_reducible refine fp_laterD hbq (fp_new ?_); first | rfl | exact sz1 _ _) | (with_reducible refine fp_laterD hbq (fp_alloc (fp_new ?_)); first | rfl | exact sz1 _ _) | (with_reducible refine fp_laterD hbq ?_; with_reducible assumption) | (with_reducible refine fp_laterD hbq (fp_alloc ?_); with_reducible assumption) | (with_reducible refine fp_laterD hbq (fp_alloc (fp_alloc ?_)); with_reducible assumption)); have fpw40c := fp_cells fpw40; have fpw40d : wr.heap.size < w4.heap.size := blk_lt fpw40; have fpw40e := Nat.ne_of_lt fpw40d; go_split_ands)); (try (have fbw41 : FreshB w4 (wr.heap.size + 1) := (by first | (with_reducible refine fb_later hbq (fb_new ?_); first | rfl | exact sz1 _ _) | (with_reducible refine fb_later hbq (fb_alloc (fb_new ?_)); first | rfl | exact sz1 _ _) | (with_reducible refine fb_later hbq ?_; with_reducible assumption) | (with_reducible refine fb_later hbq (fb_alloc ?_); with_reducible assumption) | (with_reducible refine fb_later hbq (fb_alloc (fb_alloc ?_)); with_reducible assumption) | (with_reducible refine fb_laterD hbq (fb_new ?_); first | rfl | exact sz1 _ _) | (with_reducible refine fb_laterD hbq (fb_alloc (fb_new ?_)); first | rfl | exact sz1 _ _) | (with_reducible refine fb_laterD hbq ?_; with_reducible assumption) | (with_reducible refine fb_laterD hbq (fb_alloc ?_); with_reducible assumption) | (with_reducible refine fb_laterD hbq (fb_alloc (fb_alloc ?_)); with_reducible assumption)); have fbw41c := fb_cells fbw41; have fbw41d : wr.heap.size + 1 < w4.heap.size := blk_lt fbw41; have fbw41e := Nat.ne_of_lt fbw41d; go_split_ands)); (try (have fpw41 : FreshP w4 (wr.heap.size + 1) := (by first | (with_reducible refine fp_later hbq (fp_new ?_); first | rfl | exact sz1 _ _) | (with_reducible refine fp_later hbq (fp_alloc (fp_new ?_)); first | rfl | exact sz1 _ _) | (with_reducible refine fp_later hbq ?_; with_reducible assumption) | (with_reducible refine fp_later hbq (fp_alloc ?_); with_reducible assumption) | (with_reducible refine fp_later hbq (fp_alloc (fp_alloc ?_)); with_reducible assumption) | (with_reducible refine fp_laterD hbq (fp_new ?_); first | rfl | exact sz1 _ _) | (with_reducible refine fp_laterD hbq (fp_alloc (fp_new ?_)); first | rfl | exact sz1 _ _) | (with_reducible refine fp_laterD hbq ?_; with_reducible assumption) | (with_reducible refine fp_laterD hbq (fp_alloc ?_); with_reducible assumption) | (with_reducible refine fp_laterD hbq (fp_alloc (fp_alloc ?_)); with_reducible assumption)); have fpw41c := fp_cells fpw41; have fpw41d : wr.heap.size + 1 < w4.heap.size := blk_lt fpw41; have fpw41e := Nat.ne_of_lt fpw41d; go_split_ands)); (try (have fbw42 : FreshB w4 (w3.heap.size) := (by first | (with_reducible refine fb_later hbq (fb_new ?_); first | rfl | exact sz1 _ _) | (with_reducible refine fb_later hbq (fb_alloc (fb_new ?_)); first | rfl | exact sz1 _ _) | (with_reducible refine fb_later hbq ?_; with_reducible assumption) | (with_reducible refine fb_later hbq (fb_alloc ?_); with_reducible assumption) | (with_reducible refine fb_later hbq (fb_alloc (fb_alloc ?_)); with_reducible assumption) | (with_reducible refine fb_laterD hbq (fb_new ?_); first | rfl | exact sz1 _ _) | (with_reducible refine fb_laterD hbq (fb_alloc (fb_new ?_)); first | rfl | exact sz1 _ _) | (with_reducible refine fb_laterD hbq ?_; with_reducible assumption) | (with_reducible refine fb_laterD hbq (fb_alloc ?_); with_reducible assumption) | (with_reducible refine fb_laterD hbq (fb_alloc (fb_alloc ?_)); with_reducible assumption)); have fbw42c := fb_cells fbw42; have fbw42d : w3.heap.size < w4.heap.size := blk_lt fbw42; have fbw42e := Nat.ne_of_lt fbw42d; go_split_ands)); (try (have fpw42 : FreshP w4 (w3.heap.size) := (by first | (with_reducible refine fp_later hbq (fp_new ?_); first | rfl | exact sz1 _ _) | (with_reducible refine fp_later hbq (fp_alloc (fp_new ?_)); first | rfl | exact sz1 _ _) | (with_reducible refine fp_later hbq ?_; with_reducible assumption) | (with_reducible refine fp_later hbq (fp_alloc ?_); with_reducible assumption) | (with_reducible refine fp_later hbq (fp_alloc (fp_alloc ?_)); with_reducible assumption) | (with_reducible refine fp_laterD hbq (fp_new ?_); first | rfl | exact sz1 _ _) | (with_reducible refine fp_laterD hbq (fp_alloc (fp_new ?_)); first | rfl | exact sz1 _ _) | (with_reducible refine fp_laterD hbq ?_; with_reducible assumption) | (with_reducible refine fp_laterD hbq (fp_alloc ?_); with_reducible assumption) | (with_reducible refine fp_laterD hbq (fp_alloc (fp_alloc ?_)); with_reducible assumption)); have fpw42c := fp_cells fpw42; have fpw42d : w3.heap.size < w4.heap.size := blk_lt fpw42; have fpw42e := Nat.ne_of_lt fpw42d; go_split_ands)); (try (have fbw43 : FreshB w4 (w3.heap.size + 1) := (by first | (with_reducible refine fb_later hbq (fb_new ?_); first | rfl | exact sz1 _ _) | (with_reducible refine fb_later hbq (fb_alloc (fb_new ?_)); first | rfl | exact sz1 _ _) | (with_reducible refine fb_later hbq ?_; with_reducible assumption) | (with_reducible refine fb_later hbq (fb_alloc ?_); with_reducible assumption) | (with_reducible refine fb_later hbq (fb_alloc (fb_alloc ?_)); with_reducible assumption) | (with_reducible refine fb_laterD hbq (fb_new ?_); first | rfl | exact sz1 _ _) | (with_reducible refine fb_laterD hbq (fb_alloc (fb_new ?_)); first | rfl | exact sz1 _ _) | (with_reducible refine fb_laterD hbq ?_; with_reducible assumption) | (with_reducible refine fb_laterD hbq (fb_alloc ?_); with_reducible assumption) | (with_reducible refine fb_laterD hbq (fb_alloc (fb_alloc ?_)); with_reducible assumption)); have fbw43c := fb_cells fbw43; have fbw43d : w3.heap.size + 1 < w4.heap.size := blk_lt fbw43; have fbw43e := Nat.ne_of_lt fbw43d; go_split_ands)); (try (have fpw43 : FreshP w4 (w3.heap.size + 1) := (by first | (with_reducible refine fp_later hbq (fp_new ?_); first | rfl | exact sz1 _ _) | (with_reducible refine fp_later hbq (fp_alloc (fp_new ?_)); first | rfl | exact sz1 _ _) | (with_reducible refine fp_later hbq ?_; with_reducible assumption) | (with_reducible refine fp_later hbq (fp_alloc ?_); with_reducible assumption) | (with_reducible refine fp_later hbq (fp_alloc (fp_alloc ?_)); with_reducible assumption) | (with_reducible refine fp_laterD hbq (fp_new ?_); first | rfl | exact sz1 _ _) | (with_reducible refine fp_laterD hbq (fp_alloc (fp_new ?_)); first | rfl | exact sz1 _ _) | (with_reducible refine fp_laterD hbq ?_; with_reducible assumption) | (with_reducible refine fp_laterD hbq (fp_alloc ?_); with_reducible assumption) | (with_reducible refine fp_laterD hbq (fp_alloc (fp_alloc ?_)); with_reducible assumption)); have fpw43c := fp_cells fpw43; have fpw43d : w3.heap.size + 1 < w4.heap.size := blk_lt fpw43; have fpw43e := Nat.ne_of_lt fpw43d; go_split_ands)); (try (have Rw4 : Row w4 wr.heap.size g cap al := (by first | (with_reducible refine row_later hbq ?_; with_reducible assumption) | (with_reducible refine row_later hbq (row_alloc ?_); with_reducible assumption) | (with_reducible refine row_later hbq (row_alloc (row_alloc ?_)); with_reducible assumption) | (with_reducible refine row_laterD hbq ?_; with_reducible assumption) | (with_reducible refine row_laterD hbq (row_alloc ?_); with_reducible assumption) | (with_reducible refine row_laterD hbq (row_alloc (row_alloc ?_)); with_reducible assumption))))))
            all_goals (go_wp2_with fail; go_meet)
            all_goals (refine ⟨_, _, _, _, rfl, rfl, two_mk (cap := cap) (g := g) ?_ ?_ ?_ ?_ ?_, ?_⟩ <;> (repeat' (first | with_reducible assumption | (with_reducible refine fb_new ?_; first | rfl | exact sz1 _ _ | exact szB | exact szP) | (with_reducible refine fp_new ?_; first | rfl | exact sz1 _ _ | exact szB | exact szP) | (with_reducible refine lb_new ?_; first | rfl | exact sz1 _ _ | exact szB | exact szP) | (with_reducible refine lp_new ?_; first | rfl | exact sz1 _ _ | exact szB | exact szP) | with_reducible refine lb_set ?_ | with_reducible refine lp_set ?_ | with_reducible refine fb_alloc ?_ | with_reducible refine fp_alloc ?_ | with_reducible refine lb_alloc ?_ | with_reducible refine lp_alloc ?_ | with_reducible refine fp_setB ?_ ?_ | with_reducible refine fb_setP ?_ ?_ | with_reducible refine lp_setB ?_ ?_ | with_reducible refine lb_setP ?_ ?_ | with_reducible refine fb_drew ?_ | with_reducible refine fp_drew ?_ | with_reducible refine lb_drew ?_ | with_reducible refine lp_drew ?_ | with_reducible refine row_setB ?_ ?_ | with_reducible refine row_setP ?_ ?_ | with_reducible refine row_alloc ?_ | with_reducible refine row_drew ?_ | with_reducible exact Below.refl _ _ | with_reducible refine below_alloc ?_ _ | with_reducible refine below_drew1 ?_ | with_reducible refine below_set ?_ ?_ | exact Nat.le_refl _ | omega)))
          case rest =>
            obtain ⟨b, p, g, cap, rfl, rfl, h2, hbx⟩ := hcut
            have hcap : al.length ≤ cap := own_cap h2.2.2.1
            have hgW : wr.heap.size ≤ g := two_base h2
            have lqr : w2.heap.size < wr.heap.size := blk_lt hqkH.out
            have hfx := Lib.hid (frm_later hfrH.out hbx)
            have hqx := Lib.hid (lb_later hqkH.out hbx)
            have hRx := Lib.hid (row_later hbx hRkH.out)
            have hBx := Lib.hid (below_step hbkH.out hbx)
            have h2H := Lib.hid h2
            have hgT : g ≠ T := by omega
            have hgal := Lib.hid (two_text h2).1
            obtain ⟨⟨a0, a1, a2⟩, y0, y1, y2, y3, y4, y5, y6⟩ := two_cells h2
            have swx := hbx.size
            clear h2 hbx hfrH hqkH hRkH hbkH m0 m1 m2 m3 m4 u0 u1 u2 u3 u4 u5 u6
            have hqT : w2.heap.size ≠ T := by omega
            go_upto_region 17 with fail
            go_upto_region 19 with (go_at_call 15; refine (HDr.out g cap _ hcap hgT hfx.out hgal.out).mono ?_; rintro e w5 ⟨rfl, hF5, hS5⟩; have hF5H := Lib.hid hF5; have hS5H := Lib.hid hS5; clear hF5 hS5)
            have hq5 : LaidB w5 w2.heap.size W H (.slice (some ⟨gq, 0, none⟩) LF.length cq) := (hS5H.out.block _ (blk_lt hqx.out) hqT).trans hqx.out
            have gqB : w2.heap.size ≤ gq := own_base hRx.out gq rfl
            have hR5 : Row w5 w2.heap.size gq cq LF := own_move hRx.out (fun j hj => hS5H.out.block j (own_lt hRx.out j hj) (by have := own_base hRx.out j hj; omega))
            have h25 := two_sv h2H.out hS5H.out (by omega)
            have hcq : LF.length ≤ cq := own_cap hR5
            have w5s : wc.heap.size ≤ w5.heap.size := hS5H.out.size
            have hB5 := Lib.hid (sv_below hBx.out hS5H.out (by omega) (by omega))
            obtain ⟨⟨b0', b1', b2'⟩, x0, x1, x2', x3, x4, x5, x6⟩ := two_cells h25
            have r0 : w5.cell? ⟨w2.heap.size, 0, none⟩ = some (.int .i64 W) := blk_cell hq5 0
            have r1 : w5.cell? ⟨w2.heap.size, 1, none⟩ = some (.int .i64 H) := blk_cell hq5 1
            have r2 : w5.cell? ⟨w2.heap.size, 2, none⟩ = some (.slice (some ⟨gq, 0, none⟩) LF.length cq) := blk_cell hq5 2
            have hfq := Lib.hid (row_text hR5).1
            have hga := Lib.hid (two_text h25).1
            have lq5 : w2.heap.size < w5.heap.size := blk_lt hq5
            have lF5 : F < w5.heap.size := by omega
            have lT5 : T < w5.heap.size := by omega
            have hq5H := Lib.hid hq5
            clear hq5 hR5 h25 a0 a1 a2 y0 y1 y2 y3 y4 y5 y6 h2H hRx hqx hfx hS5H hBx
            go_upto_region 20 with (go_at_call 16; refine (HDw.out gq cq g cap _ hcap hcq hfq.out hga.out).mono ?_; rintro e w6 ⟨gn, capn, rfl, ho6, hb6⟩; have hq6 := lb_later hq5H.out hb6; have hq6H := Lib.hid hq6; have c60 := blk_cell hq6 0; have c61 := blk_cell hq6 1; have c62 := blk_cell hq6 2; have f60 := blk_frozen hq6 0; have f61 := blk_frozen hq6 1; have f62 := blk_frozen hq6 2; have hb6H := Lib.hid hb6; have ho6H := Lib.hid ho6; clear ho6 hb6 hq6; simp at c60 c61 c62)
            have hq70 := lb_reset (sl := .slice (some ⟨gn, 0, none⟩) L2.length capn) hq6H.out
            unfold setB at hq70
            have hq7 := Lib.hid hq70
            clear hq70
            have hF70 := frm_reset (b := w2.heap.size) (W := (W : Int)) (H := (H : Int)) (sl := .slice (some ⟨gn, 0, none⟩) L2.length capn) (frm_later hF5H.out hb6H.out) (by omega) (by omega)
            unfold setB at hF70
            have hF7 := Lib.hid hF70
            clear hF70
            have hR70 := row_reset (sl := .slice (some ⟨gn, 0, none⟩) L2.length capn) (own_less ho6H.out (by omega) : Row w6 w2.heap.size gn capn L2) hq6H.out
            unfold setB at hR70
            have hR7 := Lib.hid hR70
            clear hR70
            have hB70 := below_setB (b := w2.heap.size) (W := (W : Int)) (H := (H : Int)) (sl := .slice (some ⟨gn, 0, none⟩) L2.length capn) (below_step hB5.out hb6H.out) s2
            unfold setB at hB70
            have hB7 := Lib.hid hB70
            clear hB70
            generalize ((w6.setCell ⟨w2.heap.size, 0, none⟩ (.int .i64 W)).setCell ⟨w2.heap.size, 1, none⟩ (.int .i64 H)).setCell ⟨w2.heap.size, 2, none⟩ (.slice (some ⟨gn, 0, none⟩) L2.length capn) = wz at *
            clear c60 c61 c62 f60 f61 f62 b0' b1' b2' x0 x1 x2' x3 x4 x5 x6 r0 r1 r2 hq6H hb6H ho6H
            have g0 : wz.cell? ⟨w2.heap.size, 0, none⟩ = some (.int .i64 W) := blk_cell hq7.out 0
            have g1 : wz.cell? ⟨w2.heap.size, 1, none⟩ = some (.int .i64 H) := blk_cell hq7.out 1
            have g2 : wz.cell? ⟨w2.heap.size, 2, none⟩ = some (.slice (some ⟨gn, 0, none⟩) L2.length capn) := blk_cell hq7.out 2
            go_region_held3 (fun w' => w'.cell? ⟨w2.heap.size, 0, none⟩ = some (.int .i64 W) ∧ w'.cell? ⟨w2.heap.size, 1, none⟩ = some (.int .i64 H) ∧ w'.cell? ⟨w2.heap.size, 2, none⟩ = some (.slice (some ⟨gn, 0, none⟩) L2.length capn))
              ((go_split_ands; (repeat' apply And.intro) <;> (repeat' (first | with_reducible assumption | with_reducible refine keepD ?_ | (refine cell_later hbq ?_; assumption)))))
              (first
                | (go_at_call 12; refine (pixels W H L2 F T _ (by have := hL2lH.out; omega) (by have := hL2lH.out; omega) (by first | exact hF7.out | exact frm_drew hF7.out)).mono ?_; rintro e x3 ⟨g5, c5', rfl, ho5, hbq⟩; have R5 := Lib.hid (own_less ho5 (Nat.zero_le _) : Row x3 0 g5 c5' L2); have R6 := Lib.hid (row_later hbq (by first | exact hR7.out | exact row_drew hR7.out) : Row x3 w2.heap.size gn capn L2); have Bx3 := Lib.hid (below_step (by (repeat' (first | with_reducible assumption | with_reducible exact Below.refl _ _ | with_reducible refine below_alloc ?_ _ | with_reducible refine below_drew1 ?_ | with_reducible refine below_set ?_ ?_ | omega))) hbq : Below wz.heap.size wz x3); clear ho5)
                | (go_at_call 11; refine (same W H L2 _ _ _ _ _ _ _ (by first | exact R5.out | exact row_drew R5.out) (by first | exact R6.out | exact row_drew R6.out)).mono ?_; rintro e x4 ⟨rfl, hbq⟩; have Bx4 := Lib.hid (below_step (below_step Bx3.out (by (repeat' (first | with_reducible assumption | with_reducible exact Below.refl _ _ | with_reducible refine below_alloc ?_ _ | with_reducible refine below_drew1 ?_ | with_reducible refine below_set ?_ ?_ | omega)))) hbq : Below wz.heap.size wz x4)))
            go_wp2_with fail
            exact ⟨⟨k + 1, gn, capn, L2, by congr 1, by omega, frm_later hF7.out Bx4.out, lb_later hq7.out Bx4.out, row_later Bx4.out hR7.out, hL2lH.out, hL2bH.out, below_step hB7.out Bx4.out⟩, by simp [intOf]; omega⟩
        · obtain rfl : k = nm := by omega
          go_wp2_with fail
          go_ret
          exact ⟨rfl, hbr⟩
end Go.Proofs.Ytfbnaicnmkkohaa.WalkDraw
