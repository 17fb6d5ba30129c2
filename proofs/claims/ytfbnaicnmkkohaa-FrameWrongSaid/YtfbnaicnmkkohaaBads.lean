/- What may not be drawn is told, and nothing changes. Conditions: as each states. -/
import Derived.Test.YtfbnaicnmkkohaaMay
namespace Go.Proofs.Ytfbnaicnmkkohaa.Bads
open Go Go.RowKit Go.Lib Go.Proofs.YtfbnaicnmkkohaaW.PrintWords Go.Proofs.YtfbnaicnmkkohaaW.PrintLast Go.Proofs.YtfbnaicnmkkohaaW.PrintMore Go.Proofs.Ytfbnaicnmkkohaa.Core Go.Proofs.Ytfbnaicnmkkohaa.PFramePlace Go.Proofs.Ytfbnaicnmkkohaa.Repeat Go.Proofs.Ytfbnaicnmkkohaa.Frames Go.Proofs.Ytfbnaicnmkkohaa.Draw Go.Proofs.Ytfbnaicnmkkohaa.Drawn Go.Proofs.Ytfbnaicnmkkohaa.Awake Go.Proofs.Ytfbnaicnmkkohaa.Two Go.Proofs.Ytfbnaicnmkkohaa.Parts Go.Proofs.Ytfbnaicnmkkohaa.May
set_option linter.unusedVariables false
set_option linter.unusedSimpArgs false
attribute [local go_sem ↓] Go.wp_at_zero Go.wp_at_succ
/-- is a number too far -/
def farB (z : Int) : Bool := decide (z < -96) || decide (96 < z)
theorem farB_no {z : Int} (h1 : -96 ≤ z) (h2 : z ≤ 96) : farB z = false := by unfold farB; simp; omega
theorem farB_yes {z : Int} (h : z < -96 ∨ 96 < z) : farB z = true := by unfold farB; simp; omega
theorem far_all (z : Int) (w : World) : Calls Try.prog 26 #[.int .i64 z] w (Ret (.bool (farB z)) w) := by
  obtain ⟨b, hb⟩ : ∃ b, farB z = b := ⟨_, rfl⟩
  rw [hb]
  by_cases c1 : z < -96
  · obtain rfl : b = true := by rw [← hb]; exact farB_yes (.inl c1)
    have t1 : decide (z < -96) = true := decide_eq_true c1
    clear hb
    go_enter Try.func26, Try.ntmps26
    go_wp2_with fail
    go_ret
    exact ⟨rfl, Below.refl _ _⟩
  · by_cases c2 : 96 < z
    · obtain rfl : b = true := by rw [← hb]; exact farB_yes (.inr c2)
      clear hb
      go_enter Try.func26, Try.ntmps26
      go_wp2_with fail
      go_ret
      exact ⟨rfl, Below.refl _ _⟩
    · obtain rfl : b = false := by rw [← hb]; exact farB_no (by omega) (by omega)
      clear hb
      go_enter Try.func26, Try.ntmps26
      go_wp2_with fail
      go_ret
      exact ⟨rfl, Below.refl _ _⟩
set_option maxHeartbeats 2000000 in
theorem badF (F : Nat) (AW AH PX PY RN RD LO HI INK : Int) (A : Option Addr) (n cap : Nat) (w : World) 
    (HR : Hid (∀ w', Below w.heap.size w w' → Calls Try.prog 18 #[.agg #[.int .i64 AW, .int .i64 AH, .slice A n cap]] w' (Ret (.bool false) w'))) :
    Calls Try.prog 15 #[.pointer (some ⟨F, 0, none⟩), .agg #[.int .i64 AW, .int .i64 AH, .slice A n cap], .agg #[.int .i64 PX, .int .i64 PY, .int .i64 RN, .int .i64 RD, .int .i64 LO, .int .i64 HI, .int .u8 INK]] w (Ret (.int .i64 4) w) := by
  go_enter Try.func15, Try.ntmps15
  go_upto_region 2 with fail
  have p0 : ((w.alloc (.cells #[.int .i64 AW, .int .i64 AH, .slice A n cap] 30)).alloc (.cells #[.int .i64 PX, .int .i64 PY, .int .i64 RN, .int .i64 RD, .int .i64 LO, .int .i64 HI, .int .u8 INK] 39)).cell? ⟨w.heap.size + 1, 0, none⟩ = some (.int .i64 PX) := by go_simp
  have p1 : ((w.alloc (.cells #[.int .i64 AW, .int .i64 AH, .slice A n cap] 30)).alloc (.cells #[.int .i64 PX, .int .i64 PY, .int .i64 RN, .int .i64 RD, .int .i64 LO, .int .i64 HI, .int .u8 INK] 39)).cell? ⟨w.heap.size + 1, 1, none⟩ = some (.int .i64 PY) := by go_simp
  have p2 : ((w.alloc (.cells #[.int .i64 AW, .int .i64 AH, .slice A n cap] 30)).alloc (.cells #[.int .i64 PX, .int .i64 PY, .int .i64 RN, .int .i64 RD, .int .i64 LO, .int .i64 HI, .int .u8 INK] 39)).cell? ⟨w.heap.size + 1, 2, none⟩ = some (.int .i64 RN) := by go_simp
  have p3 : ((w.alloc (.cells #[.int .i64 AW, .int .i64 AH, .slice A n cap] 30)).alloc (.cells #[.int .i64 PX, .int .i64 PY, .int .i64 RN, .int .i64 RD, .int .i64 LO, .int .i64 HI, .int .u8 INK] 39)).cell? ⟨w.heap.size + 1, 3, none⟩ = some (.int .i64 RD) := by go_simp
  have p4 : ((w.alloc (.cells #[.int .i64 AW, .int .i64 AH, .slice A n cap] 30)).alloc (.cells #[.int .i64 PX, .int .i64 PY, .int .i64 RN, .int .i64 RD, .int .i64 LO, .int .i64 HI, .int .u8 INK] 39)).cell? ⟨w.heap.size + 1, 4, none⟩ = some (.int .i64 LO) := by go_simp
  have p5 : ((w.alloc (.cells #[.int .i64 AW, .int .i64 AH, .slice A n cap] 30)).alloc (.cells #[.int .i64 PX, .int .i64 PY, .int .i64 RN, .int .i64 RD, .int .i64 LO, .int .i64 HI, .int .u8 INK] 39)).cell? ⟨w.heap.size + 1, 5, none⟩ = some (.int .i64 HI) := by go_simp
  have a0 : ((w.alloc (.cells #[.int .i64 AW, .int .i64 AH, .slice A n cap] 30)).alloc (.cells #[.int .i64 PX, .int .i64 PY, .int .i64 RN, .int .i64 RD, .int .i64 LO, .int .i64 HI, .int .u8 INK] 39)).cell? ⟨w.heap.size, 0, none⟩ = some (.int .i64 AW) := by go_simp
  have a1 : ((w.alloc (.cells #[.int .i64 AW, .int .i64 AH, .slice A n cap] 30)).alloc (.cells #[.int .i64 PX, .int .i64 PY, .int .i64 RN, .int .i64 RD, .int .i64 LO, .int .i64 HI, .int .u8 INK] 39)).cell? ⟨w.heap.size, 1, none⟩ = some (.int .i64 AH) := by go_simp
  have a2 : ((w.alloc (.cells #[.int .i64 AW, .int .i64 AH, .slice A n cap] 30)).alloc (.cells #[.int .i64 PX, .int .i64 PY, .int .i64 RN, .int .i64 RD, .int .i64 LO, .int .i64 HI, .int .u8 INK] 39)).cell? ⟨w.heap.size, 2, none⟩ = some (.slice A n cap) := by go_simp
  have hB : Below w.heap.size w ((w.alloc (.cells #[.int .i64 AW, .int .i64 AH, .slice A n cap] 30)).alloc (.cells #[.int .i64 PX, .int .i64 PY, .int .i64 RN, .int .i64 RD, .int .i64 LO, .int .i64 HI, .int .u8 INK] 39)) := below_alloc (below_alloc (Below.refl _ _) _) _
  generalize ((w.alloc (.cells #[.int .i64 AW, .int .i64 AH, .slice A n cap] 30)).alloc (.cells #[.int .i64 PX, .int .i64 PY, .int .i64 RN, .int .i64 RD, .int .i64 LO, .int .i64 HI, .int .u8 INK] 39)) = wb at *
  go_wp2_with (first
    | (go_at_call 18; refine (HR.out _ hB).mono ?_; rintro e w1 ⟨rfl, hq⟩; replace hB := below_step hB hq; replace p0 := cell_later hq p0; replace p1 := cell_later hq p1; replace p2 := cell_later hq p2; replace p3 := cell_later hq p3; replace p4 := cell_later hq p4; replace p5 := cell_later hq p5))
  go_ret
  exact ⟨rfl, hB⟩
set_option maxHeartbeats 2000000 in
theorem badR (F : Nat) (AW AH PX PY RN RD LO HI INK : Int) (A : Option Addr) (n cap : Nat) (w : World) 
    (HR : Hid (∀ w', Below w.heap.size w w' → Calls Try.prog 18 #[.agg #[.int .i64 AW, .int .i64 AH, .slice A n cap]] w' (Ret (.bool true) w'))) (HQ : Hid (∀ w', Calls Try.prog 19 #[.agg #[.int .i64 RN, .int .i64 RD]] w' (Ret (.bool false) w'))) (HF : Hid (∀ z w', Calls Try.prog 26 #[.int .i64 z] w' (Ret (.bool (farB z)) w'))) :
    Calls Try.prog 15 #[.pointer (some ⟨F, 0, none⟩), .agg #[.int .i64 AW, .int .i64 AH, .slice A n cap], .agg #[.int .i64 PX, .int .i64 PY, .int .i64 RN, .int .i64 RD, .int .i64 LO, .int .i64 HI, .int .u8 INK]] w (Ret (.int .i64 4) w) := by
  go_enter Try.func15, Try.ntmps15
  go_upto_region 2 with fail
  have p0 : ((w.alloc (.cells #[.int .i64 AW, .int .i64 AH, .slice A n cap] 30)).alloc (.cells #[.int .i64 PX, .int .i64 PY, .int .i64 RN, .int .i64 RD, .int .i64 LO, .int .i64 HI, .int .u8 INK] 39)).cell? ⟨w.heap.size + 1, 0, none⟩ = some (.int .i64 PX) := by go_simp
  have p1 : ((w.alloc (.cells #[.int .i64 AW, .int .i64 AH, .slice A n cap] 30)).alloc (.cells #[.int .i64 PX, .int .i64 PY, .int .i64 RN, .int .i64 RD, .int .i64 LO, .int .i64 HI, .int .u8 INK] 39)).cell? ⟨w.heap.size + 1, 1, none⟩ = some (.int .i64 PY) := by go_simp
  have p2 : ((w.alloc (.cells #[.int .i64 AW, .int .i64 AH, .slice A n cap] 30)).alloc (.cells #[.int .i64 PX, .int .i64 PY, .int .i64 RN, .int .i64 RD, .int .i64 LO, .int .i64 HI, .int .u8 INK] 39)).cell? ⟨w.heap.size + 1, 2, none⟩ = some (.int .i64 RN) := by go_simp
  have p3 : ((w.alloc (.cells #[.int .i64 AW, .int .i64 AH, .slice A n cap] 30)).alloc (.cells #[.int .i64 PX, .int .i64 PY, .int .i64 RN, .int .i64 RD, .int .i64 LO, .int .i64 HI, .int .u8 INK] 39)).cell? ⟨w.heap.size + 1, 3, none⟩ = some (.int .i64 RD) := by go_simp
  have p4 : ((w.alloc (.cells #[.int .i64 AW, .int .i64 AH, .slice A n cap] 30)).alloc (.cells #[.int .i64 PX, .int .i64 PY, .int .i64 RN, .int .i64 RD, .int .i64 LO, .int .i64 HI, .int .u8 INK] 39)).cell? ⟨w.heap.size + 1, 4, none⟩ = some (.int .i64 LO) := by go_simp
  have p5 : ((w.alloc (.cells #[.int .i64 AW, .int .i64 AH, .slice A n cap] 30)).alloc (.cells #[.int .i64 PX, .int .i64 PY, .int .i64 RN, .int .i64 RD, .int .i64 LO, .int .i64 HI, .int .u8 INK] 39)).cell? ⟨w.heap.size + 1, 5, none⟩ = some (.int .i64 HI) := by go_simp
  have a0 : ((w.alloc (.cells #[.int .i64 AW, .int .i64 AH, .slice A n cap] 30)).alloc (.cells #[.int .i64 PX, .int .i64 PY, .int .i64 RN, .int .i64 RD, .int .i64 LO, .int .i64 HI, .int .u8 INK] 39)).cell? ⟨w.heap.size, 0, none⟩ = some (.int .i64 AW) := by go_simp
  have a1 : ((w.alloc (.cells #[.int .i64 AW, .int .i64 AH, .slice A n cap] 30)).alloc (.cells #[.int .i64 PX, .int .i64 PY, .int .i64 RN, .int .i64 RD, .int .i64 LO, .int .i64 HI, .int .u8 INK] 39)).cell? ⟨w.heap.size, 1, none⟩ = some (.int .i64 AH) := by go_simp
  have a2 : ((w.alloc (.cells #[.int .i64 AW, .int .i64 AH, .slice A n cap] 30)).alloc (.cells #[.int .i64 PX, .int .i64 PY, .int .i64 RN, .int .i64 RD, .int .i64 LO, .int .i64 HI, .int .u8 INK] 39)).cell? ⟨w.heap.size, 2, none⟩ = some (.slice A n cap) := by go_simp
  have hB : Below w.heap.size w ((w.alloc (.cells #[.int .i64 AW, .int .i64 AH, .slice A n cap] 30)).alloc (.cells #[.int .i64 PX, .int .i64 PY, .int .i64 RN, .int .i64 RD, .int .i64 LO, .int .i64 HI, .int .u8 INK] 39)) := below_alloc (below_alloc (Below.refl _ _) _) _
  generalize ((w.alloc (.cells #[.int .i64 AW, .int .i64 AH, .slice A n cap] 30)).alloc (.cells #[.int .i64 PX, .int .i64 PY, .int .i64 RN, .int .i64 RD, .int .i64 LO, .int .i64 HI, .int .u8 INK] 39)) = wb at *
  go_wp2_with (first
    | (go_at_call 18; refine (HR.out _ hB).mono ?_; rintro e w1 ⟨rfl, hq⟩; replace hB := below_step hB hq; replace p0 := cell_later hq p0; replace p1 := cell_later hq p1; replace p2 := cell_later hq p2; replace p3 := cell_later hq p3; replace p4 := cell_later hq p4; replace p5 := cell_later hq p5)
    | (go_at_call 19; refine (HQ.out _).mono ?_; rintro e w2 ⟨rfl, hq⟩; replace hB := below_step hB hq; replace p0 := cell_later hq p0; replace p1 := cell_later hq p1; replace p2 := cell_later hq p2; replace p3 := cell_later hq p3; replace p4 := cell_later hq p4; replace p5 := cell_later hq p5)
    | (go_at_call_of 26 (Value.int IntKind.i64 PX); refine (HF.out _ _).mono ?_; rintro e w3 ⟨rfl, hq⟩; replace hB := below_step hB hq; replace p0 := cell_later hq p0; replace p1 := cell_later hq p1; replace p2 := cell_later hq p2; replace p3 := cell_later hq p3; replace p4 := cell_later hq p4; replace p5 := cell_later hq p5)
    | (go_at_call_of 26 (Value.int IntKind.i64 PY); refine (HF.out _ _).mono ?_; rintro e w4 ⟨rfl, hq⟩; replace hB := below_step hB hq; replace p0 := cell_later hq p0; replace p1 := cell_later hq p1; replace p2 := cell_later hq p2; replace p3 := cell_later hq p3; replace p4 := cell_later hq p4; replace p5 := cell_later hq p5))
  go_ret
  exact ⟨rfl, hB⟩
set_option maxHeartbeats 2000000 in
theorem badX (F : Nat) (AW AH PX PY RN RD LO HI INK : Int) (A : Option Addr) (n cap : Nat) (w : World) (h : farB PX = true)
    (HR : Hid (∀ w', Below w.heap.size w w' → Calls Try.prog 18 #[.agg #[.int .i64 AW, .int .i64 AH, .slice A n cap]] w' (Ret (.bool true) w'))) (HQ : Hid (∀ w', Calls Try.prog 19 #[.agg #[.int .i64 RN, .int .i64 RD]] w' (Ret (.bool true) w'))) (HF : Hid (∀ z w', Calls Try.prog 26 #[.int .i64 z] w' (Ret (.bool (farB z)) w'))) :
    Calls Try.prog 15 #[.pointer (some ⟨F, 0, none⟩), .agg #[.int .i64 AW, .int .i64 AH, .slice A n cap], .agg #[.int .i64 PX, .int .i64 PY, .int .i64 RN, .int .i64 RD, .int .i64 LO, .int .i64 HI, .int .u8 INK]] w (Ret (.int .i64 4) w) := by
  go_enter Try.func15, Try.ntmps15
  go_upto_region 2 with fail
  have p0 : ((w.alloc (.cells #[.int .i64 AW, .int .i64 AH, .slice A n cap] 30)).alloc (.cells #[.int .i64 PX, .int .i64 PY, .int .i64 RN, .int .i64 RD, .int .i64 LO, .int .i64 HI, .int .u8 INK] 39)).cell? ⟨w.heap.size + 1, 0, none⟩ = some (.int .i64 PX) := by go_simp
  have p1 : ((w.alloc (.cells #[.int .i64 AW, .int .i64 AH, .slice A n cap] 30)).alloc (.cells #[.int .i64 PX, .int .i64 PY, .int .i64 RN, .int .i64 RD, .int .i64 LO, .int .i64 HI, .int .u8 INK] 39)).cell? ⟨w.heap.size + 1, 1, none⟩ = some (.int .i64 PY) := by go_simp
  have p2 : ((w.alloc (.cells #[.int .i64 AW, .int .i64 AH, .slice A n cap] 30)).alloc (.cells #[.int .i64 PX, .int .i64 PY, .int .i64 RN, .int .i64 RD, .int .i64 LO, .int .i64 HI, .int .u8 INK] 39)).cell? ⟨w.heap.size + 1, 2, none⟩ = some (.int .i64 RN) := by go_simp
  have p3 : ((w.alloc (.cells #[.int .i64 AW, .int .i64 AH, .slice A n cap] 30)).alloc (.cells #[.int .i64 PX, .int .i64 PY, .int .i64 RN, .int .i64 RD, .int .i64 LO, .int .i64 HI, .int .u8 INK] 39)).cell? ⟨w.heap.size + 1, 3, none⟩ = some (.int .i64 RD) := by go_simp
  have p4 : ((w.alloc (.cells #[.int .i64 AW, .int .i64 AH, .slice A n cap] 30)).alloc (.cells #[.int .i64 PX, .int .i64 PY, .int .i64 RN, .int .i64 RD, .int .i64 LO, .int .i64 HI, .int .u8 INK] 39)).cell? ⟨w.heap.size + 1, 4, none⟩ = some (.int .i64 LO) := by go_simp
  have p5 : ((w.alloc (.cells #[.int .i64 AW, .int .i64 AH, .slice A n cap] 30)).alloc (.cells #[.int .i64 PX, .int .i64 PY, .int .i64 RN, .int .i64 RD, .int .i64 LO, .int .i64 HI, .int .u8 INK] 39)).cell? ⟨w.heap.size + 1, 5, none⟩ = some (.int .i64 HI) := by go_simp
  have a0 : ((w.alloc (.cells #[.int .i64 AW, .int .i64 AH, .slice A n cap] 30)).alloc (.cells #[.int .i64 PX, .int .i64 PY, .int .i64 RN, .int .i64 RD, .int .i64 LO, .int .i64 HI, .int .u8 INK] 39)).cell? ⟨w.heap.size, 0, none⟩ = some (.int .i64 AW) := by go_simp
  have a1 : ((w.alloc (.cells #[.int .i64 AW, .int .i64 AH, .slice A n cap] 30)).alloc (.cells #[.int .i64 PX, .int .i64 PY, .int .i64 RN, .int .i64 RD, .int .i64 LO, .int .i64 HI, .int .u8 INK] 39)).cell? ⟨w.heap.size, 1, none⟩ = some (.int .i64 AH) := by go_simp
  have a2 : ((w.alloc (.cells #[.int .i64 AW, .int .i64 AH, .slice A n cap] 30)).alloc (.cells #[.int .i64 PX, .int .i64 PY, .int .i64 RN, .int .i64 RD, .int .i64 LO, .int .i64 HI, .int .u8 INK] 39)).cell? ⟨w.heap.size, 2, none⟩ = some (.slice A n cap) := by go_simp
  have hB : Below w.heap.size w ((w.alloc (.cells #[.int .i64 AW, .int .i64 AH, .slice A n cap] 30)).alloc (.cells #[.int .i64 PX, .int .i64 PY, .int .i64 RN, .int .i64 RD, .int .i64 LO, .int .i64 HI, .int .u8 INK] 39)) := below_alloc (below_alloc (Below.refl _ _) _) _
  generalize ((w.alloc (.cells #[.int .i64 AW, .int .i64 AH, .slice A n cap] 30)).alloc (.cells #[.int .i64 PX, .int .i64 PY, .int .i64 RN, .int .i64 RD, .int .i64 LO, .int .i64 HI, .int .u8 INK] 39)) = wb at *
  go_wp2_with (first
    | (go_at_call 18; refine (HR.out _ hB).mono ?_; rintro e w1 ⟨rfl, hq⟩; replace hB := below_step hB hq; replace p0 := cell_later hq p0; replace p1 := cell_later hq p1; replace p2 := cell_later hq p2; replace p3 := cell_later hq p3; replace p4 := cell_later hq p4; replace p5 := cell_later hq p5)
    | (go_at_call 19; refine (HQ.out _).mono ?_; rintro e w2 ⟨rfl, hq⟩; replace hB := below_step hB hq; replace p0 := cell_later hq p0; replace p1 := cell_later hq p1; replace p2 := cell_later hq p2; replace p3 := cell_later hq p3; replace p4 := cell_later hq p4; replace p5 := cell_later hq p5)
    | (go_at_call_of 26 (Value.int IntKind.i64 PX); refine (HF.out _ _).mono ?_; rintro e w3 ⟨rfl, hq⟩; replace hB := below_step hB hq; replace p0 := cell_later hq p0; replace p1 := cell_later hq p1; replace p2 := cell_later hq p2; replace p3 := cell_later hq p3; replace p4 := cell_later hq p4; replace p5 := cell_later hq p5)
    | (go_at_call_of 26 (Value.int IntKind.i64 PY); refine (HF.out _ _).mono ?_; rintro e w4 ⟨rfl, hq⟩; replace hB := below_step hB hq; replace p0 := cell_later hq p0; replace p1 := cell_later hq p1; replace p2 := cell_later hq p2; replace p3 := cell_later hq p3; replace p4 := cell_later hq p4; replace p5 := cell_later hq p5))
  go_ret
  exact ⟨rfl, hB⟩
set_option maxHeartbeats 2000000 in
theorem badY (F : Nat) (AW AH PX PY RN RD LO HI INK : Int) (A : Option Addr) (n cap : Nat) (w : World) (h0 : farB PX = false) (h : farB PY = true)
    (HR : Hid (∀ w', Below w.heap.size w w' → Calls Try.prog 18 #[.agg #[.int .i64 AW, .int .i64 AH, .slice A n cap]] w' (Ret (.bool true) w'))) (HQ : Hid (∀ w', Calls Try.prog 19 #[.agg #[.int .i64 RN, .int .i64 RD]] w' (Ret (.bool true) w'))) (HF : Hid (∀ z w', Calls Try.prog 26 #[.int .i64 z] w' (Ret (.bool (farB z)) w'))) :
    Calls Try.prog 15 #[.pointer (some ⟨F, 0, none⟩), .agg #[.int .i64 AW, .int .i64 AH, .slice A n cap], .agg #[.int .i64 PX, .int .i64 PY, .int .i64 RN, .int .i64 RD, .int .i64 LO, .int .i64 HI, .int .u8 INK]] w (Ret (.int .i64 4) w) := by
  go_enter Try.func15, Try.ntmps15
  go_upto_region 2 with fail
  have p0 : ((w.alloc (.cells #[.int .i64 AW, .int .i64 AH, .slice A n cap] 30)).alloc (.cells #[.int .i64 PX, .int .i64 PY, .int .i64 RN, .int .i64 RD, .int .i64 LO, .int .i64 HI, .int .u8 INK] 39)).cell? ⟨w.heap.size + 1, 0, none⟩ = some (.int .i64 PX) := by go_simp
  have p1 : ((w.alloc (.cells #[.int .i64 AW, .int .i64 AH, .slice A n cap] 30)).alloc (.cells #[.int .i64 PX, .int .i64 PY, .int .i64 RN, .int .i64 RD, .int .i64 LO, .int .i64 HI, .int .u8 INK] 39)).cell? ⟨w.heap.size + 1, 1, none⟩ = some (.int .i64 PY) := by go_simp
  have p2 : ((w.alloc (.cells #[.int .i64 AW, .int .i64 AH, .slice A n cap] 30)).alloc (.cells #[.int .i64 PX, .int .i64 PY, .int .i64 RN, .int .i64 RD, .int .i64 LO, .int .i64 HI, .int .u8 INK] 39)).cell? ⟨w.heap.size + 1, 2, none⟩ = some (.int .i64 RN) := by go_simp
  have p3 : ((w.alloc (.cells #[.int .i64 AW, .int .i64 AH, .slice A n cap] 30)).alloc (.cells #[.int .i64 PX, .int .i64 PY, .int .i64 RN, .int .i64 RD, .int .i64 LO, .int .i64 HI, .int .u8 INK] 39)).cell? ⟨w.heap.size + 1, 3, none⟩ = some (.int .i64 RD) := by go_simp
  have p4 : ((w.alloc (.cells #[.int .i64 AW, .int .i64 AH, .slice A n cap] 30)).alloc (.cells #[.int .i64 PX, .int .i64 PY, .int .i64 RN, .int .i64 RD, .int .i64 LO, .int .i64 HI, .int .u8 INK] 39)).cell? ⟨w.heap.size + 1, 4, none⟩ = some (.int .i64 LO) := by go_simp
  have p5 : ((w.alloc (.cells #[.int .i64 AW, .int .i64 AH, .slice A n cap] 30)).alloc (.cells #[.int .i64 PX, .int .i64 PY, .int .i64 RN, .int .i64 RD, .int .i64 LO, .int .i64 HI, .int .u8 INK] 39)).cell? ⟨w.heap.size + 1, 5, none⟩ = some (.int .i64 HI) := by go_simp
  have a0 : ((w.alloc (.cells #[.int .i64 AW, .int .i64 AH, .slice A n cap] 30)).alloc (.cells #[.int .i64 PX, .int .i64 PY, .int .i64 RN, .int .i64 RD, .int .i64 LO, .int .i64 HI, .int .u8 INK] 39)).cell? ⟨w.heap.size, 0, none⟩ = some (.int .i64 AW) := by go_simp
  have a1 : ((w.alloc (.cells #[.int .i64 AW, .int .i64 AH, .slice A n cap] 30)).alloc (.cells #[.int .i64 PX, .int .i64 PY, .int .i64 RN, .int .i64 RD, .int .i64 LO, .int .i64 HI, .int .u8 INK] 39)).cell? ⟨w.heap.size, 1, none⟩ = some (.int .i64 AH) := by go_simp
  have a2 : ((w.alloc (.cells #[.int .i64 AW, .int .i64 AH, .slice A n cap] 30)).alloc (.cells #[.int .i64 PX, .int .i64 PY, .int .i64 RN, .int .i64 RD, .int .i64 LO, .int .i64 HI, .int .u8 INK] 39)).cell? ⟨w.heap.size, 2, none⟩ = some (.slice A n cap) := by go_simp
  have hB : Below w.heap.size w ((w.alloc (.cells #[.int .i64 AW, .int .i64 AH, .slice A n cap] 30)).alloc (.cells #[.int .i64 PX, .int .i64 PY, .int .i64 RN, .int .i64 RD, .int .i64 LO, .int .i64 HI, .int .u8 INK] 39)) := below_alloc (below_alloc (Below.refl _ _) _) _
  generalize ((w.alloc (.cells #[.int .i64 AW, .int .i64 AH, .slice A n cap] 30)).alloc (.cells #[.int .i64 PX, .int .i64 PY, .int .i64 RN, .int .i64 RD, .int .i64 LO, .int .i64 HI, .int .u8 INK] 39)) = wb at *
  go_wp2_with (first
    | (go_at_call 18; refine (HR.out _ hB).mono ?_; rintro e w1 ⟨rfl, hq⟩; replace hB := below_step hB hq; replace p0 := cell_later hq p0; replace p1 := cell_later hq p1; replace p2 := cell_later hq p2; replace p3 := cell_later hq p3; replace p4 := cell_later hq p4; replace p5 := cell_later hq p5)
    | (go_at_call 19; refine (HQ.out _).mono ?_; rintro e w2 ⟨rfl, hq⟩; replace hB := below_step hB hq; replace p0 := cell_later hq p0; replace p1 := cell_later hq p1; replace p2 := cell_later hq p2; replace p3 := cell_later hq p3; replace p4 := cell_later hq p4; replace p5 := cell_later hq p5)
    | (go_at_call_of 26 (Value.int IntKind.i64 PX); refine (HF.out _ _).mono ?_; rintro e w3 ⟨rfl, hq⟩; replace hB := below_step hB hq; replace p0 := cell_later hq p0; replace p1 := cell_later hq p1; replace p2 := cell_later hq p2; replace p3 := cell_later hq p3; replace p4 := cell_later hq p4; replace p5 := cell_later hq p5)
    | (go_at_call_of 26 (Value.int IntKind.i64 PY); refine (HF.out _ _).mono ?_; rintro e w4 ⟨rfl, hq⟩; replace hB := below_step hB hq; replace p0 := cell_later hq p0; replace p1 := cell_later hq p1; replace p2 := cell_later hq p2; replace p3 := cell_later hq p3; replace p4 := cell_later hq p4; replace p5 := cell_later hq p5))
  go_ret
  exact ⟨rfl, hB⟩
set_option maxHeartbeats 2000000 in
theorem badL (F : Nat) (AW AH PX PY RN RD LO HI INK : Int) (A : Option Addr) (n cap : Nat) (w : World) (h0 : farB PX = false) (h1 : farB PY = false) (h : LO < 0)
    (HR : Hid (∀ w', Below w.heap.size w w' → Calls Try.prog 18 #[.agg #[.int .i64 AW, .int .i64 AH, .slice A n cap]] w' (Ret (.bool true) w'))) (HQ : Hid (∀ w', Calls Try.prog 19 #[.agg #[.int .i64 RN, .int .i64 RD]] w' (Ret (.bool true) w'))) (HF : Hid (∀ z w', Calls Try.prog 26 #[.int .i64 z] w' (Ret (.bool (farB z)) w'))) :
    Calls Try.prog 15 #[.pointer (some ⟨F, 0, none⟩), .agg #[.int .i64 AW, .int .i64 AH, .slice A n cap], .agg #[.int .i64 PX, .int .i64 PY, .int .i64 RN, .int .i64 RD, .int .i64 LO, .int .i64 HI, .int .u8 INK]] w (Ret (.int .i64 4) w) := by
  have t1 : decide (LO < 0) = true := decide_eq_true h
  go_enter Try.func15, Try.ntmps15
  go_upto_region 2 with fail
  have p0 : ((w.alloc (.cells #[.int .i64 AW, .int .i64 AH, .slice A n cap] 30)).alloc (.cells #[.int .i64 PX, .int .i64 PY, .int .i64 RN, .int .i64 RD, .int .i64 LO, .int .i64 HI, .int .u8 INK] 39)).cell? ⟨w.heap.size + 1, 0, none⟩ = some (.int .i64 PX) := by go_simp
  have p1 : ((w.alloc (.cells #[.int .i64 AW, .int .i64 AH, .slice A n cap] 30)).alloc (.cells #[.int .i64 PX, .int .i64 PY, .int .i64 RN, .int .i64 RD, .int .i64 LO, .int .i64 HI, .int .u8 INK] 39)).cell? ⟨w.heap.size + 1, 1, none⟩ = some (.int .i64 PY) := by go_simp
  have p2 : ((w.alloc (.cells #[.int .i64 AW, .int .i64 AH, .slice A n cap] 30)).alloc (.cells #[.int .i64 PX, .int .i64 PY, .int .i64 RN, .int .i64 RD, .int .i64 LO, .int .i64 HI, .int .u8 INK] 39)).cell? ⟨w.heap.size + 1, 2, none⟩ = some (.int .i64 RN) := by go_simp
  have p3 : ((w.alloc (.cells #[.int .i64 AW, .int .i64 AH, .slice A n cap] 30)).alloc (.cells #[.int .i64 PX, .int .i64 PY, .int .i64 RN, .int .i64 RD, .int .i64 LO, .int .i64 HI, .int .u8 INK] 39)).cell? ⟨w.heap.size + 1, 3, none⟩ = some (.int .i64 RD) := by go_simp
  have p4 : ((w.alloc (.cells #[.int .i64 AW, .int .i64 AH, .slice A n cap] 30)).alloc (.cells #[.int .i64 PX, .int .i64 PY, .int .i64 RN, .int .i64 RD, .int .i64 LO, .int .i64 HI, .int .u8 INK] 39)).cell? ⟨w.heap.size + 1, 4, none⟩ = some (.int .i64 LO) := by go_simp
  have p5 : ((w.alloc (.cells #[.int .i64 AW, .int .i64 AH, .slice A n cap] 30)).alloc (.cells #[.int .i64 PX, .int .i64 PY, .int .i64 RN, .int .i64 RD, .int .i64 LO, .int .i64 HI, .int .u8 INK] 39)).cell? ⟨w.heap.size + 1, 5, none⟩ = some (.int .i64 HI) := by go_simp
  have a0 : ((w.alloc (.cells #[.int .i64 AW, .int .i64 AH, .slice A n cap] 30)).alloc (.cells #[.int .i64 PX, .int .i64 PY, .int .i64 RN, .int .i64 RD, .int .i64 LO, .int .i64 HI, .int .u8 INK] 39)).cell? ⟨w.heap.size, 0, none⟩ = some (.int .i64 AW) := by go_simp
  have a1 : ((w.alloc (.cells #[.int .i64 AW, .int .i64 AH, .slice A n cap] 30)).alloc (.cells #[.int .i64 PX, .int .i64 PY, .int .i64 RN, .int .i64 RD, .int .i64 LO, .int .i64 HI, .int .u8 INK] 39)).cell? ⟨w.heap.size, 1, none⟩ = some (.int .i64 AH) := by go_simp
  have a2 : ((w.alloc (.cells #[.int .i64 AW, .int .i64 AH, .slice A n cap] 30)).alloc (.cells #[.int .i64 PX, .int .i64 PY, .int .i64 RN, .int .i64 RD, .int .i64 LO, .int .i64 HI, .int .u8 INK] 39)).cell? ⟨w.heap.size, 2, none⟩ = some (.slice A n cap) := by go_simp
  have hB : Below w.heap.size w ((w.alloc (.cells #[.int .i64 AW, .int .i64 AH, .slice A n cap] 30)).alloc (.cells #[.int .i64 PX, .int .i64 PY, .int .i64 RN, .int .i64 RD, .int .i64 LO, .int .i64 HI, .int .u8 INK] 39)) := below_alloc (below_alloc (Below.refl _ _) _) _
  generalize ((w.alloc (.cells #[.int .i64 AW, .int .i64 AH, .slice A n cap] 30)).alloc (.cells #[.int .i64 PX, .int .i64 PY, .int .i64 RN, .int .i64 RD, .int .i64 LO, .int .i64 HI, .int .u8 INK] 39)) = wb at *
  go_wp2_with (first
    | (go_at_call 18; refine (HR.out _ hB).mono ?_; rintro e w1 ⟨rfl, hq⟩; replace hB := below_step hB hq; replace p0 := cell_later hq p0; replace p1 := cell_later hq p1; replace p2 := cell_later hq p2; replace p3 := cell_later hq p3; replace p4 := cell_later hq p4; replace p5 := cell_later hq p5)
    | (go_at_call 19; refine (HQ.out _).mono ?_; rintro e w2 ⟨rfl, hq⟩; replace hB := below_step hB hq; replace p0 := cell_later hq p0; replace p1 := cell_later hq p1; replace p2 := cell_later hq p2; replace p3 := cell_later hq p3; replace p4 := cell_later hq p4; replace p5 := cell_later hq p5)
    | (go_at_call_of 26 (Value.int IntKind.i64 PX); refine (HF.out _ _).mono ?_; rintro e w3 ⟨rfl, hq⟩; replace hB := below_step hB hq; replace p0 := cell_later hq p0; replace p1 := cell_later hq p1; replace p2 := cell_later hq p2; replace p3 := cell_later hq p3; replace p4 := cell_later hq p4; replace p5 := cell_later hq p5)
    | (go_at_call_of 26 (Value.int IntKind.i64 PY); refine (HF.out _ _).mono ?_; rintro e w4 ⟨rfl, hq⟩; replace hB := below_step hB hq; replace p0 := cell_later hq p0; replace p1 := cell_later hq p1; replace p2 := cell_later hq p2; replace p3 := cell_later hq p3; replace p4 := cell_later hq p4; replace p5 := cell_later hq p5))
  go_ret
  exact ⟨rfl, hB⟩
set_option maxHeartbeats 2000000 in
theorem badH (F : Nat) (AW AH PX PY RN RD LO HI INK : Int) (A : Option Addr) (n cap : Nat) (w : World) (h0 : farB PX = false) (h1 : farB PY = false) (h2 : ¬ LO < 0) (h : 255 < HI)
    (HR : Hid (∀ w', Below w.heap.size w w' → Calls Try.prog 18 #[.agg #[.int .i64 AW, .int .i64 AH, .slice A n cap]] w' (Ret (.bool true) w'))) (HQ : Hid (∀ w', Calls Try.prog 19 #[.agg #[.int .i64 RN, .int .i64 RD]] w' (Ret (.bool true) w'))) (HF : Hid (∀ z w', Calls Try.prog 26 #[.int .i64 z] w' (Ret (.bool (farB z)) w'))) :
    Calls Try.prog 15 #[.pointer (some ⟨F, 0, none⟩), .agg #[.int .i64 AW, .int .i64 AH, .slice A n cap], .agg #[.int .i64 PX, .int .i64 PY, .int .i64 RN, .int .i64 RD, .int .i64 LO, .int .i64 HI, .int .u8 INK]] w (Ret (.int .i64 4) w) := by
  have t1 : decide (LO < 0) = false := decide_eq_false h2
  have t2 : decide (255 < HI) = true := decide_eq_true h
  go_enter Try.func15, Try.ntmps15
  go_upto_region 2 with fail
  have p0 : ((w.alloc (.cells #[.int .i64 AW, .int .i64 AH, .slice A n cap] 30)).alloc (.cells #[.int .i64 PX, .int .i64 PY, .int .i64 RN, .int .i64 RD, .int .i64 LO, .int .i64 HI, .int .u8 INK] 39)).cell? ⟨w.heap.size + 1, 0, none⟩ = some (.int .i64 PX) := by go_simp
  have p1 : ((w.alloc (.cells #[.int .i64 AW, .int .i64 AH, .slice A n cap] 30)).alloc (.cells #[.int .i64 PX, .int .i64 PY, .int .i64 RN, .int .i64 RD, .int .i64 LO, .int .i64 HI, .int .u8 INK] 39)).cell? ⟨w.heap.size + 1, 1, none⟩ = some (.int .i64 PY) := by go_simp
  have p2 : ((w.alloc (.cells #[.int .i64 AW, .int .i64 AH, .slice A n cap] 30)).alloc (.cells #[.int .i64 PX, .int .i64 PY, .int .i64 RN, .int .i64 RD, .int .i64 LO, .int .i64 HI, .int .u8 INK] 39)).cell? ⟨w.heap.size + 1, 2, none⟩ = some (.int .i64 RN) := by go_simp
  have p3 : ((w.alloc (.cells #[.int .i64 AW, .int .i64 AH, .slice A n cap] 30)).alloc (.cells #[.int .i64 PX, .int .i64 PY, .int .i64 RN, .int .i64 RD, .int .i64 LO, .int .i64 HI, .int .u8 INK] 39)).cell? ⟨w.heap.size + 1, 3, none⟩ = some (.int .i64 RD) := by go_simp
  have p4 : ((w.alloc (.cells #[.int .i64 AW, .int .i64 AH, .slice A n cap] 30)).alloc (.cells #[.int .i64 PX, .int .i64 PY, .int .i64 RN, .int .i64 RD, .int .i64 LO, .int .i64 HI, .int .u8 INK] 39)).cell? ⟨w.heap.size + 1, 4, none⟩ = some (.int .i64 LO) := by go_simp
  have p5 : ((w.alloc (.cells #[.int .i64 AW, .int .i64 AH, .slice A n cap] 30)).alloc (.cells #[.int .i64 PX, .int .i64 PY, .int .i64 RN, .int .i64 RD, .int .i64 LO, .int .i64 HI, .int .u8 INK] 39)).cell? ⟨w.heap.size + 1, 5, none⟩ = some (.int .i64 HI) := by go_simp
  have a0 : ((w.alloc (.cells #[.int .i64 AW, .int .i64 AH, .slice A n cap] 30)).alloc (.cells #[.int .i64 PX, .int .i64 PY, .int .i64 RN, .int .i64 RD, .int .i64 LO, .int .i64 HI, .int .u8 INK] 39)).cell? ⟨w.heap.size, 0, none⟩ = some (.int .i64 AW) := by go_simp
  have a1 : ((w.alloc (.cells #[.int .i64 AW, .int .i64 AH, .slice A n cap] 30)).alloc (.cells #[.int .i64 PX, .int .i64 PY, .int .i64 RN, .int .i64 RD, .int .i64 LO, .int .i64 HI, .int .u8 INK] 39)).cell? ⟨w.heap.size, 1, none⟩ = some (.int .i64 AH) := by go_simp
  have a2 : ((w.alloc (.cells #[.int .i64 AW, .int .i64 AH, .slice A n cap] 30)).alloc (.cells #[.int .i64 PX, .int .i64 PY, .int .i64 RN, .int .i64 RD, .int .i64 LO, .int .i64 HI, .int .u8 INK] 39)).cell? ⟨w.heap.size, 2, none⟩ = some (.slice A n cap) := by go_simp
  have hB : Below w.heap.size w ((w.alloc (.cells #[.int .i64 AW, .int .i64 AH, .slice A n cap] 30)).alloc (.cells #[.int .i64 PX, .int .i64 PY, .int .i64 RN, .int .i64 RD, .int .i64 LO, .int .i64 HI, .int .u8 INK] 39)) := below_alloc (below_alloc (Below.refl _ _) _) _
  generalize ((w.alloc (.cells #[.int .i64 AW, .int .i64 AH, .slice A n cap] 30)).alloc (.cells #[.int .i64 PX, .int .i64 PY, .int .i64 RN, .int .i64 RD, .int .i64 LO, .int .i64 HI, .int .u8 INK] 39)) = wb at *
  go_wp2_with (first
    | (go_at_call 18; refine (HR.out _ hB).mono ?_; rintro e w1 ⟨rfl, hq⟩; replace hB := below_step hB hq; replace p0 := cell_later hq p0; replace p1 := cell_later hq p1; replace p2 := cell_later hq p2; replace p3 := cell_later hq p3; replace p4 := cell_later hq p4; replace p5 := cell_later hq p5)
    | (go_at_call 19; refine (HQ.out _).mono ?_; rintro e w2 ⟨rfl, hq⟩; replace hB := below_step hB hq; replace p0 := cell_later hq p0; replace p1 := cell_later hq p1; replace p2 := cell_later hq p2; replace p3 := cell_later hq p3; replace p4 := cell_later hq p4; replace p5 := cell_later hq p5)
    | (go_at_call_of 26 (Value.int IntKind.i64 PX); refine (HF.out _ _).mono ?_; rintro e w3 ⟨rfl, hq⟩; replace hB := below_step hB hq; replace p0 := cell_later hq p0; replace p1 := cell_later hq p1; replace p2 := cell_later hq p2; replace p3 := cell_later hq p3; replace p4 := cell_later hq p4; replace p5 := cell_later hq p5)
    | (go_at_call_of 26 (Value.int IntKind.i64 PY); refine (HF.out _ _).mono ?_; rintro e w4 ⟨rfl, hq⟩; replace hB := below_step hB hq; replace p0 := cell_later hq p0; replace p1 := cell_later hq p1; replace p2 := cell_later hq p2; replace p3 := cell_later hq p3; replace p4 := cell_later hq p4; replace p5 := cell_later hq p5))
  go_ret
  exact ⟨rfl, hB⟩
set_option maxHeartbeats 2000000 in
theorem badO (F : Nat) (AW AH PX PY RN RD LO HI INK : Int) (A : Option Addr) (n cap : Nat) (w : World) (h0 : farB PX = false) (h1 : farB PY = false) (h2 : ¬ LO < 0) (h3 : ¬ 255 < HI) (h : HI ≤ LO)
    (HR : Hid (∀ w', Below w.heap.size w w' → Calls Try.prog 18 #[.agg #[.int .i64 AW, .int .i64 AH, .slice A n cap]] w' (Ret (.bool true) w'))) (HQ : Hid (∀ w', Calls Try.prog 19 #[.agg #[.int .i64 RN, .int .i64 RD]] w' (Ret (.bool true) w'))) (HF : Hid (∀ z w', Calls Try.prog 26 #[.int .i64 z] w' (Ret (.bool (farB z)) w'))) :
    Calls Try.prog 15 #[.pointer (some ⟨F, 0, none⟩), .agg #[.int .i64 AW, .int .i64 AH, .slice A n cap], .agg #[.int .i64 PX, .int .i64 PY, .int .i64 RN, .int .i64 RD, .int .i64 LO, .int .i64 HI, .int .u8 INK]] w (Ret (.int .i64 4) w) := by
  have t1 : decide (LO < 0) = false := decide_eq_false h2
  have t2 : decide (255 < HI) = false := decide_eq_false h3
  have t3 : decide (HI ≤ LO) = true := decide_eq_true h
  go_enter Try.func15, Try.ntmps15
  go_upto_region 2 with fail
  have p0 : ((w.alloc (.cells #[.int .i64 AW, .int .i64 AH, .slice A n cap] 30)).alloc (.cells #[.int .i64 PX, .int .i64 PY, .int .i64 RN, .int .i64 RD, .int .i64 LO, .int .i64 HI, .int .u8 INK] 39)).cell? ⟨w.heap.size + 1, 0, none⟩ = some (.int .i64 PX) := by go_simp
  have p1 : ((w.alloc (.cells #[.int .i64 AW, .int .i64 AH, .slice A n cap] 30)).alloc (.cells #[.int .i64 PX, .int .i64 PY, .int .i64 RN, .int .i64 RD, .int .i64 LO, .int .i64 HI, .int .u8 INK] 39)).cell? ⟨w.heap.size + 1, 1, none⟩ = some (.int .i64 PY) := by go_simp
  have p2 : ((w.alloc (.cells #[.int .i64 AW, .int .i64 AH, .slice A n cap] 30)).alloc (.cells #[.int .i64 PX, .int .i64 PY, .int .i64 RN, .int .i64 RD, .int .i64 LO, .int .i64 HI, .int .u8 INK] 39)).cell? ⟨w.heap.size + 1, 2, none⟩ = some (.int .i64 RN) := by go_simp
  have p3 : ((w.alloc (.cells #[.int .i64 AW, .int .i64 AH, .slice A n cap] 30)).alloc (.cells #[.int .i64 PX, .int .i64 PY, .int .i64 RN, .int .i64 RD, .int .i64 LO, .int .i64 HI, .int .u8 INK] 39)).cell? ⟨w.heap.size + 1, 3, none⟩ = some (.int .i64 RD) := by go_simp
  have p4 : ((w.alloc (.cells #[.int .i64 AW, .int .i64 AH, .slice A n cap] 30)).alloc (.cells #[.int .i64 PX, .int .i64 PY, .int .i64 RN, .int .i64 RD, .int .i64 LO, .int .i64 HI, .int .u8 INK] 39)).cell? ⟨w.heap.size + 1, 4, none⟩ = some (.int .i64 LO) := by go_simp
  have p5 : ((w.alloc (.cells #[.int .i64 AW, .int .i64 AH, .slice A n cap] 30)).alloc (.cells #[.int .i64 PX, .int .i64 PY, .int .i64 RN, .int .i64 RD, .int .i64 LO, .int .i64 HI, .int .u8 INK] 39)).cell? ⟨w.heap.size + 1, 5, none⟩ = some (.int .i64 HI) := by go_simp
  have a0 : ((w.alloc (.cells #[.int .i64 AW, .int .i64 AH, .slice A n cap] 30)).alloc (.cells #[.int .i64 PX, .int .i64 PY, .int .i64 RN, .int .i64 RD, .int .i64 LO, .int .i64 HI, .int .u8 INK] 39)).cell? ⟨w.heap.size, 0, none⟩ = some (.int .i64 AW) := by go_simp
  have a1 : ((w.alloc (.cells #[.int .i64 AW, .int .i64 AH, .slice A n cap] 30)).alloc (.cells #[.int .i64 PX, .int .i64 PY, .int .i64 RN, .int .i64 RD, .int .i64 LO, .int .i64 HI, .int .u8 INK] 39)).cell? ⟨w.heap.size, 1, none⟩ = some (.int .i64 AH) := by go_simp
  have a2 : ((w.alloc (.cells #[.int .i64 AW, .int .i64 AH, .slice A n cap] 30)).alloc (.cells #[.int .i64 PX, .int .i64 PY, .int .i64 RN, .int .i64 RD, .int .i64 LO, .int .i64 HI, .int .u8 INK] 39)).cell? ⟨w.heap.size, 2, none⟩ = some (.slice A n cap) := by go_simp
  have hB : Below w.heap.size w ((w.alloc (.cells #[.int .i64 AW, .int .i64 AH, .slice A n cap] 30)).alloc (.cells #[.int .i64 PX, .int .i64 PY, .int .i64 RN, .int .i64 RD, .int .i64 LO, .int .i64 HI, .int .u8 INK] 39)) := below_alloc (below_alloc (Below.refl _ _) _) _
  generalize ((w.alloc (.cells #[.int .i64 AW, .int .i64 AH, .slice A n cap] 30)).alloc (.cells #[.int .i64 PX, .int .i64 PY, .int .i64 RN, .int .i64 RD, .int .i64 LO, .int .i64 HI, .int .u8 INK] 39)) = wb at *
  go_wp2_with (first
    | (go_at_call 18; refine (HR.out _ hB).mono ?_; rintro e w1 ⟨rfl, hq⟩; replace hB := below_step hB hq; replace p0 := cell_later hq p0; replace p1 := cell_later hq p1; replace p2 := cell_later hq p2; replace p3 := cell_later hq p3; replace p4 := cell_later hq p4; replace p5 := cell_later hq p5)
    | (go_at_call 19; refine (HQ.out _).mono ?_; rintro e w2 ⟨rfl, hq⟩; replace hB := below_step hB hq; replace p0 := cell_later hq p0; replace p1 := cell_later hq p1; replace p2 := cell_later hq p2; replace p3 := cell_later hq p3; replace p4 := cell_later hq p4; replace p5 := cell_later hq p5)
    | (go_at_call_of 26 (Value.int IntKind.i64 PX); refine (HF.out _ _).mono ?_; rintro e w3 ⟨rfl, hq⟩; replace hB := below_step hB hq; replace p0 := cell_later hq p0; replace p1 := cell_later hq p1; replace p2 := cell_later hq p2; replace p3 := cell_later hq p3; replace p4 := cell_later hq p4; replace p5 := cell_later hq p5)
    | (go_at_call_of 26 (Value.int IntKind.i64 PY); refine (HF.out _ _).mono ?_; rintro e w4 ⟨rfl, hq⟩; replace hB := below_step hB hq; replace p0 := cell_later hq p0; replace p1 := cell_later hq p1; replace p2 := cell_later hq p2; replace p3 := cell_later hq p3; replace p4 := cell_later hq p4; replace p5 := cell_later hq p5))
  go_ret
  exact ⟨rfl, hB⟩
end Go.Proofs.Ytfbnaicnmkkohaa.Bads
