/- What FrameWrong's own test of a field and a pen answers. Conditions: as each states. -/
import Derived.Test.YtfbnaicnmkkohaaParts
namespace Go.Proofs.Ytfbnaicnmkkohaa.May
open Go Go.RowKit Go.Lib Go.Proofs.YtfbnaicnmkkohaaW.PrintWords Go.Proofs.YtfbnaicnmkkohaaW.PrintLast Go.Proofs.YtfbnaicnmkkohaaW.PrintMore Go.Proofs.Ytfbnaicnmkkohaa.Core Go.Proofs.Ytfbnaicnmkkohaa.PFramePlace Go.Proofs.Ytfbnaicnmkkohaa.Repeat Go.Proofs.Ytfbnaicnmkkohaa.Frames Go.Proofs.Ytfbnaicnmkkohaa.Draw Go.Proofs.Ytfbnaicnmkkohaa.Drawn Go.Proofs.Ytfbnaicnmkkohaa.Awake Go.Proofs.Ytfbnaicnmkkohaa.Two Go.Proofs.Ytfbnaicnmkkohaa.Parts
set_option linter.unusedVariables false
set_option linter.unusedSimpArgs false
attribute [local go_sem ↓] Go.wp_at_zero Go.wp_at_succ
attribute [local go_sem] max2_int min2_int
/-- may the pen be -/
def penOk (PX PY RN RD LO HI : Int) : Bool := decide (0 < mn RN RD) && decide (mx RN RD < 65) && decide (mx PX PY ≤ 96) && decide (-96 ≤ mn PX PY) && decide (0 ≤ LO) && decide (LO < HI) && decide (HI < 256)
theorem penOk_iff {PX PY RN RD LO HI : Int} : penOk PX PY RN RD LO HI = true ↔ (1 ≤ RN ∧ RN ≤ 64 ∧ 1 ≤ RD ∧ RD ≤ 64) ∧ (-96 ≤ PX ∧ PX ≤ 96) ∧ (-96 ≤ PY ∧ PY ≤ 96) ∧ 0 ≤ LO ∧ HI ≤ 255 ∧ LO < HI := by
  unfold penOk mn mx
  simp only [Bool.and_eq_true, decide_eq_true_eq]
  constructor
  · rintro ⟨⟨⟨⟨⟨⟨h1, h2⟩, h3⟩, h4⟩, h5⟩, h6⟩, h7⟩
    split at h1 <;> split at h2 <;> split at h3 <;> split at h4 <;> omega
  · rintro ⟨⟨a1, a2, a3, a4⟩, ⟨a5, a6⟩, ⟨a7, a8⟩, a9, a10, a11⟩
    refine ⟨⟨⟨⟨⟨⟨?_, ?_⟩, ?_⟩, ?_⟩, ?_⟩, ?_⟩, ?_⟩
    all_goals (first | omega | (split <;> omega))
set_option maxRecDepth 100000 in
set_option maxHeartbeats 8000000 in
theorem may (AW AH PX PY RN RD LO HI INK X1 X2 X3 X4 : Int) (A : Option Addr) (n cap : Nat) (r c2 c3 c4 c5 c6 c7 c8 m : Bool) (w : World)
    (hx1 : (if RD < RN then RD else RN) = X1) (hx2 : (if RN < RD then RD else RN) = X2) (hx3 : (if PX < PY then PY else PX) = X3) (hx4 : (if PY < PX then PY else PX) = X4)
    (h2 : decide (0 < X1) = c2) (h3 : decide (X2 < 65) = c3) (h4 : decide (X3 ≤ 96) = c4) (h5 : decide (-96 ≤ X4) = c5) (h6 : decide (0 ≤ LO) = c6) (h7 : decide (LO < HI) = c7) (h8 : decide (HI < 256) = c8)
    (hM : (r && c2 && c3 && c4 && c5 && c6 && c7 && c8) = m)
    (HR : Hid (∀ w', Below w.heap.size w w' → Calls Try.prog 18 #[.agg #[.int .i64 AW, .int .i64 AH, .slice A n cap]] w' (Ret (.bool r) w'))) :
    Calls Try.prog 17 #[.agg #[.int .i64 AW, .int .i64 AH, .slice A n cap], .agg #[.int .i64 PX, .int .i64 PY, .int .i64 RN, .int .i64 RD, .int .i64 LO, .int .i64 HI, .int .u8 INK]] w (Ret (.bool m) w) := by
  go_enter Try.func17, Try.ntmps17
  go_upto_region 2 with fail
  have k0 : (((w.alloc (.cells #[.int .i64 AW, .int .i64 AH, .slice A n cap] 30)).alloc (.cells #[.int .i64 PX, .int .i64 PY, .int .i64 RN, .int .i64 RD, .int .i64 LO, .int .i64 HI, .int .u8 INK] 39)).alloc (.cells #[.int .i64 RN, .int .i64 RD] 37)).cell? ⟨w.heap.size + 1, 0, none⟩ = some (.int .i64 PX) := by go_simp
  have k1 : (((w.alloc (.cells #[.int .i64 AW, .int .i64 AH, .slice A n cap] 30)).alloc (.cells #[.int .i64 PX, .int .i64 PY, .int .i64 RN, .int .i64 RD, .int .i64 LO, .int .i64 HI, .int .u8 INK] 39)).alloc (.cells #[.int .i64 RN, .int .i64 RD] 37)).cell? ⟨w.heap.size + 1, 1, none⟩ = some (.int .i64 PY) := by go_simp
  have k2 : (((w.alloc (.cells #[.int .i64 AW, .int .i64 AH, .slice A n cap] 30)).alloc (.cells #[.int .i64 PX, .int .i64 PY, .int .i64 RN, .int .i64 RD, .int .i64 LO, .int .i64 HI, .int .u8 INK] 39)).alloc (.cells #[.int .i64 RN, .int .i64 RD] 37)).cell? ⟨w.heap.size + 1, 2, none⟩ = some (.int .i64 RN) := by go_simp
  have k3 : (((w.alloc (.cells #[.int .i64 AW, .int .i64 AH, .slice A n cap] 30)).alloc (.cells #[.int .i64 PX, .int .i64 PY, .int .i64 RN, .int .i64 RD, .int .i64 LO, .int .i64 HI, .int .u8 INK] 39)).alloc (.cells #[.int .i64 RN, .int .i64 RD] 37)).cell? ⟨w.heap.size + 1, 3, none⟩ = some (.int .i64 RD) := by go_simp
  have k4 : (((w.alloc (.cells #[.int .i64 AW, .int .i64 AH, .slice A n cap] 30)).alloc (.cells #[.int .i64 PX, .int .i64 PY, .int .i64 RN, .int .i64 RD, .int .i64 LO, .int .i64 HI, .int .u8 INK] 39)).alloc (.cells #[.int .i64 RN, .int .i64 RD] 37)).cell? ⟨w.heap.size + 1, 4, none⟩ = some (.int .i64 LO) := by go_simp
  have k5 : (((w.alloc (.cells #[.int .i64 AW, .int .i64 AH, .slice A n cap] 30)).alloc (.cells #[.int .i64 PX, .int .i64 PY, .int .i64 RN, .int .i64 RD, .int .i64 LO, .int .i64 HI, .int .u8 INK] 39)).alloc (.cells #[.int .i64 RN, .int .i64 RD] 37)).cell? ⟨w.heap.size + 1, 5, none⟩ = some (.int .i64 HI) := by go_simp
  have r0 : (((w.alloc (.cells #[.int .i64 AW, .int .i64 AH, .slice A n cap] 30)).alloc (.cells #[.int .i64 PX, .int .i64 PY, .int .i64 RN, .int .i64 RD, .int .i64 LO, .int .i64 HI, .int .u8 INK] 39)).alloc (.cells #[.int .i64 RN, .int .i64 RD] 37)).cell? ⟨w.heap.size + 1 + 1, 0, none⟩ = some (.int .i64 RN) := by go_simp
  have r1 : (((w.alloc (.cells #[.int .i64 AW, .int .i64 AH, .slice A n cap] 30)).alloc (.cells #[.int .i64 PX, .int .i64 PY, .int .i64 RN, .int .i64 RD, .int .i64 LO, .int .i64 HI, .int .u8 INK] 39)).alloc (.cells #[.int .i64 RN, .int .i64 RD] 37)).cell? ⟨w.heap.size + 1 + 1, 1, none⟩ = some (.int .i64 RD) := by go_simp
  have a0 : (((w.alloc (.cells #[.int .i64 AW, .int .i64 AH, .slice A n cap] 30)).alloc (.cells #[.int .i64 PX, .int .i64 PY, .int .i64 RN, .int .i64 RD, .int .i64 LO, .int .i64 HI, .int .u8 INK] 39)).alloc (.cells #[.int .i64 RN, .int .i64 RD] 37)).cell? ⟨w.heap.size, 0, none⟩ = some (.int .i64 AW) := by go_simp
  have a1 : (((w.alloc (.cells #[.int .i64 AW, .int .i64 AH, .slice A n cap] 30)).alloc (.cells #[.int .i64 PX, .int .i64 PY, .int .i64 RN, .int .i64 RD, .int .i64 LO, .int .i64 HI, .int .u8 INK] 39)).alloc (.cells #[.int .i64 RN, .int .i64 RD] 37)).cell? ⟨w.heap.size, 1, none⟩ = some (.int .i64 AH) := by go_simp
  have a2 : (((w.alloc (.cells #[.int .i64 AW, .int .i64 AH, .slice A n cap] 30)).alloc (.cells #[.int .i64 PX, .int .i64 PY, .int .i64 RN, .int .i64 RD, .int .i64 LO, .int .i64 HI, .int .u8 INK] 39)).alloc (.cells #[.int .i64 RN, .int .i64 RD] 37)).cell? ⟨w.heap.size, 2, none⟩ = some (.slice A n cap) := by go_simp
  have hB : Below w.heap.size w (((w.alloc (.cells #[.int .i64 AW, .int .i64 AH, .slice A n cap] 30)).alloc (.cells #[.int .i64 PX, .int .i64 PY, .int .i64 RN, .int .i64 RD, .int .i64 LO, .int .i64 HI, .int .u8 INK] 39)).alloc (.cells #[.int .i64 RN, .int .i64 RD] 37)) := below_alloc (below_alloc (below_alloc (Below.refl _ _) _) _) _
  generalize (((w.alloc (.cells #[.int .i64 AW, .int .i64 AH, .slice A n cap] 30)).alloc (.cells #[.int .i64 PX, .int .i64 PY, .int .i64 RN, .int .i64 RD, .int .i64 LO, .int .i64 HI, .int .u8 INK] 39)).alloc (.cells #[.int .i64 RN, .int .i64 RD] 37)) = wb at *
  cases r
  · obtain rfl : m = false := by rw [← hM]; rfl
    go_wp2_with (go_at_call 18; refine (HR.out _ hB).mono ?_; rintro e w1 ⟨rfl, hw1⟩; have q0 := cell_later hw1 k0; have q1 := cell_later hw1 k1; have q2 := cell_later hw1 k2; have q3 := cell_later hw1 k3; have q4 := cell_later hw1 k4; have q5 := cell_later hw1 k5; have d0 := cell_later hw1 r0; have d1 := cell_later hw1 r1)
    go_ret
    exact ⟨rfl, below_step hB hw1⟩
  · skip
    cases c2
    · obtain rfl : m = false := by rw [← hM]; rfl
      go_wp2_with (go_at_call 18; refine (HR.out _ hB).mono ?_; rintro e w1 ⟨rfl, hw1⟩; have q0 := cell_later hw1 k0; have q1 := cell_later hw1 k1; have q2 := cell_later hw1 k2; have q3 := cell_later hw1 k3; have q4 := cell_later hw1 k4; have q5 := cell_later hw1 k5; have d0 := cell_later hw1 r0; have d1 := cell_later hw1 r1)
      go_ret
      exact ⟨rfl, below_step hB hw1⟩
    · skip
      cases c3
      · obtain rfl : m = false := by rw [← hM]; rfl
        go_wp2_with (go_at_call 18; refine (HR.out _ hB).mono ?_; rintro e w1 ⟨rfl, hw1⟩; have q0 := cell_later hw1 k0; have q1 := cell_later hw1 k1; have q2 := cell_later hw1 k2; have q3 := cell_later hw1 k3; have q4 := cell_later hw1 k4; have q5 := cell_later hw1 k5; have d0 := cell_later hw1 r0; have d1 := cell_later hw1 r1)
        go_ret
        exact ⟨rfl, below_step hB hw1⟩
      · skip
        cases c4
        · obtain rfl : m = false := by rw [← hM]; rfl
          go_wp2_with (go_at_call 18; refine (HR.out _ hB).mono ?_; rintro e w1 ⟨rfl, hw1⟩; have q0 := cell_later hw1 k0; have q1 := cell_later hw1 k1; have q2 := cell_later hw1 k2; have q3 := cell_later hw1 k3; have q4 := cell_later hw1 k4; have q5 := cell_later hw1 k5; have d0 := cell_later hw1 r0; have d1 := cell_later hw1 r1)
          go_ret
          exact ⟨rfl, below_step hB hw1⟩
        · skip
          cases c5
          · obtain rfl : m = false := by rw [← hM]; rfl
            go_wp2_with (go_at_call 18; refine (HR.out _ hB).mono ?_; rintro e w1 ⟨rfl, hw1⟩; have q0 := cell_later hw1 k0; have q1 := cell_later hw1 k1; have q2 := cell_later hw1 k2; have q3 := cell_later hw1 k3; have q4 := cell_later hw1 k4; have q5 := cell_later hw1 k5; have d0 := cell_later hw1 r0; have d1 := cell_later hw1 r1)
            go_ret
            exact ⟨rfl, below_step hB hw1⟩
          · skip
            cases c6
            · obtain rfl : m = false := by rw [← hM]; rfl
              go_wp2_with (go_at_call 18; refine (HR.out _ hB).mono ?_; rintro e w1 ⟨rfl, hw1⟩; have q0 := cell_later hw1 k0; have q1 := cell_later hw1 k1; have q2 := cell_later hw1 k2; have q3 := cell_later hw1 k3; have q4 := cell_later hw1 k4; have q5 := cell_later hw1 k5; have d0 := cell_later hw1 r0; have d1 := cell_later hw1 r1)
              go_ret
              exact ⟨rfl, below_step hB hw1⟩
            · skip
              cases c7
              · obtain rfl : m = false := by rw [← hM]; rfl
                go_wp2_with (go_at_call 18; refine (HR.out _ hB).mono ?_; rintro e w1 ⟨rfl, hw1⟩; have q0 := cell_later hw1 k0; have q1 := cell_later hw1 k1; have q2 := cell_later hw1 k2; have q3 := cell_later hw1 k3; have q4 := cell_later hw1 k4; have q5 := cell_later hw1 k5; have d0 := cell_later hw1 r0; have d1 := cell_later hw1 r1)
                go_ret
                exact ⟨rfl, below_step hB hw1⟩
              · skip
                cases c8
                · obtain rfl : m = false := by rw [← hM]; rfl
                  go_wp2_with (go_at_call 18; refine (HR.out _ hB).mono ?_; rintro e w1 ⟨rfl, hw1⟩; have q0 := cell_later hw1 k0; have q1 := cell_later hw1 k1; have q2 := cell_later hw1 k2; have q3 := cell_later hw1 k3; have q4 := cell_later hw1 k4; have q5 := cell_later hw1 k5; have d0 := cell_later hw1 r0; have d1 := cell_later hw1 r1)
                  go_ret
                  exact ⟨rfl, below_step hB hw1⟩
                · skip
                  obtain rfl : m = true := by rw [← hM]; rfl
                  go_wp2_with (go_at_call 18; refine (HR.out _ hB).mono ?_; rintro e w1 ⟨rfl, hw1⟩; have q0 := cell_later hw1 k0; have q1 := cell_later hw1 k1; have q2 := cell_later hw1 k2; have q3 := cell_later hw1 k3; have q4 := cell_later hw1 k4; have q5 := cell_later hw1 k5; have d0 := cell_later hw1 r0; have d1 := cell_later hw1 r1)
                  go_ret
                  exact ⟨rfl, below_step hB hw1⟩

end Go.Proofs.Ytfbnaicnmkkohaa.May
