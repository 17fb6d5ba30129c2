/- What (punchcutlaw19.Tip).Pen answers: a right pen. Conditions: the tip's parts are bytes. -/
import Derived.Test.YtfbnaicnmkkohaaDraw
namespace Go.Proofs.Ytfbnaicnmkkohaa.Pen
open Go Go.RowKit Go.Lib Go.Proofs.YtfbnaicnmkkohaaW.PrintWords Go.Proofs.YtfbnaicnmkkohaaW.PrintLast Go.Proofs.YtfbnaicnmkkohaaW.PrintMore Go.Proofs.Ytfbnaicnmkkohaa.Core Go.Proofs.Ytfbnaicnmkkohaa.PFramePlace
set_option linter.unusedVariables false
theorem pen_f {t0 t1 t2 t3 t4 t5 t6 : Int} (h0 : 0 ≤ t0) (k0 : t0 ≤ 255) (h1 : 0 ≤ t1) (k1 : t1 ≤ 255) (h2 : 0 ≤ t2) (k2 : t2 ≤ 255) (h3 : 0 ≤ t3) (k3 : t3 ≤ 255) (h4 : 0 ≤ t4) (k4 : t4 ≤ 255) (h5 : 0 ≤ t5) (k5 : t5 ≤ 255) :
    ∃ LO HI, punchcutlaw19_Tip_Pen.f t0 t1 t2 t3 t4 t5 t6 = some (t0 % 40 - 12, t1 % 40 - 12, 1 + t2 % 64, 1 + t3 % 64, LO, HI, t6) ∧ 0 ≤ LO ∧ LO < HI ∧ HI ≤ 255 := by
  have m1 : 0 ≤ mn t4 t5 ∧ mn t4 t5 ≤ mx t4 t5 ∧ mx t4 t5 ≤ 255 := by unfold mn mx; split <;> split <;> omega
  unfold punchcutlaw19_Tip_Pen.f
  rw [Int.tmod_eq_emod_of_nonneg h0, Int.tmod_eq_emod_of_nonneg h1, Int.tmod_eq_emod_of_nonneg h2, Int.tmod_eq_emod_of_nonneg h3,
    w64 (n := t0 % 40) (by omega) (by omega), w64 (n := t1 % 40) (by omega) (by omega), w64 (n := t2 % 64) (by omega) (by omega), w64 (n := t3 % 64) (by omega) (by omega),
    w64 (n := t0 % 40 - 12) (by omega) (by omega), w64 (n := t1 % 40 - 12) (by omega) (by omega), w64 (n := 1 + t2 % 64) (by omega) (by omega), w64 (n := 1 + t3 % 64) (by omega) (by omega),
    w64 (n := mn t4 t5) (by omega) (by omega), w64 (n := mx t4 t5) (by omega) (by omega)]
  generalize mn t4 t5 = a at *
  generalize mx t4 t5 = b at *
  by_cases c : a = b
  · rw [if_pos c]; exact ⟨_, _, rfl, by omega, by omega, by omega⟩
  · rw [if_neg c]; exact ⟨_, _, rfl, by omega, by omega, by omega⟩
end Go.Proofs.Ytfbnaicnmkkohaa.Pen
