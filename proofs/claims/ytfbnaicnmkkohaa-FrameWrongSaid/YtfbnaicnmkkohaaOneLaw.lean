/- In the middle of a texel is what it holds. Conditions: the texel is in the field. -/
import Derived.Test.YtfbnaicnmkkohaaDraw
namespace Go.Proofs.Ytfbnaicnmkkohaa.OneLaw
open Go Go.RowKit Go.Proofs.YtfbnaicnmkkohaaW.PrintWords Go.Proofs.YtfbnaicnmkkohaaW.PrintLast Go.Proofs.YtfbnaicnmkkohaaW.PrintMore Go.Proofs.Ytfbnaicnmkkohaa.Core Go.Proofs.Ytfbnaicnmkkohaa.Glue Go.Proofs.Ytfbnaicnmkkohaa.Draw
set_option linter.unusedVariables false
theorem uu_one (x : Nat) : uu 0 1 x = 2 * (x : Int) + 1 := by unfold uu; omega
theorem bi_one (x : Int) : bi (2 * x + 1) 2 = x := by unfold bi; omega
theorem bu_one (x : Int) : bu (2 * x + 1) 2 = 0 := by unfold bu; omega
theorem val_one (W H : Int) (l : List Int) (x y : Int) : val W H l (2 * x + 1) (2 * y + 1) 2 = tex W H l x y * 16 := by
  unfold val
  rw [bi_one, bi_one, bu_one, bu_one]; omega
theorem frac_one {W H : Int} {l : List Int} {x y : Int} (hl : ∀ z ∈ l, 0 ≤ z ∧ z ≤ 255) : frac W H l (2 * x + 1) (2 * y + 1) 2 = (tex W H l x y, 1) := by
  unfold frac
  rw [val_one]
  have ht := tex_bd (W := W) (H := H) hl x y
  generalize tex W H l x y = t at *
  have e : Int.gcd (t * 16) (2 * 2 * (2 * 2)) = 16 := by
    rw [show (2 * 2 * (2 * 2) : Int) = 1 * 16 by omega, Int.gcd_mul_right]; simp
  rw [e]
  congr 1 <;> omega
/-- at a ratio of one each pixel has its own texel -/
theorem col_one {W H : Nat} {l : List Int} {LO HI INK old : Int} {x y : Nat} (hx : x < W) (hy : y < H) (hl : ∀ z ∈ l, 0 ≤ z ∧ z ≤ 255) :
    col W H l LO HI INK (uu 0 1 x) (uu 0 1 y) 2 old = blend old INK (cov (l.getD (y * W + x) 0) 1 LO HI) := by
  unfold col
  rw [uu_one, uu_one, if_neg (by omega), frac_one hl]
  have e : tex W H l x y = l.getD (y * W + x) 0 := by
    unfold tex
    rw [mn_of_ge (show (y : Int) ≤ (H : Int) - 1 by omega), mn_of_ge (show (x : Int) ≤ (W : Int) - 1 by omega), mx_of_le (by omega), mx_of_le (by omega)]
    unfold rd
    congr 1
  rw [e]
end Go.Proofs.Ytfbnaicnmkkohaa.OneLaw
