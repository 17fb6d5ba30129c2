/- Where all of a field covers its pixels are of the ink, all others of the tone; away from a field pixels stay; ink of a tone changes none of that tone. Conditions: as each states. -/
import Derived.Test.YtfbnaicnmkkohaaDrawn
namespace Go.Proofs.Ytfbnaicnmkkohaa.FullLaw
open Go Go.RowKit Go.Proofs.YtfbnaicnmkkohaaW.PrintWords Go.Proofs.YtfbnaicnmkkohaaW.PrintLast Go.Proofs.YtfbnaicnmkkohaaW.PrintMore Go.Proofs.Ytfbnaicnmkkohaa.Core Go.Proofs.Ytfbnaicnmkkohaa.Glue Go.Proofs.Ytfbnaicnmkkohaa.Draw
set_option linter.unusedVariables false
/-- a byte with its highest bit set -/
def hb (z : Int) : Int := Go.bits .or .u8 z 128
theorem hb_nat : ∀ n : Nat, n < 256 → 128 ≤ hb n ∧ hb n ≤ 255 := by decide +kernel
theorem hb_bd {z : Int} (h1 : 0 ≤ z) (h2 : z ≤ 255) : 128 ≤ hb z ∧ hb z ≤ 255 := by
  obtain ⟨n, rfl⟩ : ∃ n : Nat, z = n := ⟨z.toNat, by omega⟩
  exact hb_nat n (by omega)
theorem tex_ge {W H : Int} {l : List Int} {m : Int} (hl : ∀ x ∈ l, m ≤ x ∧ x ≤ 255) (hW : 1 ≤ W) (hH : 1 ≤ H) (hlen : (l.length : Int) = W * H) (i k : Int) : m ≤ tex W H l i k ∧ tex W H l i k ≤ 255 := by
  have h1 := clamp_bd (i := i) hW
  have h2 := clamp_bd (i := k) hH
  have h3 : 0 ≤ mx 0 (mn (H - 1) k) * W := Int.mul_nonneg h2.1 (by omega)
  have h4 : mx 0 (mn (H - 1) k) * W ≤ (H - 1) * W := Int.mul_le_mul_of_nonneg_right h2.2 (by omega)
  have h5 : (H - 1) * W = W * H - W := by rw [Int.sub_mul, Int.mul_comm H W]; omega
  unfold tex rd
  have hj : (mx 0 (mn (H - 1) k) * W + mx 0 (mn (W - 1) i)).toNat < l.length := by omega
  rw [List.getD_eq_getElem?_getD, List.getElem?_eq_getElem hj]
  exact hl _ (List.getElem_mem hj)
theorem cov_full {W H : Int} {l : List Int} {u v den HI LO : Int} (hl : ∀ x ∈ l, 128 ≤ x ∧ x ≤ 255) (hW : 1 ≤ W) (hH : 1 ≤ H) (hlen : (l.length : Int) = W * H) (hden : 1 ≤ den) (hHI : HI ≤ 128) :
    cov (frac W H l u v den).1 (frac W H l u v den).2 LO HI = 255 := by
  have hv := val_bd (W := W) (H := H) (l := l) (x := u) (y := v) (d := den) (m := 128) (M := 255) hden (fun i k => tex_ge hl hW hH hlen i k)
  have d0 : 0 < 2 * den * (2 * den) := Int.mul_pos (by omega) (by omega)
  unfold frac
  generalize val W H l u v den = n at *
  generalize 2 * den * (2 * den) = D at *
  obtain ⟨p1, p2, p3, p4, p5, p6, p7⟩ := of_parts (n := n) (d := D) (by omega) (by omega)
  generalize ((Int.gcd n D : Nat) : Int) = g at *
  generalize n / g = a at *
  generalize D / g = b at *
  unfold cov
  dsimp only
  rw [if_pos]
  have e1 : g * (128 * b) ≤ g * a := by rw [p2, ← Int.mul_assoc, Int.mul_comm g 128, Int.mul_assoc, p3]; exact hv.1
  have e2 : 128 * b ≤ a := Int.le_of_mul_le_mul_left e1 (by omega)
  have e3 : HI * b ≤ 128 * b := Int.mul_le_mul_of_nonneg_right hHI (by omega)
  omega
theorem col_full {W H : Int} {l : List Int} {u v den LO HI INK old : Int} (hl : ∀ x ∈ l, 128 ≤ x ∧ x ≤ 255) (hW : 1 ≤ W) (hH : 1 ≤ H) (hlen : (l.length : Int) = W * H) (hden : 1 ≤ den) (hHI : HI ≤ 128) :
    col W H l LO HI INK u v den old = if u < 0 ∨ W * den < u ∨ v < 0 ∨ H * den < v then old else INK := by
  unfold col
  rw [cov_full hl hW hH hlen hden hHI, blend_full]
theorem col_out {W H : Int} {l : List Int} {PX PY RN RD LO HI INK old : Int} {x y : Nat} (hRN : 1 ≤ RN) (hRD : 1 ≤ RD)
    (h : (x : Int) - PX < -1 ∨ (y : Int) - PY < -1 ∨ W * RN < ((x : Int) - PX) * RD ∨ H * RN < ((y : Int) - PY) * RD) :
    col W H l LO HI INK (uu PX RD x) (uu PY RD y) (2 * RN) old = old := by
  unfold col
  refine if_pos ?_
  unfold uu
  generalize (x : Int) - PX = a at *
  generalize (y : Int) - PY = b at *
  have neg : ∀ c : Int, c < -1 → (2 * c + 1) * RD < 0 := fun c hc => Int.mul_neg_of_neg_of_pos (by omega) (by omega)
  have big : ∀ c V : Int, V * RN < c * RD → V * (2 * RN) < (2 * c + 1) * RD := fun c V hc => by
    have e1 : (2 * c + 1) * RD = 2 * (c * RD) + RD := by rw [Int.add_mul, Int.mul_assoc, Int.one_mul]
    have e2 : V * (2 * RN) = 2 * (V * RN) := by rw [← Int.mul_assoc, Int.mul_comm V 2, Int.mul_assoc]
    omega
  rcases h with h | h | h | h
  · exact .inl (neg _ h)
  · exact .inr (.inr (.inl (neg _ h)))
  · exact .inr (.inl (big _ _ h))
  · exact .inr (.inr (.inr (big _ _ h)))
theorem col_self {W H : Int} {l : List Int} {u v den LO HI old : Int} : col W H l LO HI old u v den old = old := by
  unfold col
  rw [blend_self]
  split <;> rfl
end Go.Proofs.Ytfbnaicnmkkohaa.FullLaw
