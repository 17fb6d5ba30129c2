/- A square root is the greatest number whose square is not above; for every two numbers. -/
import Derived.Test.YtccpcojknfnhpaaPRootSqrtx4
import Derived.Test.YtccpcojknfnhpaaCore
import Derived.OpenShut
namespace Go.Proofs.Ytccpcojknfnhpaa.Pure
open Go Go.RowKit Go.Proofs.Ytccpcojknfnhpaa.PRootSqrt Go.Proofs.YtccpcojknfnhpaaW.PrintWords Go.Proofs.YtccpcojknfnhpaaW.PrintLast Go.Proofs.YtccpcojknfnhpaaW.PrintMore Go.Proofs.Ytccpcojknfnhpaa.Core

namespace RootSqrt
theorem awake_f {k : Nat} (hk : 200 ≤ k) : punchcutlaw02_awake.f k = some true := at_rounds (fun k => punchcutlaw02_awake.mono k) hk (by decide +kernel)
theorem sqrt_loop (n : Int) (hn : 0 < n) (d : Nat) : ∀ (k : Nat) (lo hi : Int), (hi - lo).toNat = d → 2 * d + 2 ≤ k → 0 ≤ lo → lo < hi → hi ≤ 3037000500 → lo * lo ≤ n → n < hi * hi →
    ∃ r, root_Sqrt.l0 k n lo hi = some r ∧ 0 ≤ r ∧ r ≤ 3037000499 ∧ r * r ≤ n ∧ n < (r + 1) * (r + 1) := by
  induction d using Nat.strongRecOn with
  | _ d ih =>
    intro k lo hi hd hk h0 hlt hhi h1 h2
    obtain ⟨k, rfl⟩ : ∃ m, k = m + 2 := ⟨k - 2, by omega⟩
    simp only [root_Sqrt.l0, root_Sqrt.j1]
    rw [if_pos hn, w64 (n := hi - 1) (by omega) (by omega)]
    by_cases h : lo < hi - 1
    · rw [if_pos (by simpa using h), w64 (n := lo + hi) (by omega) (by omega), Int.tdiv_eq_ediv_of_nonneg (by omega), w64 (n := (lo + hi) / 2) (by omega) (by omega)]
      have m1 : lo < (lo + hi) / 2 := by omega
      have m2 : (lo + hi) / 2 < hi := by omega
      generalize (lo + hi) / 2 = m at *
      have m3 : m * m ≤ 3037000499 * 3037000499 := Int.mul_le_mul (by omega) (by omega) (by omega) (by omega)
      have m4 : 0 ≤ m * m := Int.mul_nonneg (by omega) (by omega)
      rw [w64 (n := m * m) (by omega) (by omega)]
      by_cases c : m * m ≤ n
      · rw [if_pos c]
        exact ih (hi - m).toNat (by omega) k m hi rfl (by omega) (by omega) m2 hhi c h2
      · rw [if_neg c]
        exact ih (m - lo).toNat (by omega) k lo m rfl (by omega) h0 m1 (by omega) h1 (by omega)
    · rw [if_neg (by simpa using h)]
      obtain rfl : hi = lo + 1 := by omega
      exact ⟨lo, rfl, h0, by omega, h1, h2⟩
/-- the square root, rounded down; 0 of one that is less -/
theorem sqrt_f {k : Nat} (hk : 6074001002 ≤ k) {n : Int} (hn2 : n < 9223372036854775808) :
    ∃ r, root_Sqrt.f k n = some r ∧ 0 ≤ r ∧ r ≤ 3037000499 ∧ (n ≤ 0 → r = 0) ∧ (0 ≤ n → r * r ≤ n ∧ n < (r + 1) * (r + 1)) := by
  unfold root_Sqrt.f
  by_cases hn : 0 < n
  · obtain ⟨r, e, h1, h2, h3, h4⟩ := sqrt_loop n hn (3037000500 - 0 : Int).toNat k 0 3037000500 rfl (by omega) (by omega) (by omega) (by omega) (by omega) (by omega)
    exact ⟨r, e, h1, h2, fun h => by omega, fun _ => ⟨h3, h4⟩⟩
  · obtain ⟨k, rfl⟩ : ∃ m, k = m + 2 := ⟨k - 2, by omega⟩
    refine ⟨0, ?_, by omega, by omega, fun _ => rfl, fun h => by omega⟩
    simp only [root_Sqrt.l0, root_Sqrt.j1]
    rw [if_neg hn, if_neg (by simp)]
theorem root_unique {n r s : Int} (hr : 0 ≤ r) (hs : 0 ≤ s) (h1 : r * r ≤ n) (h2 : n < (r + 1) * (r + 1)) (h3 : s * s ≤ n) (h4 : n < (s + 1) * (s + 1)) : r = s := by
  rcases Int.lt_trichotomy r s with h | h | h
  · have := Int.mul_le_mul (show r + 1 ≤ s by omega) (show r + 1 ≤ s by omega) (by omega) (by omega); omega
  · exact h
  · have := Int.mul_le_mul (show s + 1 ≤ r by omega) (show s + 1 ≤ r by omega) (by omega) (by omega); omega
/-- one number of the row -/
theorem one {k : Nat} (hk : 6074001003 ≤ k) (l : List Int) (j : Int) (h0 : 0 ≤ j) (hj : j < (l.length : Int)) (hl : (l.length : Int) ≤ 1000) (h1 : -9223372036854775808 ≤ rd l j) (h2 : rd l j < 9223372036854775808) :
    punchcutlaw02_RootSqrt.l0 k l (l.length : Int) j = punchcutlaw02_RootSqrt.l0 (k - 1) l (l.length : Int) (j + 1) := by
  obtain ⟨k, rfl⟩ : ∃ m, k = m + 1 := ⟨k - 1, by omega⟩
  rw [show k + 1 - 1 = k from rfl]
  conv => lhs; simp only [punchcutlaw02_RootSqrt.l0]
  rw [if_pos hj, if_pos h0, if_pos hj, w64 (n := j + 1) (by omega) (by omega)]
  generalize rd l j = n at *
  obtain ⟨r, e, r1, r2, r3, r4⟩ := sqrt_f (k := k) (by omega) (n := n) h2
  rw [e]
  simp only [Option.bind_some]
  by_cases c : n < 0
  · rw [if_pos c, if_pos (r3 (by omega))]
  · rw [if_neg c, if_neg (by omega), if_neg (by omega)]
    have r5 := r4 (by omega)
    have r6 : r * r ≤ 3037000499 * 3037000499 := Int.mul_le_mul r2 r2 r1 (by omega)
    have r7 : 0 ≤ r * r := Int.mul_nonneg r1 r1
    rw [w64 (n := r * r) (by omega) (by omega), if_neg (by omega)]
    by_cases c2 : r < 3037000499
    · have r8 : (r + 1) * (r + 1) ≤ 3037000499 * 3037000499 := Int.mul_le_mul (by omega) (by omega) (by omega) (by omega)
      have r9 : 0 ≤ (r + 1) * (r + 1) := Int.mul_nonneg (by omega) (by omega)
      rw [if_pos c2, w64 (n := r + 1) (by omega) (by omega), w64 (n := (r + 1) * (r + 1)) (by omega) (by omega), if_neg (by omega)]
    · rw [if_neg c2]
end RootSqrt
open RootSqrt in
theorem RootSqrt : punchcutlaw02_RootSqrt.Pure := by
  intro a b wa wb
  have ha := bounds_i64 wa
  obtain ⟨k, hk⟩ : ∃ k : Nat, 6074001100 ≤ k := ⟨6074001100, Nat.le_refl _⟩
  refine ⟨k, ?_⟩
  unfold punchcutlaw02_RootSqrt.f
  rw [awake_f (by omega)]
  simp only [Option.bind_some, if_true]
  have hw : ∀ x : Int, -9223372036854775808 ≤ wrap64 x ∧ wrap64 x < 9223372036854775808 := fun x => by unfold wrap64; omega
  have h1 := hw (wrap64 b * wrap64 b)
  have h2 := hw (wrap64 (wrap64 b * wrap64 b) - 1)
  have h3 := hw (wrap64 (wrap64 b * wrap64 b) + 1)
  generalize wrap64 (wrap64 (wrap64 b * wrap64 b) - 1) = x2 at *
  generalize wrap64 (wrap64 (wrap64 b * wrap64 b) + 1) = x3 at *
  generalize wrap64 (wrap64 b * wrap64 b) = x1 at *
  rw [one (by omega) [a, x1, x2, x3] 0 (by omega) (by simp) (by simp) (by simpa [rd] using ha.1) (by simp [rd]; omega)]
  rw [one (by omega) [a, x1, x2, x3] (0 + 1) (by omega) (by simp) (by simp) (by simpa [rd] using h1.1) (by simpa [rd] using h1.2)]
  rw [one (by omega) [a, x1, x2, x3] (0 + 1 + 1) (by omega) (by simp) (by simp) (by simpa [rd] using h2.1) (by simpa [rd] using h2.2)]
  rw [one (by omega) [a, x1, x2, x3] (0 + 1 + 1 + 1) (by omega) (by simp) (by simp) (by simpa [rd] using h3.1) (by simpa [rd] using h3.2)]
  obtain ⟨k, rfl⟩ : ∃ m, k = m + 5 := ⟨k - 5, by omega⟩
  rw [show k + 5 - 1 - 1 - 1 - 1 = k + 1 from by omega]
  simp only [punchcutlaw02_RootSqrt.l0]
  rw [if_neg (by simp)]

end Go.Proofs.Ytccpcojknfnhpaa.Pure
