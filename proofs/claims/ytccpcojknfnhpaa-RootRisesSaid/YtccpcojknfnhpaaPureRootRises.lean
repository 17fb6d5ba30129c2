/- Greater numbers have no lesser roots; for every number and every addition. -/
import Derived.Test.YtccpcojknfnhpaaPRootRisesx4
import Derived.Test.YtccpcojknfnhpaaCore
import Derived.OpenShut
namespace Go.Proofs.Ytccpcojknfnhpaa.Pure
open Go Go.RowKit Go.Proofs.Ytccpcojknfnhpaa.PRootRises Go.Proofs.YtccpcojknfnhpaaW.PrintWords Go.Proofs.YtccpcojknfnhpaaW.PrintLast Go.Proofs.YtccpcojknfnhpaaW.PrintMore Go.Proofs.Ytccpcojknfnhpaa.Core

namespace RootRises
theorem awake_f {k : Nat} (hk : 200 ≤ k) : punchcutlaw02_awake.f k = some true := at_rounds (fun k => punchcutlaw02_awake.mono k) hk (by decide +kernel)
theorem sqrt_loop (n : Int) (hn : 0 < n) (d : Nat) : ∀ (k : Nat) (lo hi : Int), (hi - lo).toNat = d → 2 * d + 2 ≤ k → 0 ≤ lo → lo < hi → hi ≤ 3037000500 → lo * lo ≤ n → n < hi * hi →
    ∃ r, root_Sqrt.l0 k n lo hi = some r ∧ 0 ≤ r ∧ r ≤ 3037000499 ∧ r * r ≤ n ∧ n < (r + 1) * (r + 1) := by
  induction d using Nat.strongRecOn with
  | _ d ih =>
    intro k lo hi hd hk h0 hlt hhi h1 h2
    obtain ⟨k, rfl⟩ : ∃ m, k = m + 2 := ⟨k - 2, by omega⟩
    simp only [root_Sqrt.l0, root_Sqrt.j1]
    rw [if_pos hn, w64 (n := hi - 1) (by omega) (by omega)]
    by_cases h : lo < hi - 1
    · rw [if_pos (by simpa using h), w64 (n := lo + hi) (by omega) (by omega), Int.tdiv_eq_ediv_of_nonneg (by omega), w64 (n := (lo + hi) / 2) (by omega) (by omega)]
      have m1 : lo < (lo + hi) / 2 := by omega
      have m2 : (lo + hi) / 2 < hi := by omega
      generalize (lo + hi) / 2 = m at *
      have m3 : m * m ≤ 3037000499 * 3037000499 := Int.mul_le_mul (by omega) (by omega) (by omega) (by omega)
      have m4 : 0 ≤ m * m := Int.mul_nonneg (by omega) (by omega)
      rw [w64 (n := m * m) (by omega) (by omega)]
      by_cases c : m * m ≤ n
      · rw [if_pos c]
        exact ih (hi - m).toNat (by omega) k m hi rfl (by omega) (by omega) m2 hhi c h2
      · rw [if_neg c]
        exact ih (m - lo).toNat (by omega) k lo m rfl (by omega) h0 m1 (by omega) h1 (by omega)
    · rw [if_neg (by simpa using h)]
      obtain rfl : hi = lo + 1 := by omega
      exact ⟨lo, rfl, h0, by omega, h1, h2⟩
/-- the square root, rounded down; 0 of one that is less -/
theorem sqrt_f {k : Nat} (hk : 6074001002 ≤ k) {n : Int} (hn2 : n < 9223372036854775808) :
    ∃ r, root_Sqrt.f k n = some r ∧ 0 ≤ r ∧ r ≤ 3037000499 ∧ (n ≤ 0 → r = 0) ∧ (0 ≤ n → r * r ≤ n ∧ n < (r + 1) * (r + 1)) := by
  unfold root_Sqrt.f
  by_cases hn : 0 < n
  · obtain ⟨r, e, h1, h2, h3, h4⟩ := sqrt_loop n hn (3037000500 - 0 : Int).toNat k 0 3037000500 rfl (by omega) (by omega) (by omega) (by omega) (by omega) (by omega)
    exact ⟨r, e, h1, h2, fun h => by omega, fun _ => ⟨h3, h4⟩⟩
  · obtain ⟨k, rfl⟩ : ∃ m, k = m + 2 := ⟨k - 2, by omega⟩
    refine ⟨0, ?_, by omega, by omega, fun _ => rfl, fun h => by omega⟩
    simp only [root_Sqrt.l0, root_Sqrt.j1]
    rw [if_neg hn, if_neg (by simp)]
theorem root_unique {n r s : Int} (hr : 0 ≤ r) (hs : 0 ≤ s) (h1 : r * r ≤ n) (h2 : n < (r + 1) * (r + 1)) (h3 : s * s ≤ n) (h4 : n < (s + 1) * (s + 1)) : r = s := by
  rcases Int.lt_trichotomy r s with h | h | h
  · have := Int.mul_le_mul (show r + 1 ≤ s by omega) (show r + 1 ≤ s by omega) (by omega) (by omega); omega
  · exact h
  · have := Int.mul_le_mul (show s + 1 ≤ r by omega) (show s + 1 ≤ r by omega) (by omega) (by omega); omega
theorem root_mono {n m r s : Int} (_hr : 0 ≤ r) (hs : 0 ≤ s) (h1 : r * r ≤ n) (h4 : m < (s + 1) * (s + 1)) (h : n ≤ m) : r ≤ s := by
  by_cases c : r ≤ s
  · exact c
  · have := Int.mul_le_mul (show s + 1 ≤ r by omega) (show s + 1 ≤ r by omega) (by omega) (by omega); omega
theorem root_near {n c r s : Int} (hr : 0 ≤ r) (_hs : 0 ≤ s) (hc : 0 ≤ c) (h2 : n < (r + 1) * (r + 1)) (h3 : s * s ≤ n + c) : s - r ≤ c := by
  by_cases g : s - r ≤ c
  · exact g
  · exfalso
    have e1 := Int.mul_le_mul (show r + c + 1 ≤ s by omega) (show r + c + 1 ≤ s by omega) (by omega) (by omega)
    have e2 : (r + c + 1) * (r + c + 1) = (r + 1) * (r + 1) + ((r + 1) * c + c * (r + 1 + c)) := by
      rw [show r + c + 1 = (r + 1) + c by omega]
      generalize r + 1 = p
      rw [Int.add_mul, Int.mul_add]; omega
    have e3 : 0 ≤ c * (r + 1 + c) := Int.mul_nonneg hc (by omega)
    have e4 : 1 * c ≤ (r + 1) * c := Int.mul_le_mul_of_nonneg_right (by omega) hc
    omega
end RootRises
open RootRises in
theorem RootRises : punchcutlaw02_RootRises.Pure := by
  intro a b wa wb
  have ha := bounds_i64 wa
  have hb := bounds_u16 wb
  obtain ⟨k, hk⟩ : ∃ k : Nat, 6074001100 ≤ k := ⟨6074001100, Nat.le_refl _⟩
  refine ⟨k, ?_⟩
  unfold punchcutlaw02_RootRises.f
  rw [awake_f (by omega)]
  simp only [Option.bind_some, if_true]
  have h1 := le_mx_left 0 (a / 2)
  have h2 : mx 0 (a / 2) ≤ 4611686018427387904 := mx_le (by omega) (by omega)
  generalize mx 0 (a / 2) = n at *
  rw [w64 (n := b) (by omega) (by omega), w64 (n := n + b) (by omega) (by omega)]
  obtain ⟨r, e, r1, r2, _, r4⟩ := sqrt_f (k := k) (by omega) (n := n) (by omega)
  obtain ⟨s, f, s1, s2, _, s4⟩ := sqrt_f (k := k) (by omega) (n := n + b) (by omega)
  have r4 := r4 h1
  have s4 := s4 (by omega)
  rw [e, f]
  simp only [Option.bind_some]
  rw [if_pos (root_mono r1 s1 r4.1 s4.2 (by omega)), w64 (n := s - r) (by omega) (by omega), decide_eq_true (root_near r1 s1 hb.1 r4.2 s4.1)]

end Go.Proofs.Ytccpcojknfnhpaa.Pure
