/- A fraction in its least form is what the document says; for every two numbers. -/
import Derived.Test.YtccpcojknfnhpaaPRootOfx6
import Derived.Test.YtccpcojknfnhpaaCore
import Derived.OpenShut
namespace Go.Proofs.Ytccpcojknfnhpaa.Pure
open Go Go.RowKit Go.Proofs.Ytccpcojknfnhpaa.PRootOf Go.Proofs.YtccpcojknfnhpaaW.PrintWords Go.Proofs.YtccpcojknfnhpaaW.PrintLast Go.Proofs.YtccpcojknfnhpaaW.PrintMore Go.Proofs.Ytccpcojknfnhpaa.Core

namespace RootOf
theorem awake_f {k : Nat} (hk : 200 ≤ k) : punchcutlaw02_awake.f k = some true := at_rounds (fun k => punchcutlaw02_awake.mono k) hk (by decide +kernel)
theorem mul_f {a b : Int} (ha : 0 ≤ a) (ha2 : a < 18446744073709551616) (hb : 0 ≤ b) (hb2 : b < 18446744073709551616) :
    wide_Mul.f a b = some (a * b / 18446744073709551616, a * b % 18446744073709551616) := by
  unfold wide_Mul.f
  rw [mul_hi ha ha2 hb hb2, u64_wrap]
theorem cmp_f {k : Nat} (hk : 1 ≤ k) (p q r s : Int) : wide_Pair_Compare.f k p q r s = some (if p < r ∨ (p = r ∧ q < s) then (-1 : Int) else if p = r ∧ q = s then 0 else 1) := by
  obtain ⟨k, rfl⟩ : ∃ m, k = m + 1 := ⟨k - 1, by omega⟩
  unfold wide_Pair_Compare.f
  simp only [wide_Pair_Compare.j0]
  by_cases h1 : p < r
  · rw [if_pos h1, if_pos trivial, if_pos (.inl h1)]
  · rw [if_neg h1]
    by_cases h2 : p = r
    · rw [if_pos h2]
      by_cases h3 : q < s
      · have e : (p < r ∨ (p = r ∧ q < s)) := .inr ⟨h2, h3⟩
        rw [if_pos e]; simp [h3]
      · have e : ¬ (p < r ∨ (p = r ∧ q < s)) := by omega
        rw [if_neg e]
        by_cases h4 : q = s <;> simp [h2, h3, h4]
    · have e : ¬ (p < r ∨ (p = r ∧ q < s)) := by omega
      rw [if_neg e]
      simp [h2]
theorem cmp_prod {k : Nat} (hk : 1 ≤ k) (x y : Int) :
    wide_Pair_Compare.f k (x / 18446744073709551616) (x % 18446744073709551616) (y / 18446744073709551616) (y % 18446744073709551616) = some (sgn (x - y)) := by
  rw [cmp_f hk, cmp_sgn]
theorem less_f {k : Nat} (hk : 1 ≤ k) {a b c d : Int} (ha : 0 ≤ a) (ha2 : a < 9223372036854775808) (hb : 0 ≤ b) (hb2 : b < 9223372036854775808)
    (hc : 0 ≤ c) (hc2 : c < 9223372036854775808) (hd : 0 ≤ d) (hd2 : d < 9223372036854775808) : wide_Less.f k a b c d = some (sgn (a * d - c * b)) := by
  unfold wide_Less.f
  rw [wu64 ha (by omega), wu64 hb (by omega), wu64 hc (by omega), wu64 hd (by omega)]
  rw [mul_f ha (by omega) hd (by omega), mul_f hc (by omega) hb (by omega)]
  simp only [Option.bind_some]
  rw [cmp_prod hk]
  rfl
theorem of_loop (x0 x1 : Int) (b : Nat) : ∀ (k a : Nat), b + 1 ≤ k → 0 < a ∨ 0 < b → root_Of.l0 k x0 x1 (a : Int) (b : Int) =
    some (wrap64 (Int.tdiv x0 (Nat.gcd a b : Nat)), wrap64 (Int.tdiv x1 (Nat.gcd a b : Nat)), 0) := by
  induction b using Nat.strongRecOn with
  | _ b ih =>
    intro k a hk hab
    obtain ⟨k, rfl⟩ : ∃ m, k = m + 1 := ⟨k - 1, by omega⟩
    simp only [root_Of.l0]
    by_cases hb : b = 0
    · subst hb
      rw [if_pos (by simp), if_neg (by omega), Nat.gcd_zero_right]
    · rw [if_neg (by omega)]
      have e : Int.tmod (a : Int) (b : Int) = ((a % b : Nat) : Int) := by rw [Int.tmod_eq_emod_of_nonneg (by omega)]; rfl
      have hlt := Nat.mod_lt a (Nat.pos_of_ne_zero hb)
      rw [e, ih (a % b) hlt k b (by omega) (.inl (by omega)), Nat.gcd_comm a b, Nat.gcd_rec b a, Nat.gcd_comm (a % b) b]
/-- a fraction in its least form -/
theorem of_f {k : Nat} {n d : Int} (hn : 0 ≤ n) (hn2 : n < 9223372036854775808) (hd : 1 ≤ d) (hd2 : d < 9223372036854775808) (hk : d.toNat + 2 ≤ k) :
    root_Of.f k n d = some (n / (Int.gcd n d : Nat), d / (Int.gcd n d : Nat), 0) := by
  obtain ⟨k, rfl⟩ : ∃ m, k = m + 1 := ⟨k - 1, by omega⟩
  unfold root_Of.f
  rw [if_neg (by omega)]
  simp only [root_Of.j0]
  rw [if_neg (by simp; omega)]
  obtain ⟨a, rfl⟩ := Int.eq_ofNat_of_zero_le hn
  obtain ⟨b, rfl⟩ := Int.eq_ofNat_of_zero_le (show 0 ≤ d by omega)
  rw [of_loop _ _ b k a (by simp at hk; omega) (.inr (by omega))]
  have e : Int.gcd (a : Int) (b : Int) = Nat.gcd a b := rfl
  rw [e]
  have hg : 0 < Nat.gcd a b := Nat.gcd_pos_of_pos_right a (by omega)
  have h1 : ((a : Int) / (Nat.gcd a b : Nat)) ≤ a := Int.ediv_le_self _ hn
  have h2 : ((b : Int) / (Nat.gcd a b : Nat)) ≤ b := Int.ediv_le_self _ (by omega)
  have h3 : 0 ≤ ((a : Int) / (Nat.gcd a b : Nat)) := Int.ediv_nonneg hn (by omega)
  have h4 : 0 ≤ ((b : Int) / (Nat.gcd a b : Nat)) := Int.ediv_nonneg (by omega) (by omega)
  rw [Int.tdiv_eq_ediv_of_nonneg hn, Int.tdiv_eq_ediv_of_nonneg (by omega), w64 (by omega) (by omega), w64 (by omega) (by omega)]
theorem of_bad {k : Nat} {n d : Int} (hk : 1 ≤ k) (h : n < 0 ∨ d < 1) : root_Of.f k n d = some (0, 0, 4) := by
  obtain ⟨k, rfl⟩ : ∃ m, k = m + 1 := ⟨k - 1, by omega⟩
  unfold root_Of.f
  by_cases hn : n < 0
  · rw [if_pos hn]; simp [root_Of.j0]
  · rw [if_neg hn]
    have : d < 1 := by omega
    simp [root_Of.j0, this]
theorem of_parts {n d : Int} (hn : 0 ≤ n) (hd : 1 ≤ d) : 1 ≤ ((Int.gcd n d : Nat) : Int) ∧ ((Int.gcd n d : Nat) : Int) * (n / (Int.gcd n d : Nat)) = n ∧ ((Int.gcd n d : Nat) : Int) * (d / (Int.gcd n d : Nat)) = d ∧
    0 ≤ n / (Int.gcd n d : Nat) ∧ n / (Int.gcd n d : Nat) ≤ n ∧ 1 ≤ d / (Int.gcd n d : Nat) ∧ d / (Int.gcd n d : Nat) ≤ d := by
  have hg : 0 < Int.gcd n d := Int.gcd_pos_of_ne_zero_right _ (by omega)
  have h1 : ((Int.gcd n d : Nat) : Int) ∣ n := Int.gcd_dvd_left ..
  have h2 : ((Int.gcd n d : Nat) : Int) ∣ d := Int.gcd_dvd_right ..
  refine ⟨by omega, Int.mul_ediv_cancel' h1, Int.mul_ediv_cancel' h2, Int.ediv_nonneg hn (by omega), Int.ediv_le_self _ hn, ?_, Int.ediv_le_self _ (by omega)⟩
  exact Int.le_ediv_of_mul_le (by omega) (by have := Int.le_of_dvd (by omega) h2; omega)
theorem gcd_loop (b : Nat) : ∀ (k a : Nat), b + 1 ≤ k → punchcutlaw02_gcd.l0 k (a : Int) (b : Int) = some ((Nat.gcd a b : Nat) : Int) := by
  induction b using Nat.strongRecOn with
  | _ b ih =>
    intro k a hk
    obtain ⟨k, rfl⟩ : ∃ m, k = m + 1 := ⟨k - 1, by omega⟩
    simp only [punchcutlaw02_gcd.l0]
    by_cases hb : b = 0
    · subst hb
      rw [if_neg (by simp), Nat.gcd_zero_right]
    · rw [if_pos (by omega), if_neg (by omega)]
      have e : Int.tmod (a : Int) (b : Int) = ((a % b : Nat) : Int) := by rw [Int.tmod_eq_emod_of_nonneg (by omega)]; rfl
      have hlt := Nat.mod_lt a (Nat.pos_of_ne_zero hb)
      rw [e, ih (a % b) hlt k b (by omega), Nat.gcd_comm a b, Nat.gcd_rec b a, Nat.gcd_comm (a % b) b]
theorem gcd_one {n d : Int} (hn : 0 ≤ n) (hd : 1 ≤ d) {k : Nat} (hk : d.toNat + 1 ≤ k) : punchcutlaw02_gcd.f k (n / (Int.gcd n d : Nat)) (d / (Int.gcd n d : Nat)) = some 1 := by
  have hp := of_parts hn hd
  obtain ⟨a, rfl⟩ := Int.eq_ofNat_of_zero_le hn
  obtain ⟨b, rfl⟩ := Int.eq_ofNat_of_zero_le (show 0 ≤ d by omega)
  have e : Int.gcd (a : Int) (b : Int) = Nat.gcd a b := rfl
  rw [e] at hp ⊢
  unfold punchcutlaw02_gcd.f
  have e1 : (a : Int) / (Nat.gcd a b : Nat) = ((a / Nat.gcd a b : Nat) : Int) := rfl
  have e2 : (b : Int) / (Nat.gcd a b : Nat) = ((b / Nat.gcd a b : Nat) : Int) := rfl
  rw [e1, e2]
  rw [e2] at hp
  rw [gcd_loop _ k _ (by simp at hk; omega), Nat.gcd_div_gcd_div_gcd_of_pos_right (by omega)]
  rfl
end RootOf
open RootOf in
theorem RootOf : punchcutlaw02_RootOf.Pure := by
  intro n d wn wd
  have hn := bounds_i64 wn
  have hd := bounds_i64 wd
  obtain ⟨k, hk⟩ : ∃ k : Nat, d.toNat + 1000 ≤ k := ⟨_, Nat.le_refl _⟩
  refine ⟨k, ?_⟩
  unfold punchcutlaw02_RootOf.f
  rw [awake_f (by omega)]
  simp only [Option.bind_some, if_true]
  by_cases hbad : n < 0 ∨ d < 1
  · rw [of_bad (by omega) hbad]
    simp only [Option.bind_some]
    obtain ⟨k, rfl⟩ : ∃ m, k = m + 1 := ⟨k - 1, by omega⟩
    simp only [punchcutlaw02_RootOf.j0]
    by_cases c : n < 0
    · rw [if_pos c]; rfl
    · rw [if_neg c, if_pos (by simp; omega)]; rfl
  · rw [of_f (by omega) (by omega) (by omega) (by omega) (by omega)]
    simp only [Option.bind_some]
    rw [if_neg (by omega)]
    obtain ⟨k, rfl⟩ : ∃ m, k = m + 1 := ⟨k - 1, by omega⟩
    simp only [punchcutlaw02_RootOf.j0]
    obtain ⟨p1, p2, p3, p4, p5, p6, p7⟩ := of_parts (n := n) (d := d) (by omega) (by omega)
    rw [if_neg (by simp; omega), if_pos trivial, if_pos (show d / (Int.gcd n d : Nat) ≥ 1 from p6), gcd_one (by omega) (by omega) (by omega)]
    simp only [Option.bind_some]
    rw [if_pos trivial, less_f (by omega) (by omega) (by omega) (by omega) (by omega) (by omega) (by omega) (by omega) (by omega)]
    generalize ((Int.gcd n d : Nat) : Int) = g at *
    generalize n / g = a at *
    generalize d / g = b at *
    have e : a * d - n * b = 0 := by rw [← p2, ← p3, Int.mul_left_comm, Int.mul_assoc]; omega
    rw [sgn_zero e]
    rfl

end Go.Proofs.Ytccpcojknfnhpaa.Pure
