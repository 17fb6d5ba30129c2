/- What is more covers no less; for every number, every two ends and every addition. -/
import Derived.Test.YtkgflgjdclaenaaPRampRisesx4
import Derived.Test.YtkgflgjdclaenaaCore
import Derived.OpenShut
namespace Go.Proofs.Ytkgflgjdclaenaa.Pure
open Go Go.RowKit Go.Proofs.Ytkgflgjdclaenaa.PRampRises Go.Proofs.YtkgflgjdclaenaaW.PrintWords Go.Proofs.YtkgflgjdclaenaaW.PrintLast Go.Proofs.YtkgflgjdclaenaaW.PrintMore Go.Proofs.Ytkgflgjdclaenaa.Core

namespace RampRises
theorem blend_f {a b c : Int} (ha : 0 ≤ a) (ha2 : a ≤ 255) (hb : 0 ≤ b) (hb2 : b ≤ 255) (hc : 0 ≤ c) (hc2 : c ≤ 255) : ramp_Blend.f a b c = some (blend a b c) := by
  unfold ramp_Blend.f
  rw [blend_go ha ha2 hb hb2 hc hc2]
  have h := blend_between (m := 0) (M := 255) hc hc2 ha hb ha2 hb2
  congr 1
  omega
theorem awake_f {k : Nat} (hk : 200 ≤ k) : punchcutlaw18_awake.f k = some true := at_rounds (fun k => punchcutlaw18_awake.mono k) hk (by decide +kernel)
theorem mul_f {a b : Int} (ha : 0 ≤ a) (ha2 : a < 18446744073709551616) (hb : 0 ≤ b) (hb2 : b < 18446744073709551616) :
    wide_Mul.f a b = some (a * b / 18446744073709551616, a * b % 18446744073709551616) := by
  unfold wide_Mul.f
  rw [mul_hi ha ha2 hb hb2, u64_wrap]
theorem cmp_f {k : Nat} (hk : 1 ≤ k) (p q r s : Int) : wide_Pair_Compare.f k p q r s = some (if p < r ∨ (p = r ∧ q < s) then (-1 : Int) else if p = r ∧ q = s then 0 else 1) := by
  obtain ⟨k, rfl⟩ : ∃ m, k = m + 1 := ⟨k - 1, by omega⟩
  unfold wide_Pair_Compare.f
  simp only [wide_Pair_Compare.j0]
  by_cases h1 : p < r
  · rw [if_pos h1, if_pos trivial, if_pos (.inl h1)]
  · rw [if_neg h1]
    by_cases h2 : p = r
    · rw [if_pos h2]
      by_cases h3 : q < s
      · have e : (p < r ∨ (p = r ∧ q < s)) := .inr ⟨h2, h3⟩
        rw [if_pos e]; simp [h3]
      · have e : ¬ (p < r ∨ (p = r ∧ q < s)) := by omega
        rw [if_neg e]
        by_cases h4 : q = s <;> simp [h2, h3, h4]
    · have e : ¬ (p < r ∨ (p = r ∧ q < s)) := by omega
      rw [if_neg e]
      simp [h2]
theorem cmp_prod {k : Nat} (hk : 1 ≤ k) (x y : Int) :
    wide_Pair_Compare.f k (x / 18446744073709551616) (x % 18446744073709551616) (y / 18446744073709551616) (y % 18446744073709551616) = some (sgn (x - y)) := by
  rw [cmp_f hk, cmp_sgn]
theorem less_f {k : Nat} (hk : 1 ≤ k) {a b c d : Int} (ha : 0 ≤ a) (ha2 : a < 9223372036854775808) (hb : 0 ≤ b) (hb2 : b < 9223372036854775808)
    (hc : 0 ≤ c) (hc2 : c < 9223372036854775808) (hd : 0 ≤ d) (hd2 : d < 9223372036854775808) : wide_Less.f k a b c d = some (sgn (a * d - c * b)) := by
  unfold wide_Less.f
  rw [wu64 ha (by omega), wu64 hb (by omega), wu64 hc (by omega), wu64 hd (by omega)]
  rw [mul_f ha (by omega) hd (by omega), mul_f hc (by omega) hb (by omega)]
  simp only [Option.bind_some]
  rw [cmp_prod hk]
  rfl
theorem rcmp_f {k : Nat} (hk : 1 ≤ k) {a b c d : Int} (ha : 0 ≤ a) (ha2 : a < 9223372036854775808) (hb : 0 ≤ b) (hb2 : b < 9223372036854775808)
    (hc : 0 ≤ c) (hc2 : c < 9223372036854775808) (hd : 0 ≤ d) (hd2 : d < 9223372036854775808) : root_Compare.f k a b c d = some (sgn (a * d - c * b)) := by
  unfold root_Compare.f
  rw [less_f hk ha ha2 hb hb2 hc hc2 hd hd2]
  rfl
theorem of_loop (x0 x1 : Int) (b : Nat) : ∀ (k a : Nat), b + 1 ≤ k → 0 < a ∨ 0 < b → root_Of.l0 k x0 x1 (a : Int) (b : Int) =
    some (wrap64 (Int.tdiv x0 (Nat.gcd a b : Nat)), wrap64 (Int.tdiv x1 (Nat.gcd a b : Nat)), 0) := by
  induction b using Nat.strongRecOn with
  | _ b ih =>
    intro k a hk hab
    obtain ⟨k, rfl⟩ : ∃ m, k = m + 1 := ⟨k - 1, by omega⟩
    simp only [root_Of.l0]
    by_cases hb : b = 0
    · subst hb
      rw [if_pos (by simp), if_neg (by omega), Nat.gcd_zero_right]
    · rw [if_neg (by omega)]
      have e : Int.tmod (a : Int) (b : Int) = ((a % b : Nat) : Int) := by rw [Int.tmod_eq_emod_of_nonneg (by omega)]; rfl
      have hlt := Nat.mod_lt a (Nat.pos_of_ne_zero hb)
      rw [e, ih (a % b) hlt k b (by omega) (.inl (by omega)), Nat.gcd_comm a b, Nat.gcd_rec b a, Nat.gcd_comm (a % b) b]
/-- a fraction in its least form -/
theorem of_f {k : Nat} {n d : Int} (hn : 0 ≤ n) (hn2 : n < 9223372036854775808) (hd : 1 ≤ d) (hd2 : d < 9223372036854775808) (hk : d.toNat + 2 ≤ k) :
    root_Of.f k n d = some (n / (Int.gcd n d : Nat), d / (Int.gcd n d : Nat), 0) := by
  obtain ⟨k, rfl⟩ : ∃ m, k = m + 1 := ⟨k - 1, by omega⟩
  unfold root_Of.f
  rw [if_neg (by omega)]
  simp only [root_Of.j0]
  rw [if_neg (by simp; omega)]
  obtain ⟨a, rfl⟩ := Int.eq_ofNat_of_zero_le hn
  obtain ⟨b, rfl⟩ := Int.eq_ofNat_of_zero_le (show 0 ≤ d by omega)
  rw [of_loop _ _ b k a (by simp at hk; omega) (.inr (by omega))]
  have e : Int.gcd (a : Int) (b : Int) = Nat.gcd a b := rfl
  rw [e]
  have hg : 0 < Nat.gcd a b := Nat.gcd_pos_of_pos_right a (by omega)
  have h1 : ((a : Int) / (Nat.gcd a b : Nat)) ≤ a := Int.ediv_le_self _ hn
  have h2 : ((b : Int) / (Nat.gcd a b : Nat)) ≤ b := Int.ediv_le_self _ (by omega)
  have h3 : 0 ≤ ((a : Int) / (Nat.gcd a b : Nat)) := Int.ediv_nonneg hn (by omega)
  have h4 : 0 ≤ ((b : Int) / (Nat.gcd a b : Nat)) := Int.ediv_nonneg (by omega) (by omega)
  rw [Int.tdiv_eq_ediv_of_nonneg hn, Int.tdiv_eq_ediv_of_nonneg (by omega), w64 (by omega) (by omega), w64 (by omega) (by omega)]
theorem of_bad {k : Nat} {n d : Int} (hk : 1 ≤ k) (h : n < 0 ∨ d < 1) : root_Of.f k n d = some (0, 0, 4) := by
  obtain ⟨k, rfl⟩ : ∃ m, k = m + 1 := ⟨k - 1, by omega⟩
  unfold root_Of.f
  by_cases hn : n < 0
  · rw [if_pos hn]; simp [root_Of.j0]
  · rw [if_neg hn]
    have : d < 1 := by omega
    simp [root_Of.j0, this]
theorem cover_f {k : Nat} (hk : 1 ≤ k) {n d lo hi : Int} (hn : 0 ≤ n) (hn2 : n ≤ 1099511627776) (hd : 1 ≤ d) (hd2 : d ≤ 1099511627776) (hlo : 0 ≤ lo) (hlh : lo < hi) (hhi : hi ≤ 255) :
    ramp_Cover.f k n d lo hi = some (cov n d lo hi) := by
  unfold ramp_Cover.f cov
  have b1 : 0 ≤ lo * d := Int.mul_nonneg hlo (by omega)
  have b2 : lo * d ≤ 255 * 1099511627776 := Int.mul_le_mul (by omega) hd2 (by omega) (by omega)
  have b3 : hi * d ≤ 255 * 1099511627776 := Int.mul_le_mul (by omega) hd2 (by omega) (by omega)
  have e : (hi - lo) * d = hi * d - lo * d := Int.sub_mul _ _ _
  have hp : 0 < (hi - lo) * d := Int.mul_pos (by omega) (by omega)
  rw [mx_of_le (show 0 ≤ hi by omega), mx_of_le hlo]
  rw [rcmp_f hk hn (by omega) (by omega) (by omega) (by omega) (by omega) (by omega) (by omega), rcmp_f hk hn (by omega) (by omega) (by omega) (by omega) (by omega) (by omega) (by omega)]
  simp only [Option.bind_some, Int.mul_one]
  by_cases h1 : hi * d ≤ n
  · rw [if_pos (show sgn (n - hi * d) ≥ 0 from sgn_ge_zero.2 (by omega)), if_pos h1]
  · rw [if_neg (show ¬ sgn (n - hi * d) ≥ 0 from fun h => h1 (by have := sgn_ge_zero.1 h; omega)), if_neg h1, if_neg (show ¬ lo ≥ hi by omega)]
    by_cases h2 : n ≤ lo * d
    · rw [if_pos (sgn_le_zero.2 (by omega)), if_pos (show lo ≥ 0 from hlo), if_pos h2]
    · rw [if_neg (fun h => h2 (by have := sgn_le_zero.1 h; omega)), if_neg h2]
      have hm := cov_mid hd hlh h1 h2
      rw [w64 (n := hi - lo) (by omega) (by omega), w64 (n := (hi - lo) * d) (by omega) (by omega), if_neg (by omega)]
      rw [w64 (n := lo * d) (by omega) (by omega), w64 (n := n - lo * d) (by omega) (by omega), w64 (n := (n - lo * d) * 255) (by omega) (by omega)]
      rw [Int.tdiv_eq_ediv_of_nonneg (by omega), w64 (by omega) (by omega)]
      congr 1
      omega
theorem some_f {k : Nat} (hk : 65538 ≤ k) {a b c e : Int} (ha : 0 ≤ a ∧ a ≤ 4294967295) (hb : 0 ≤ b ∧ b ≤ 65535) (hc : 0 ≤ c ∧ c ≤ 255) (he : 0 ≤ e ∧ e ≤ 255) :
    ∃ n d lo hi : Int, punchcutlaw18_some.f k a b c e = some (n, d, lo, hi) ∧ 0 ≤ n ∧ n ≤ 16777216 ∧ 1 ≤ d ∧ d ≤ 65536 ∧ 0 ≤ lo ∧ lo < hi ∧ hi ≤ 255 := by
  unfold punchcutlaw18_some.f
  have hm1 := mn_le_left c e
  have hm2 := mn_le_right c e
  have hm3 := le_mx_left c e
  have hm4 := le_mx_right c e
  have hm5 : 0 ≤ mn c e := le_mn hc.1 he.1
  have hm6 : mx c e ≤ 255 := mx_le hc.2 he.2
  rw [w64 (n := a) (by omega) (by omega), w64 (n := b) (by omega) (by omega), w64 (n := 1 + b) (by omega) (by omega), w64 (n := 256 * (1 + b)) (by omega) (by omega)]
  rw [if_neg (by omega), Int.tmod_eq_emod_of_nonneg ha.1]
  have hr1 : 0 ≤ a % (256 * (1 + b)) := Int.emod_nonneg _ (by omega)
  have hr2 : a % (256 * (1 + b)) < 256 * (1 + b) := Int.emod_lt_of_pos _ (by omega)
  generalize a % (256 * (1 + b)) = r at *
  have hg : 0 < Int.gcd r (1 + b) := Int.gcd_pos_of_ne_zero_right _ (by omega)
  have hgd : ((Int.gcd r (1 + b) : Nat) : Int) ∣ 1 + b := Int.gcd_dvd_right ..
  rw [of_f hr1 (by omega) (by omega) (by omega) (by omega)]
  have q1 : r / (Int.gcd r (1 + b) : Nat) ≤ r := Int.ediv_le_self _ hr1
  have q2 : 0 ≤ r / (Int.gcd r (1 + b) : Nat) := Int.ediv_nonneg hr1 (by omega)
  have q3 : (1 + b) / (Int.gcd r (1 + b) : Nat) ≤ 1 + b := Int.ediv_le_self _ (by omega)
  have q4 : 1 ≤ (1 + b) / (Int.gcd r (1 + b) : Nat) := Int.le_ediv_of_mul_le (by omega) (by have := Int.le_of_dvd (by omega) hgd; omega)
  generalize r / (Int.gcd r (1 + b) : Nat) = n at *
  generalize (1 + b) / (Int.gcd r (1 + b) : Nat) = d at *
  simp only [Option.bind_some]
  generalize mn c e = lo at *
  generalize mx c e = hi at *
  rw [w64 (n := lo) (by omega) (by omega), w64 (n := hi) (by omega) (by omega)]
  by_cases h1 : lo = hi
  · rw [if_pos h1]
    by_cases h2 : hi < 255
    · rw [if_pos h2]
      exact ⟨_, _, _, _, rfl, q2, by omega, q4, by omega, by omega, by rw [w64] <;> omega, by rw [w64] <;> omega⟩
    · rw [if_neg h2]
      exact ⟨_, _, _, _, rfl, q2, by omega, q4, by omega, by rw [w64] <;> omega, by rw [w64] <;> omega, by omega⟩
  · rw [if_neg h1]
    exact ⟨_, _, _, _, rfl, q2, by omega, q4, by omega, by omega, by omega, by omega⟩
end RampRises
open RampRises in
theorem RampRises : punchcutlaw18_RampRises.Pure := by
  intro a b c d m wa wb wc wd wm
  have hm := bounds_u16 wm
  obtain ⟨k, hk⟩ : ∃ k : Nat, 65538 ≤ k := ⟨65538, Nat.le_refl _⟩
  refine ⟨k, ?_⟩
  unfold punchcutlaw18_RampRises.f
  rw [awake_f (by omega)]
  simp only [Option.bind_some, if_true]
  obtain ⟨n, q, lo, hi, e, h1, h2, h3, h4, h5, h6, h7⟩ := some_f hk (bounds_u32 wa) (bounds_u16 wb) (bounds_u8 wc) (bounds_u8 wd)
  rw [e]
  simp only [Option.bind_some]
  rw [w64 (n := m) (by omega) (by omega), w64 (n := n + m) (by omega) (by omega)]
  rw [cover_f (by omega) h1 (by omega) h3 (by omega) h5 h6 h7, cover_f (n := n + m) (by omega) (by omega) (by omega) h3 (by omega) h5 h6 h7]
  rw [cover_f (n := lo) (d := 1) (by omega) (by omega) (by omega) (by omega) (by omega) h5 h6 h7, cover_f (n := hi) (d := 1) (by omega) (by omega) (by omega) (by omega) (by omega) h5 h6 h7]
  simp only [Option.bind_some]
  rw [if_pos (cov_mono h3 h6 (by omega)), cov_lo h6, cov_hi]
  rfl

end Go.Proofs.Ytkgflgjdclaenaa.Pure
