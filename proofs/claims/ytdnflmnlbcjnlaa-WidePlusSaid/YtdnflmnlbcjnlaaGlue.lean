/- What wide.Mul, Compare, Less and Div of this program tell, in plain numbers. Conditions: as each states. -/
import Derived.Test.YtdnflmnlbcjnlaaPWideMulx2
import Derived.Test.YtdnflmnlbcjnlaaCore
namespace Go.Proofs.Ytdnflmnlbcjnlaa.Glue
open Go Go.RowKit Go.Proofs.YtdnflmnlbcjnlaaW.PrintWords Go.Proofs.YtdnflmnlbcjnlaaW.PrintLast Go.Proofs.YtdnflmnlbcjnlaaW.PrintMore Go.Proofs.Ytdnflmnlbcjnlaa.Core Go.Proofs.Ytdnflmnlbcjnlaa.PWideMul
theorem mul_f {a b : Int} (ha : 0 ≤ a) (ha2 : a < 18446744073709551616) (hb : 0 ≤ b) (hb2 : b < 18446744073709551616) :
    wide_Mul.f a b = some (a * b / 18446744073709551616, a * b % 18446744073709551616) := by
  unfold wide_Mul.f
  rw [mul_hi ha ha2 hb hb2, u64_wrap]
theorem cmp_f {k : Nat} (hk : 1 ≤ k) (p q r s : Int) : wide_Pair_Compare.f k p q r s = some (if p < r ∨ (p = r ∧ q < s) then (-1 : Int) else if p = r ∧ q = s then 0 else 1) := by
  obtain ⟨k, rfl⟩ : ∃ m, k = m + 1 := ⟨k - 1, by omega⟩
  unfold wide_Pair_Compare.f
  simp only [wide_Pair_Compare.j0]
  by_cases h1 : p < r
  · rw [if_pos h1, if_pos trivial, if_pos (.inl h1)]
  · rw [if_neg h1]
    by_cases h2 : p = r
    · rw [if_pos h2]
      by_cases h3 : q < s
      · have e : (p < r ∨ (p = r ∧ q < s)) := .inr ⟨h2, h3⟩
        rw [if_pos e]; simp [h3]
      · have e : ¬ (p < r ∨ (p = r ∧ q < s)) := by omega
        rw [if_neg e]
        by_cases h4 : q = s <;> simp [h2, h3, h4]
    · have e : ¬ (p < r ∨ (p = r ∧ q < s)) := by omega
      rw [if_neg e]
      simp [h2]
theorem cmp_prod {k : Nat} (hk : 1 ≤ k) (x y : Int) :
    wide_Pair_Compare.f k (x / 18446744073709551616) (x % 18446744073709551616) (y / 18446744073709551616) (y % 18446744073709551616) = some (sgn (x - y)) := by
  rw [cmp_f hk, cmp_sgn]
theorem less_f {k : Nat} (hk : 1 ≤ k) {a b c d : Int} (ha : 0 ≤ a) (ha2 : a < 9223372036854775808) (hb : 0 ≤ b) (hb2 : b < 9223372036854775808)
    (hc : 0 ≤ c) (hc2 : c < 9223372036854775808) (hd : 0 ≤ d) (hd2 : d < 9223372036854775808) : wide_Less.f k a b c d = some (sgn (a * d - c * b)) := by
  unfold wide_Less.f
  rw [wu64 ha (by omega), wu64 hb (by omega), wu64 hc (by omega), wu64 hd (by omega)]
  rw [mul_f ha (by omega) hd (by omega), mul_f hc (by omega) hb (by omega)]
  simp only [Option.bind_some]
  rw [cmp_prod hk]
  rfl
theorem div_loop (d lo N : Nat) (hd : d < 18446744073709551616) (hlo : lo < 18446744073709551616) (h0 : Int) (i : Nat) : ∀ (k out rest : Nat), i < k → i ≤ 64 → rest < d → out % 2 ^ i = 0 → out + 2 ^ i ≤ 18446744073709551616 →
    out * d + rest * 2 ^ i + lo % 2 ^ i = N → wide_Pair_Div.l0 k d out rest ((i : Int) - 1) h0 lo = some (((N / d : Nat) : Int), ((N % d : Nat) : Int), 0) := by
  induction i with
  | zero =>
    intro k out rest hk _ hr _ _ hN
    obtain ⟨k, rfl⟩ : ∃ m, k = m + 1 := ⟨k - 1, by omega⟩
    simp only [wide_Pair_Div.l0]
    rw [if_neg (by omega)]
    have e : N = rest + d * out := by rw [← hN, Nat.mul_comm d]; simp only [Nat.pow_zero, Nat.mod_one]; omega
    have e1 : N / d = out := by rw [e, Nat.add_mul_div_left _ _ (by omega), Nat.div_eq_of_lt hr]; omega
    have e2 : N % d = rest := by rw [e, Nat.add_mul_mod_self_left, Nat.mod_eq_of_lt hr]
    rw [e1, e2]
  | succ i ih =>
    intro k out rest hk hi hr ho ho2 hN
    obtain ⟨k, rfl⟩ : ∃ m, k = m + 1 := ⟨k - 1, by omega⟩
    simp only [wide_Pair_Div.l0]
    have ei : (((i + 1 : Nat) : Int) - 1) = (i : Int) := by omega
    rw [ei, if_pos (by omega), if_pos (by omega), w64 (n := (i : Int) - 1) (by omega) (by omega)]
    have hp64 : 2 ^ (i + 1) ≤ 2 ^ 64 := Nat.pow_le_pow_right (by omega) hi
    have hpow : 2 ^ (i + 1) = 2 * 2 ^ i := by rw [Nat.pow_succ, Nat.mul_comm]
    have hp : 0 < 2 ^ i := Nat.pow_pos (by omega)
    have hmin : min ((i : Int).toNat) IntKind.u64.bits = i := by show min i 64 = i; omega
    have ep : (2 : Int) ^ i = ((2 ^ i : Nat) : Int) := by norm_cast
    have es : shl .u64 1 (i : Int) = ((2 ^ i : Nat) : Int) := by
      unfold shl
      rw [hmin, Int.one_mul, ep, wu64 (by omega) (by omega)]
    have er : shr .u64 (lo : Int) (i : Int) = ((lo / 2 ^ i : Nat) : Int) := by
      unfold shr
      rw [hmin, ep]; norm_cast
    have hb2 : lo / 2 ^ i % 2 < 2 := Nat.mod_lt _ (by omega)
    have hll : lo / 2 ^ i ≤ lo := Nat.div_le_self _ _
    have ea : Go.bits .and .u64 (shr .u64 (lo : Int) (i : Int)) 1 = ((lo / 2 ^ i % 2 : Nat) : Int) := by
      rw [er]
      have := u64_and_nat (lo / 2 ^ i) 1 (by omega) (by omega)
      rw [Nat.and_one_is_mod] at this
      exact this
    have hmod : lo % 2 ^ (i + 1) = lo % 2 ^ i + 2 ^ i * (lo / 2 ^ i % 2) := Nat.mod_pow_succ
    rw [ea, es]
    generalize hbit : lo / 2 ^ i % 2 = bit at *
    have ew : IntKind.u64.wrap ((rest : Int) * 2) = ((rest * 2 % 18446744073709551616 : Nat) : Int) := by rw [u64_wrap]; omega
    have ej : Go.bits .or .u64 (IntKind.u64.wrap ((rest : Int) * 2)) (bit : Int) = ((rest * 2 % 18446744073709551616 + bit : Nat) : Int) := by
      rw [ew, u64_or_nat _ _ (Nat.mod_lt _ (by omega)) (by omega)]
      rw [nat_join 1 _ _ (by omega) (by omega)]
    have eo : Go.bits .or .u64 (out : Int) ((2 ^ i : Nat) : Int) = ((out + 2 ^ i : Nat) : Int) := by
      rw [u64_or_nat _ _ (by omega) (by omega)]
      rw [nat_join (i + 1) _ _ ho (by omega)]
    rw [ej, eo]
    have ho3 : (out + 2 ^ i) % 2 ^ i = 0 := by
      rw [Nat.add_mod_right]
      have : out % 2 ^ i = out % 2 ^ (i + 1) % 2 ^ i := by rw [Nat.mod_mod_of_dvd _ (by rw [hpow]; exact Nat.dvd_mul_left _ _)]
      rw [this, ho, Nat.zero_mod]
    have ho4 : out % 2 ^ i = 0 := by rw [Nat.add_mod_right] at ho3; exact ho3
    have hN2 : out * d + (2 * rest + bit) * 2 ^ i + lo % 2 ^ i = N := by
      rw [← hN, hmod, hpow, Nat.add_mul]
      have e1 : rest * (2 * 2 ^ i) = 2 * rest * 2 ^ i := by rw [← Nat.mul_assoc, Nat.mul_comm rest 2]
      have e2 : 2 ^ i * bit = bit * 2 ^ i := Nat.mul_comm _ _
      rw [e1, e2]; omega
    -- what is left where the number goes in
    have hin : d ≤ 2 * rest + bit → wide_Pair_Div.l0 k d ((out + 2 ^ i : Nat) : Int) ((2 * rest + bit - d : Nat) : Int) ((i : Int) - 1) h0 lo = some (((N / d : Nat) : Int), ((N % d : Nat) : Int), 0) := by
      intro h
      refine ih k (out + 2 ^ i) (2 * rest + bit - d) (by omega) (by omega) (by omega) ho3 (by omega) ?_
      rw [← hN2, Nat.add_mul, Nat.sub_mul]
      have e3 : d * 2 ^ i ≤ (2 * rest + bit) * 2 ^ i := Nat.mul_le_mul_right _ h
      have e4 : 2 ^ i * d = d * 2 ^ i := Nat.mul_comm _ _
      rw [e4]; omega
    by_cases htop : ((rest : Int) / 9223372036854775808) = 1
    · rw [if_pos htop]
      have e5 : IntKind.u64.wrap (((rest * 2 % 18446744073709551616 + bit : Nat) : Int) - (d : Int)) = ((2 * rest + bit - d : Nat) : Int) := by rw [u64_wrap]; omega
      rw [e5]
      exact hin (by omega)
    · rw [if_neg htop]
      have e6 : rest * 2 % 18446744073709551616 = 2 * rest := by omega
      rw [e6]
      by_cases hge : ((2 * rest + bit : Nat) : Int) ≥ (d : Int)
      · rw [if_pos hge]
        have e5 : IntKind.u64.wrap (((2 * rest + bit : Nat) : Int) - (d : Int)) = ((2 * rest + bit - d : Nat) : Int) := by rw [u64_wrap]; omega
        rw [e5]
        exact hin (by omega)
      · rw [if_neg hge]
        exact ih k out (2 * rest + bit) (by omega) (by omega) (by omega) ho4 (by omega) hN2
theorem div_f {k : Nat} (hk : 65 ≤ k) {p q d : Int} (hp : 0 ≤ p) (hpd : p < d) (hq : 0 ≤ q) (hq2 : q < 18446744073709551616) (hd2 : d < 18446744073709551616) :
    wide_Pair_Div.f k p q d = some ((p * 18446744073709551616 + q) / d, (p * 18446744073709551616 + q) % d, 0) := by
  unfold wide_Pair_Div.f
  rw [if_neg (by omega)]
  obtain ⟨a, rfl⟩ := Int.eq_ofNat_of_zero_le hp
  obtain ⟨b, rfl⟩ := Int.eq_ofNat_of_zero_le hq
  obtain ⟨c, rfl⟩ := Int.eq_ofNat_of_zero_le (show 0 ≤ d by omega)
  have h := div_loop c b (a * 18446744073709551616 + b) (by omega) (by omega) (a : Int) 64 k 0 a (by omega) (by omega) (by omega) (by simp) (by omega) (by
    have : b % 2 ^ 64 = b := Nat.mod_eq_of_lt (by omega)
    rw [this]; omega)
  have e : ((64 : Nat) : Int) - 1 = 63 := rfl
  rw [e] at h
  rw [show ((0 : Nat) : Int) = 0 from rfl] at h
  rw [h]
  rfl
theorem div_over {k : Nat} {p q d : Int} (h : d ≤ p) : wide_Pair_Div.f k p q d = some (0, 0, 10) := by
  unfold wide_Pair_Div.f
  rw [if_pos (show p ≥ d from h)]
end Go.Proofs.Ytdnflmnlbcjnlaa.Glue
