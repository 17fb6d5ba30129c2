/- A root of a fraction, so many times, is what the document says; for every three numbers. -/
import Derived.Test.YtccpcojknfnhpaaPRootScaledx5
import Derived.Test.YtccpcojknfnhpaaCore
import Derived.OpenShut
namespace Go.Proofs.Ytccpcojknfnhpaa.Pure
open Go Go.RowKit Go.Proofs.Ytccpcojknfnhpaa.PRootScaled Go.Proofs.YtccpcojknfnhpaaW.PrintWords Go.Proofs.YtccpcojknfnhpaaW.PrintLast Go.Proofs.YtccpcojknfnhpaaW.PrintMore Go.Proofs.Ytccpcojknfnhpaa.Core

namespace RootScaled
theorem awake_f {k : Nat} (hk : 200 ≤ k) : punchcutlaw02_awake.f k = some true := at_rounds (fun k => punchcutlaw02_awake.mono k) hk (by decide +kernel)
theorem mul_f {a b : Int} (ha : 0 ≤ a) (ha2 : a < 18446744073709551616) (hb : 0 ≤ b) (hb2 : b < 18446744073709551616) :
    wide_Mul.f a b = some (a * b / 18446744073709551616, a * b % 18446744073709551616) := by
  unfold wide_Mul.f
  rw [mul_hi ha ha2 hb hb2, u64_wrap]
theorem sqrt_loop (n : Int) (hn : 0 < n) (d : Nat) : ∀ (k : Nat) (lo hi : Int), (hi - lo).toNat = d → 2 * d + 2 ≤ k → 0 ≤ lo → lo < hi → hi ≤ 3037000500 → lo * lo ≤ n → n < hi * hi →
    ∃ r, root_Sqrt.l0 k n lo hi = some r ∧ 0 ≤ r ∧ r ≤ 3037000499 ∧ r * r ≤ n ∧ n < (r + 1) * (r + 1) := by
  induction d using Nat.strongRecOn with
  | _ d ih =>
    intro k lo hi hd hk h0 hlt hhi h1 h2
    obtain ⟨k, rfl⟩ : ∃ m, k = m + 2 := ⟨k - 2, by omega⟩
    simp only [root_Sqrt.l0, root_Sqrt.j1]
    rw [if_pos hn, w64 (n := hi - 1) (by omega) (by omega)]
    by_cases h : lo < hi - 1
    · rw [if_pos (by simpa using h), w64 (n := lo + hi) (by omega) (by omega), Int.tdiv_eq_ediv_of_nonneg (by omega), w64 (n := (lo + hi) / 2) (by omega) (by omega)]
      have m1 : lo < (lo + hi) / 2 := by omega
      have m2 : (lo + hi) / 2 < hi := by omega
      generalize (lo + hi) / 2 = m at *
      have m3 : m * m ≤ 3037000499 * 3037000499 := Int.mul_le_mul (by omega) (by omega) (by omega) (by omega)
      have m4 : 0 ≤ m * m := Int.mul_nonneg (by omega) (by omega)
      rw [w64 (n := m * m) (by omega) (by omega)]
      by_cases c : m * m ≤ n
      · rw [if_pos c]
        exact ih (hi - m).toNat (by omega) k m hi rfl (by omega) (by omega) m2 hhi c h2
      · rw [if_neg c]
        exact ih (m - lo).toNat (by omega) k lo m rfl (by omega) h0 m1 (by omega) h1 (by omega)
    · rw [if_neg (by simpa using h)]
      obtain rfl : hi = lo + 1 := by omega
      exact ⟨lo, rfl, h0, by omega, h1, h2⟩
/-- the square root, rounded down; 0 of one that is less -/
theorem sqrt_f {k : Nat} (hk : 6074001002 ≤ k) {n : Int} (hn2 : n < 9223372036854775808) :
    ∃ r, root_Sqrt.f k n = some r ∧ 0 ≤ r ∧ r ≤ 3037000499 ∧ (n ≤ 0 → r = 0) ∧ (0 ≤ n → r * r ≤ n ∧ n < (r + 1) * (r + 1)) := by
  unfold root_Sqrt.f
  by_cases hn : 0 < n
  · obtain ⟨r, e, h1, h2, h3, h4⟩ := sqrt_loop n hn (3037000500 - 0 : Int).toNat k 0 3037000500 rfl (by omega) (by omega) (by omega) (by omega) (by omega) (by omega)
    exact ⟨r, e, h1, h2, fun h => by omega, fun _ => ⟨h3, h4⟩⟩
  · obtain ⟨k, rfl⟩ : ∃ m, k = m + 2 := ⟨k - 2, by omega⟩
    refine ⟨0, ?_, by omega, by omega, fun _ => rfl, fun h => by omega⟩
    simp only [root_Sqrt.l0, root_Sqrt.j1]
    rw [if_neg hn, if_neg (by simp)]
theorem root_unique {n r s : Int} (hr : 0 ≤ r) (hs : 0 ≤ s) (h1 : r * r ≤ n) (h2 : n < (r + 1) * (r + 1)) (h3 : s * s ≤ n) (h4 : n < (s + 1) * (s + 1)) : r = s := by
  rcases Int.lt_trichotomy r s with h | h | h
  · have := Int.mul_le_mul (show r + 1 ≤ s by omega) (show r + 1 ≤ s by omega) (by omega) (by omega); omega
  · exact h
  · have := Int.mul_le_mul (show s + 1 ≤ r by omega) (show s + 1 ≤ r by omega) (by omega) (by omega); omega
theorem div_loop (d lo N : Nat) (hd : d < 18446744073709551616) (hlo : lo < 18446744073709551616) (h0 : Int) (i : Nat) : ∀ (k out rest : Nat), i < k → i ≤ 64 → rest < d → out % 2 ^ i = 0 → out + 2 ^ i ≤ 18446744073709551616 →
    out * d + rest * 2 ^ i + lo % 2 ^ i = N → wide_Pair_Div.l0 k d out rest ((i : Int) - 1) h0 lo = some (((N / d : Nat) : Int), ((N % d : Nat) : Int), 0) := by
  induction i with
  | zero =>
    intro k out rest hk _ hr _ _ hN
    obtain ⟨k, rfl⟩ : ∃ m, k = m + 1 := ⟨k - 1, by omega⟩
    simp only [wide_Pair_Div.l0]
    rw [if_neg (by omega)]
    have e : N = rest + d * out := by rw [← hN, Nat.mul_comm d]; simp only [Nat.pow_zero, Nat.mod_one]; omega
    have e1 : N / d = out := by rw [e, Nat.add_mul_div_left _ _ (by omega), Nat.div_eq_of_lt hr]; omega
    have e2 : N % d = rest := by rw [e, Nat.add_mul_mod_self_left, Nat.mod_eq_of_lt hr]
    rw [e1, e2]
  | succ i ih =>
    intro k out rest hk hi hr ho ho2 hN
    obtain ⟨k, rfl⟩ : ∃ m, k = m + 1 := ⟨k - 1, by omega⟩
    simp only [wide_Pair_Div.l0]
    have ei : (((i + 1 : Nat) : Int) - 1) = (i : Int) := by omega
    rw [ei, if_pos (by omega), if_pos (by omega), w64 (n := (i : Int) - 1) (by omega) (by omega)]
    have hp64 : 2 ^ (i + 1) ≤ 2 ^ 64 := Nat.pow_le_pow_right (by omega) hi
    have hpow : 2 ^ (i + 1) = 2 * 2 ^ i := by rw [Nat.pow_succ, Nat.mul_comm]
    have hp : 0 < 2 ^ i := Nat.pow_pos (by omega)
    have hmin : min ((i : Int).toNat) IntKind.u64.bits = i := by show min i 64 = i; omega
    have ep : (2 : Int) ^ i = ((2 ^ i : Nat) : Int) := by norm_cast
    have es : shl .u64 1 (i : Int) = ((2 ^ i : Nat) : Int) := by
      unfold shl
      rw [hmin, Int.one_mul, ep, wu64 (by omega) (by omega)]
    have er : shr .u64 (lo : Int) (i : Int) = ((lo / 2 ^ i : Nat) : Int) := by
      unfold shr
      rw [hmin, ep]; norm_cast
    have hb2 : lo / 2 ^ i % 2 < 2 := Nat.mod_lt _ (by omega)
    have hll : lo / 2 ^ i ≤ lo := Nat.div_le_self _ _
    have ea : Go.bits .and .u64 (shr .u64 (lo : Int) (i : Int)) 1 = ((lo / 2 ^ i % 2 : Nat) : Int) := by
      rw [er]
      have := u64_and_nat (lo / 2 ^ i) 1 (by omega) (by omega)
      rw [Nat.and_one_is_mod] at this
      exact this
    have hmod : lo % 2 ^ (i + 1) = lo % 2 ^ i + 2 ^ i * (lo / 2 ^ i % 2) := Nat.mod_pow_succ
    rw [ea, es]
    generalize hbit : lo / 2 ^ i % 2 = bit at *
    have ew : IntKind.u64.wrap ((rest : Int) * 2) = ((rest * 2 % 18446744073709551616 : Nat) : Int) := by rw [u64_wrap]; omega
    have ej : Go.bits .or .u64 (IntKind.u64.wrap ((rest : Int) * 2)) (bit : Int) = ((rest * 2 % 18446744073709551616 + bit : Nat) : Int) := by
      rw [ew, u64_or_nat _ _ (Nat.mod_lt _ (by omega)) (by omega)]
      rw [nat_join 1 _ _ (by omega) (by omega)]
    have eo : Go.bits .or .u64 (out : Int) ((2 ^ i : Nat) : Int) = ((out + 2 ^ i : Nat) : Int) := by
      rw [u64_or_nat _ _ (by omega) (by omega)]
      rw [nat_join (i + 1) _ _ ho (by omega)]
    rw [ej, eo]
    have ho3 : (out + 2 ^ i) % 2 ^ i = 0 := by
      rw [Nat.add_mod_right]
      have : out % 2 ^ i = out % 2 ^ (i + 1) % 2 ^ i := by rw [Nat.mod_mod_of_dvd _ (by rw [hpow]; exact Nat.dvd_mul_left _ _)]
      rw [this, ho, Nat.zero_mod]
    have ho4 : out % 2 ^ i = 0 := by rw [Nat.add_mod_right] at ho3; exact ho3
    have hN2 : out * d + (2 * rest + bit) * 2 ^ i + lo % 2 ^ i = N := by
      rw [← hN, hmod, hpow, Nat.add_mul]
      have e1 : rest * (2 * 2 ^ i) = 2 * rest * 2 ^ i := by rw [← Nat.mul_assoc, Nat.mul_comm rest 2]
      have e2 : 2 ^ i * bit = bit * 2 ^ i := Nat.mul_comm _ _
      rw [e1, e2]; omega
    -- what is left where the number goes in
    have hin : d ≤ 2 * rest + bit → wide_Pair_Div.l0 k d ((out + 2 ^ i : Nat) : Int) ((2 * rest + bit - d : Nat) : Int) ((i : Int) - 1) h0 lo = some (((N / d : Nat) : Int), ((N % d : Nat) : Int), 0) := by
      intro h
      refine ih k (out + 2 ^ i) (2 * rest + bit - d) (by omega) (by omega) (by omega) ho3 (by omega) ?_
      rw [← hN2, Nat.add_mul, Nat.sub_mul]
      have e3 : d * 2 ^ i ≤ (2 * rest + bit) * 2 ^ i := Nat.mul_le_mul_right _ h
      have e4 : 2 ^ i * d = d * 2 ^ i := Nat.mul_comm _ _
      rw [e4]; omega
    by_cases htop : ((rest : Int) / 9223372036854775808) = 1
    · rw [if_pos htop]
      have e5 : IntKind.u64.wrap (((rest * 2 % 18446744073709551616 + bit : Nat) : Int) - (d : Int)) = ((2 * rest + bit - d : Nat) : Int) := by rw [u64_wrap]; omega
      rw [e5]
      exact hin (by omega)
    · rw [if_neg htop]
      have e6 : rest * 2 % 18446744073709551616 = 2 * rest := by omega
      rw [e6]
      by_cases hge : ((2 * rest + bit : Nat) : Int) ≥ (d : Int)
      · rw [if_pos hge]
        have e5 : IntKind.u64.wrap (((2 * rest + bit : Nat) : Int) - (d : Int)) = ((2 * rest + bit - d : Nat) : Int) := by rw [u64_wrap]; omega
        rw [e5]
        exact hin (by omega)
      · rw [if_neg hge]
        exact ih k out (2 * rest + bit) (by omega) (by omega) (by omega) ho4 (by omega) hN2
theorem div_f {k : Nat} (hk : 65 ≤ k) {p q d : Int} (hp : 0 ≤ p) (hpd : p < d) (hq : 0 ≤ q) (hq2 : q < 18446744073709551616) (hd2 : d < 18446744073709551616) :
    wide_Pair_Div.f k p q d = some ((p * 18446744073709551616 + q) / d, (p * 18446744073709551616 + q) % d, 0) := by
  unfold wide_Pair_Div.f
  rw [if_neg (by omega)]
  obtain ⟨a, rfl⟩ := Int.eq_ofNat_of_zero_le hp
  obtain ⟨b, rfl⟩ := Int.eq_ofNat_of_zero_le hq
  obtain ⟨c, rfl⟩ := Int.eq_ofNat_of_zero_le (show 0 ≤ d by omega)
  have h := div_loop c b (a * 18446744073709551616 + b) (by omega) (by omega) (a : Int) 64 k 0 a (by omega) (by omega) (by omega) (by simp) (by omega) (by
    have : b % 2 ^ 64 = b := Nat.mod_eq_of_lt (by omega)
    rw [this]; omega)
  have e : ((64 : Nat) : Int) - 1 = 63 := rfl
  rw [e] at h
  rw [show ((0 : Nat) : Int) = 0 from rfl] at h
  rw [h]
  rfl
theorem div_over {k : Nat} {p q d : Int} (h : d ≤ p) : wide_Pair_Div.f k p q d = some (0, 0, 10) := by
  unfold wide_Pair_Div.f
  rw [if_pos (show p ≥ d from h)]
theorem scaled_bad {k : Nat} (hk : 1 ≤ k) {n d t : Int} (h : t < 0 ∨ 1048576 < t ∨ n < 0 ∨ d < 1) : root_Scaled.f k n d t = some (-1) := by
  obtain ⟨k, rfl⟩ : ∃ m, k = m + 1 := ⟨k - 1, by omega⟩
  unfold root_Scaled.f
  simp only [root_Scaled.j0]
  by_cases h1 : t < 0
  · rw [if_pos h1, if_pos trivial]
  · rw [if_neg h1]
    by_cases h2 : t > 1048576
    · rw [if_pos h2, if_pos trivial]
    · rw [if_neg h2]
      by_cases h3 : n < 0
      · rw [if_pos h3, if_pos trivial]
      · rw [if_neg h3, if_pos (by simp; omega)]
theorem scaled_go {k : Nat} {n d t : Int} (h1 : 0 ≤ t) (h2 : t ≤ 1048576) (h3 : 0 ≤ n) (h4 : n < 9223372036854775808) (h5 : 1 ≤ d) (h6 : d < 9223372036854775808) :
    root_Scaled.f (k + 1) n d t = (wide_Pair_Div.f k (n * (t * t) / 18446744073709551616) (n * (t * t) % 18446744073709551616) d).bind fun b =>
      if b.2.2 = 0 then if b.1 > 4611686018427387904 then some (-1) else (root_Sqrt.f k (wrap64 b.1)).bind fun r => some r else some (-1) := by
  unfold root_Scaled.f
  simp only [root_Scaled.j0]
  have b1 : 0 ≤ t * t := Int.mul_nonneg h1 h1
  have b2 : t * t ≤ 1048576 * 1048576 := Int.mul_le_mul h2 h2 h1 (by omega)
  rw [if_neg (by omega), if_neg (by omega), if_neg (by omega), if_neg (by simp; omega)]
  rw [w64 (n := t * t) (by omega) (by omega), wu64 (n := n) h3 (by omega), wu64 (n := t * t) b1 (by omega), wu64 (n := d) (by omega) (by omega)]
  rw [mul_f h3 (by omega) b1 (by omega)]
  rfl
theorem scaled_over {k : Nat} (hk : 1 ≤ k) {n d t : Int} (h1 : 0 ≤ t) (h2 : t ≤ 1048576) (h3 : 0 ≤ n) (h4 : n < 9223372036854775808) (h5 : 1 ≤ d) (h6 : d < 9223372036854775808)
    (h : d ≤ n * (t * t) / 18446744073709551616) : root_Scaled.f k n d t = some (-1) := by
  obtain ⟨k, rfl⟩ : ∃ m, k = m + 1 := ⟨k - 1, by omega⟩
  rw [scaled_go h1 h2 h3 h4 h5 h6, div_over h]
  simp
theorem scaled_div {k : Nat} (hk : 65 ≤ k) {n d t : Int} (h1 : 0 ≤ t) (h3 : 0 ≤ n) (h5 : 1 ≤ d) (h6 : d < 9223372036854775808) (h : n * (t * t) / 18446744073709551616 < d) :
    wide_Pair_Div.f k (n * (t * t) / 18446744073709551616) (n * (t * t) % 18446744073709551616) d = some (n * (t * t) / d, n * (t * t) % d, 0) := by
  have b : 0 ≤ n * (t * t) := Int.mul_nonneg h3 (Int.mul_nonneg h1 h1)
  rw [div_f hk (by omega) h (by omega) (by omega) (by omega)]
  have e : n * (t * t) / 18446744073709551616 * 18446744073709551616 + n * (t * t) % 18446744073709551616 = n * (t * t) := by omega
  rw [e]
theorem scaled_big {k : Nat} (hk : 66 ≤ k) {n d t : Int} (h1 : 0 ≤ t) (h2 : t ≤ 1048576) (h3 : 0 ≤ n) (h4 : n < 9223372036854775808) (h5 : 1 ≤ d) (h6 : d < 9223372036854775808)
    (h : n * (t * t) / 18446744073709551616 < d) (hq : 4611686018427387904 < n * (t * t) / d) : root_Scaled.f k n d t = some (-1) := by
  obtain ⟨k, rfl⟩ : ∃ m, k = m + 1 := ⟨k - 1, by omega⟩
  rw [scaled_go h1 h2 h3 h4 h5 h6, scaled_div (by omega) h1 h3 h5 h6 h]
  simp only [Option.bind_some]
  rw [if_pos trivial, if_pos (show n * (t * t) / d > 4611686018427387904 from hq)]
theorem scaled_ok {k : Nat} (hk : 6074001003 ≤ k) {n d t : Int} (h1 : 0 ≤ t) (h2 : t ≤ 1048576) (h3 : 0 ≤ n) (h4 : n < 9223372036854775808) (h5 : 1 ≤ d) (h6 : d < 9223372036854775808)
    (h : n * (t * t) / 18446744073709551616 < d) (hq : n * (t * t) / d ≤ 4611686018427387904) :
    ∃ r, root_Scaled.f k n d t = some r ∧ 0 ≤ r ∧ r ≤ 2147483648 ∧ r * r ≤ n * (t * t) / d ∧ n * (t * t) / d < (r + 1) * (r + 1) := by
  obtain ⟨k, rfl⟩ : ∃ m, k = m + 1 := ⟨k - 1, by omega⟩
  have b : 0 ≤ n * (t * t) / d := Int.ediv_nonneg (Int.mul_nonneg h3 (Int.mul_nonneg h1 h1)) (by omega)
  rw [scaled_go h1 h2 h3 h4 h5 h6, scaled_div (by omega) h1 h3 h5 h6 h]
  simp only [Option.bind_some]
  rw [if_pos trivial, if_neg (show ¬ n * (t * t) / d > 4611686018427387904 by omega), w64 (by omega) (by omega)]
  generalize n * (t * t) / d = q at *
  obtain ⟨r, e, r1, r2, _, r3⟩ := sqrt_f (k := k) (by omega) (n := q) (by omega)
  have r3 := r3 b
  rw [e]
  refine ⟨r, rfl, r1, ?_, r3⟩
  by_cases c : r ≤ 2147483648
  · exact c
  · have := Int.mul_le_mul (show 2147483649 ≤ r by omega) (show 2147483649 ≤ r by omega) (by omega) (by omega); omega
/-- one fraction of the row, at one number of times -/
theorem one {k : Nat} (hk : 6074001100 ≤ k) (x0 x1 t : Int) (ts : List Int) (a b : Int) (l : List S28) (j : Int) (n d : Int) (h0 : 0 ≤ j) (hj : j < (l.length : Int)) (hl : (l.length : Int) ≤ 1000)
    (hr : rd_T28 l j = ⟨n, d⟩) (hn : n < 9223372036854775808) (hd : d < 9223372036854775808)
    (next : ∀ k' : Nat, k - 3 ≤ k' → punchcutlaw02_RootScaled.l1 k' x0 x1 t ts a b l (l.length : Int) (j + 1) = some true) :
    punchcutlaw02_RootScaled.l1 k x0 x1 t ts a b l (l.length : Int) j = some true := by
  obtain ⟨k, rfl⟩ : ∃ m, k = m + 1 := ⟨k - 1, by omega⟩
  conv => lhs; simp only [punchcutlaw02_RootScaled.l1]
  rw [if_pos hj, if_pos h0, if_pos hj, hr]
  simp only
  have hw : wrap64 (j + 1) = j + 1 := w64 (by omega) (by omega)
  by_cases hbad : t < 0 ∨ 1048576 < t ∨ n < 0 ∨ d < 1
  · rw [scaled_bad (by omega) hbad]
    simp only [Option.bind_some]
    obtain ⟨k, rfl⟩ : ∃ m, k = m + 1 := ⟨k - 1, by omega⟩
    have go : punchcutlaw02_RootScaled.j2 (k + 1) x0 x1 t (-1) ts a b l (l.length : Int) j true n d = some true := by
      simp only [punchcutlaw02_RootScaled.j2]
      rw [if_pos trivial, if_pos trivial, hw]
      exact next k (by omega)
    by_cases c1 : t < 0
    · rw [if_pos c1]; exact go
    · rw [if_neg c1]
      by_cases c2 : t > 1048576
      · rw [if_pos c2]; exact go
      · rw [if_neg c2]
        by_cases c3 : n < 0
        · rw [if_pos c3]; exact go
        · rw [if_neg c3, decide_eq_true (by omega)]; exact go
  · have h1 : 0 ≤ t := by omega
    have h2 : t ≤ 1048576 := by omega
    have h3 : 0 ≤ n := by omega
    have h5 : 1 ≤ d := by omega
    have b1 : 0 ≤ t * t := Int.mul_nonneg h1 h1
    have b2 : t * t ≤ 1048576 * 1048576 := Int.mul_le_mul h2 h2 h1 (by omega)
    have f1 : ¬ t < 0 := by omega
    have f2 : ¬ t > 1048576 := by omega
    have f3 : ¬ n < 0 := by omega
    have f4 : ¬ d < 1 := by omega
    simp only [f1, f2, f3, f4, if_false, decide_false]
    obtain ⟨k, rfl⟩ : ∃ m, k = m + 1 := ⟨k - 1, by omega⟩
    obtain ⟨k, rfl⟩ : ∃ m, k = m + 1 := ⟨k - 1, by omega⟩
    simp only [punchcutlaw02_RootScaled.j2]
    rw [w64 (n := t * t) (by omega) (by omega), wu64 (n := n) h3 (by omega), wu64 (n := t * t) b1 (by omega), wu64 (n := d) (by omega) (by omega)]
    rw [mul_f h3 (by omega) b1 (by omega)]
    simp only [Option.bind_some]
    by_cases c1 : d ≤ n * (t * t) / 18446744073709551616
    · rw [scaled_over (by omega) h1 h2 h3 hn h5 hd c1]
      simp only [Option.bind_some]
      rw [if_neg (by simp), div_over c1]
      simp only [Option.bind_some]
      rw [if_neg (by omega)]
      simp only [punchcutlaw02_RootScaled.j3]
      rw [if_pos trivial, if_pos trivial, hw]
      exact next k (by omega)
    · have c2 : n * (t * t) / 18446744073709551616 < d := by omega
      by_cases c3 : 4611686018427387904 < n * (t * t) / d
      · rw [scaled_big (by omega) h1 h2 h3 hn h5 hd c2 c3]
        simp only [Option.bind_some]
        rw [if_neg (by simp), scaled_div (by omega) h1 h3 h5 hd c2]
        simp only [Option.bind_some]
        rw [if_pos trivial, decide_eq_true (show n * (t * t) / d > 4611686018427387904 from c3)]
        simp only [punchcutlaw02_RootScaled.j3]
        rw [if_pos trivial, if_pos trivial, hw]
        exact next k (by omega)
      · obtain ⟨r, e, r1, r2, r3, r4⟩ := scaled_ok (k := k + 1 + 1) (by omega) h1 h2 h3 hn h5 hd c2 (by omega)
        rw [e]
        simp only [Option.bind_some]
        rw [if_neg (by simp), scaled_div (by omega) h1 h3 h5 hd c2]
        simp only [Option.bind_some]
        rw [if_pos trivial, decide_eq_false (show ¬ n * (t * t) / d > 4611686018427387904 from c3)]
        simp only [punchcutlaw02_RootScaled.j3]
        have s1 : r * r ≤ 2147483648 * 2147483648 := Int.mul_le_mul r2 r2 r1 (by omega)
        have s2 : 0 ≤ r * r := Int.mul_nonneg r1 r1
        have s3 : (r + 1) * (r + 1) ≤ 2147483649 * 2147483649 := Int.mul_le_mul (by omega) (by omega) (by omega) (by omega)
        have s4 : 0 ≤ (r + 1) * (r + 1) := Int.mul_nonneg (by omega) (by omega)
        rw [w64 (n := r + 1) (by omega) (by omega), wu64 (n := r) r1 (by omega), wu64 (n := r + 1) (by omega) (by omega), wu64 (n := r * r) s2 (by omega), wu64 (n := (r + 1) * (r + 1)) s4 (by omega)]
        rw [if_neg (by simp), if_neg (by omega), if_neg (by omega), if_neg (by omega), if_neg (by omega), hw]
        exact next k (by omega)
/-- one number of times -/
theorem times {k : Nat} (hk : 6074001200 ≤ k) (x0 x1 : Int) (h0 : -9223372036854775808 ≤ x0 ∧ x0 ≤ 9223372036854775807) (h1 : -9223372036854775808 ≤ x1 ∧ x1 ≤ 9223372036854775807) (ts : List Int) (j : Int) (hj0 : 0 ≤ j) (hj : j < (ts.length : Int)) (hl : (ts.length : Int) ≤ 1000)
    (next : ∀ k' : Nat, k - 20 ≤ k' → punchcutlaw02_RootScaled.l0 k' x0 x1 ts (ts.length : Int) (j + 1) = some true) :
    punchcutlaw02_RootScaled.l0 k x0 x1 ts (ts.length : Int) j = some true := by
  obtain ⟨k, rfl⟩ : ∃ m, k = m + 1 := ⟨k - 1, by omega⟩
  conv => lhs; simp only [punchcutlaw02_RootScaled.l0]
  rw [if_pos hj, if_pos hj0, if_pos hj]
  simp only [Option.bind_some]
  have m1 := le_mx_left 0 x0
  have m2 : mx 0 x0 ≤ 9223372036854775807 := mx_le (by omega) h0.2
  have m3 : mx 1 x1 ≤ 9223372036854775807 := mx_le (by omega) h1.2
  refine one (by omega) x0 x1 _ ts _ j _ 0 x0 x1 (by omega) (by simp) (by simp) rfl (by omega) (by omega) fun k1 hk1 => ?_
  refine one (by omega) x0 x1 _ ts _ j _ (0 + 1) (mx 0 x0 / 1048576) (mx 1 x1) (by omega) (by simp) (by simp) rfl (by omega) (by omega) fun k2 hk2 => ?_
  obtain ⟨k2, rfl⟩ : ∃ m, k2 = m + 1 := ⟨k2 - 1, by omega⟩
  simp only [punchcutlaw02_RootScaled.l1]
  rw [if_neg (by simp), w64 (n := j + 1) (by omega) (by omega)]
  exact next k2 (by omega)
end RootScaled
open RootScaled in
theorem RootScaled : punchcutlaw02_RootScaled.Pure := by
  intro n d t wn wd _
  have hn := bounds_i64 wn
  have hd := bounds_i64 wd
  obtain ⟨k, hk⟩ : ∃ k : Nat, 6074002000 ≤ k := ⟨6074002000, Nat.le_refl _⟩
  refine ⟨k, ?_⟩
  unfold punchcutlaw02_RootScaled.f
  rw [awake_f (by omega)]
  simp only [Option.bind_some, if_true]
  refine times (by omega) n d hn hd _ 0 (by omega) (by simp) (by simp) fun k1 hk1 => ?_
  refine times (by omega) n d hn hd _ (0 + 1) (by omega) (by simp) (by simp) fun k2 hk2 => ?_
  obtain ⟨k2, rfl⟩ : ∃ m, k2 = m + 1 := ⟨k2 - 1, by omega⟩
  simp only [punchcutlaw02_RootScaled.l0]
  rw [if_neg (by simp)]

end Go.Proofs.Ytccpcojknfnhpaa.Pure
