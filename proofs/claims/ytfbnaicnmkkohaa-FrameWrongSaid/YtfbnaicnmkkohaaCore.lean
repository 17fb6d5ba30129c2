/- Plain facts on whole numbers that the laws of this seat share. Conditions: as each states. -/
import Derived.RowKit
import Derived.Laws.BitsAllLaws
import Derived.Test.YtfbnaicnmkkohaaWMore
namespace Go.Proofs.Ytfbnaicnmkkohaa.Core
open Go Go.RowKit Go.Proofs.YtfbnaicnmkkohaaW.PrintWords Go.Proofs.YtfbnaicnmkkohaaW.PrintMore

/-! ### numbers that fit -/
theorem u64_wrap (n : Int) : IntKind.u64.wrap n = n % 18446744073709551616 := by simp [IntKind.wrap, IntKind.bits, IntKind.signed]
theorem w64 {n : Int} (h1 : -9223372036854775808 ≤ n) (h2 : n < 9223372036854775808) : wrap64 n = n := by unfold wrap64; omega
theorem wu64 {n : Int} (h1 : 0 ≤ n) (h2 : n < 18446744073709551616) : IntKind.u64.wrap n = n := by rw [u64_wrap]; omega
theorem low32 {a : Int} (h1 : 0 ≤ a) (h2 : a < 18446744073709551616) : Go.bits .and .u64 a 4294967295 = a % 4294967296 := by
  rw [u64_and a 4294967295 h1 h2 (by omega) (by omega)]
  have e : a.toNat &&& (4294967295 : Int).toNat = a.toNat % 4294967296 := Nat.and_two_pow_sub_one_eq_mod a.toNat 32
  rw [e]; omega
theorem ediv_mul_le' (a : Int) : a / 4294967296 * 4294967296 ≤ a := Int.ediv_mul_le a (by omega)

/-- a product of two numbers of 64 bits, by halves -/
theorem mul_hi {a b : Int} (ha : 0 ≤ a) (ha2 : a < 18446744073709551616) (hb : 0 ≤ b) (hb2 : b < 18446744073709551616) :
    IntKind.u64.wrap ((IntKind.u64.wrap ((IntKind.u64.wrap ((IntKind.u64.wrap ((a / 4294967296) * (b / 4294967296))) + ((IntKind.u64.wrap ((a / 4294967296) * (Go.bits .and .u64 b 4294967295))) / 4294967296))) + ((IntKind.u64.wrap ((Go.bits .and .u64 a 4294967295) * (b / 4294967296))) / 4294967296))) + ((IntKind.u64.wrap ((IntKind.u64.wrap (((IntKind.u64.wrap ((Go.bits .and .u64 a 4294967295) * (Go.bits .and .u64 b 4294967295))) / 4294967296) + (Go.bits .and .u64 (IntKind.u64.wrap ((a / 4294967296) * (Go.bits .and .u64 b 4294967295))) 4294967295))) + (Go.bits .and .u64 (IntKind.u64.wrap ((Go.bits .and .u64 a 4294967295) * (b / 4294967296))) 4294967295))) / 4294967296))
      = a * b / 18446744073709551616 := by
  rw [low32 ha ha2, low32 hb hb2]
  obtain ⟨a1, ea1⟩ : ∃ x, x = a / 4294967296 := ⟨_, rfl⟩
  obtain ⟨a0, ea0⟩ : ∃ x, x = a % 4294967296 := ⟨_, rfl⟩
  obtain ⟨b1, eb1⟩ : ∃ x, x = b / 4294967296 := ⟨_, rfl⟩
  obtain ⟨b0, eb0⟩ : ∃ x, x = b % 4294967296 := ⟨_, rfl⟩
  rw [← ea1, ← ea0, ← eb1, ← eb0]
  have hA : a = a1 * 4294967296 + a0 := by omega
  have hB : b = b1 * 4294967296 + b0 := by omega
  have r1 : 0 ≤ a1 := by omega
  have r2 : a1 ≤ 4294967295 := by omega
  have r3 : 0 ≤ a0 := by omega
  have r4 : a0 ≤ 4294967295 := by omega
  have r5 : 0 ≤ b1 := by omega
  have r6 : b1 ≤ 4294967295 := by omega
  have r7 : 0 ≤ b0 := by omega
  have r8 : b0 ≤ 4294967295 := by omega
  clear ea1 ea0 eb1 eb0
  have hbd : ∀ x y : Int, 0 ≤ x → x ≤ 4294967295 → 0 ≤ y → y ≤ 4294967295 → 0 ≤ x * y ∧ x * y ≤ 18446744065119617025 := by
    intro x y h1 h2 h3 h4
    refine ⟨Int.mul_nonneg h1 h3, ?_⟩
    have := Int.mul_le_mul h2 h4 h3 (by omega)
    omega
  have hp := hbd a1 b1 r1 r2 r5 r6
  have hq := hbd a1 b0 r1 r2 r7 r8
  have hr := hbd a0 b1 r3 r4 r5 r6
  have hs := hbd a0 b0 r3 r4 r7 r8
  have hab : a * b = a1 * b1 * 18446744073709551616 + (a1 * b0 + a0 * b1) * 4294967296 + a0 * b0 := by
    rw [hA, hB]
    simp only [Int.add_mul, Int.mul_add]
    have e1 : a1 * 4294967296 * (b1 * 4294967296) = a1 * b1 * 18446744073709551616 := by
      rw [Int.mul_assoc, Int.mul_comm 4294967296, Int.mul_assoc b1, ← Int.mul_assoc]; rfl
    have e2 : a1 * 4294967296 * b0 = a1 * b0 * 4294967296 := by rw [Int.mul_assoc, Int.mul_comm 4294967296, ← Int.mul_assoc]
    have e3 : a0 * (b1 * 4294967296) = a0 * b1 * 4294967296 := by rw [← Int.mul_assoc]
    rw [e1, e2, e3]; omega
  have hfin : a * b < 18446744073709551616 * 18446744073709551616 := by
    have h := Int.mul_le_mul (show a ≤ 18446744073709551615 by omega) (show b ≤ 18446744073709551615 by omega) hb (by omega)
    omega
  rw [hab] at hfin ⊢
  generalize a1 * b1 = p at *
  generalize a1 * b0 = q at *
  generalize a0 * b1 = r at *
  generalize a0 * b0 = s at *
  clear hab hA hB hbd r1 r2 r3 r4 r5 r6 r7 r8
  rw [wu64 (n := p) (by omega) (by omega), wu64 (n := q) (by omega) (by omega), wu64 (n := r) (by omega) (by omega), wu64 (n := s) (by omega) (by omega)]
  rw [low32 (a := q) (by omega) (by omega), low32 (a := r) (by omega) (by omega)]
  rw [wu64 (n := p + q / 4294967296) (by omega) (by omega)]
  rw [wu64 (n := p + q / 4294967296 + r / 4294967296) (by omega) (by omega)]
  rw [wu64 (n := s / 4294967296 + q % 4294967296) (by omega) (by omega)]
  rw [wu64 (n := s / 4294967296 + q % 4294967296 + r % 4294967296) (by omega) (by omega)]
  rw [wu64 (by omega) (by omega)]
  omega

/-- below, the same, above -/
def sgn (x : Int) : Int := if x < 0 then -1 else if x = 0 then 0 else 1
theorem sgn_neg {x : Int} (h : x < 0) : sgn x = -1 := by unfold sgn; rw [if_pos h]
theorem sgn_zero {x : Int} (h : x = 0) : sgn x = 0 := by unfold sgn; rw [if_neg (by omega), if_pos h]
theorem sgn_pos {x : Int} (h : 0 < x) : sgn x = 1 := by unfold sgn; rw [if_neg (by omega), if_neg (by omega)]
theorem sgn_cases (x : Int) : (x < 0 ∧ sgn x = -1) ∨ (x = 0 ∧ sgn x = 0) ∨ (0 < x ∧ sgn x = 1) := by
  rcases Int.lt_trichotomy x 0 with h | h | h
  · exact .inl ⟨h, sgn_neg h⟩
  · exact .inr (.inl ⟨h, sgn_zero h⟩)
  · exact .inr (.inr ⟨h, sgn_pos h⟩)
theorem sgn_le_zero {x : Int} : sgn x ≤ 0 ↔ x ≤ 0 := by rcases sgn_cases x with ⟨h, e⟩ | ⟨h, e⟩ | ⟨h, e⟩ <;> omega
theorem sgn_ge_zero {x : Int} : 0 ≤ sgn x ↔ 0 ≤ x := by rcases sgn_cases x with ⟨h, e⟩ | ⟨h, e⟩ | ⟨h, e⟩ <;> omega
theorem sgn_lt_zero {x : Int} : sgn x < 0 ↔ x < 0 := by rcases sgn_cases x with ⟨h, e⟩ | ⟨h, e⟩ | ⟨h, e⟩ <;> omega
theorem sgn_eq_zero {x : Int} : sgn x = 0 ↔ x = 0 := by rcases sgn_cases x with ⟨h, e⟩ | ⟨h, e⟩ | ⟨h, e⟩ <;> omega
theorem sgn_opp (x : Int) : sgn (-x) = - sgn x := by
  rcases sgn_cases x with ⟨h, e⟩ | ⟨h, e⟩ | ⟨h, e⟩ <;> rcases sgn_cases (-x) with ⟨h', e'⟩ | ⟨h', e'⟩ | ⟨h', e'⟩ <;> omega
theorem cmp_sgn (p q : Int) :
    (if p / 18446744073709551616 < q / 18446744073709551616 ∨ (p / 18446744073709551616 = q / 18446744073709551616 ∧ p % 18446744073709551616 < q % 18446744073709551616) then (-1 : Int)
      else if p / 18446744073709551616 = q / 18446744073709551616 ∧ p % 18446744073709551616 = q % 18446744073709551616 then 0 else 1) = sgn (p - q) := by
  rcases sgn_cases (p - q) with ⟨h, e⟩ | ⟨h, e⟩ | ⟨h, e⟩ <;> rw [e]
  · rw [if_pos (by omega)]
  · rw [if_neg (by omega), if_pos (by omega)]
  · rw [if_neg (by omega), if_neg (by omega)]
theorem mul_pos64 {a b : Int} (ha : 0 ≤ a) (hb : 0 ≤ b) : 0 ≤ a * b := Int.mul_nonneg ha hb

theorem mn_le_left (a b : Int) : mn a b ≤ a := by unfold mn; split <;> omega
theorem mn_le_right (a b : Int) : mn a b ≤ b := by unfold mn; split <;> omega
theorem le_mx_left (a b : Int) : a ≤ mx a b := by unfold mx; split <;> omega
theorem le_mx_right (a b : Int) : b ≤ mx a b := by unfold mx; split <;> omega
theorem le_mn {x a b : Int} (h1 : x ≤ a) (h2 : x ≤ b) : x ≤ mn a b := by unfold mn; split <;> omega
theorem mx_le {x a b : Int} (h1 : a ≤ x) (h2 : b ≤ x) : mx a b ≤ x := by unfold mx; split <;> omega
theorem mx_of_le {a b : Int} (h : a ≤ b) : mx a b = b := by unfold mx; split <;> omega
theorem mx_of_ge {a b : Int} (h : b ≤ a) : mx a b = a := by unfold mx; split <;> omega
theorem mn_of_le {a b : Int} (h : a ≤ b) : mn a b = a := by unfold mn; split <;> omega
theorem mn_of_ge {a b : Int} (h : b ≤ a) : mn a b = b := by unfold mn; split <;> omega

/-! ### ink over a pixel -/
def blend (a b c : Int) : Int := (a * (255 - c) + b * c) / 255
theorem blend_sum {a b c m M : Int} (hc : 0 ≤ c) (hc2 : c ≤ 255) (h1 : m ≤ a) (h2 : m ≤ b) (h3 : a ≤ M) (h4 : b ≤ M) :
    m * 255 ≤ a * (255 - c) + b * c ∧ a * (255 - c) + b * c ≤ M * 255 := by
  have e1 := Int.mul_le_mul_of_nonneg_right h1 (show 0 ≤ 255 - c by omega)
  have e2 := Int.mul_le_mul_of_nonneg_right h2 hc
  have e3 := Int.mul_le_mul_of_nonneg_right h3 (show 0 ≤ 255 - c by omega)
  have e4 := Int.mul_le_mul_of_nonneg_right h4 hc
  have e5 : m * (255 - c) + m * c = m * 255 := by rw [← Int.mul_add]; congr 1; omega
  have e6 : M * (255 - c) + M * c = M * 255 := by rw [← Int.mul_add]; congr 1; omega
  omega
theorem blend_between {a b c m M : Int} (hc : 0 ≤ c) (hc2 : c ≤ 255) (h1 : m ≤ a) (h2 : m ≤ b) (h3 : a ≤ M) (h4 : b ≤ M) : m ≤ blend a b c ∧ blend a b c ≤ M := by
  have := blend_sum hc hc2 h1 h2 h3 h4
  unfold blend; omega
theorem blend_go {a b c : Int} (ha : 0 ≤ a) (ha2 : a ≤ 255) (hb : 0 ≤ b) (hb2 : b ≤ 255) (hc : 0 ≤ c) (hc2 : c ≤ 255) :
    wrap64 (Int.tdiv (wrap64 ((wrap64 ((wrap64 (a)) * (wrap64 (255 - (wrap64 (c)))))) + (wrap64 ((wrap64 (b)) * (wrap64 (c)))))) 255) = blend a b c := by
  rw [w64 (n := a) (by omega) (by omega), w64 (n := b) (by omega) (by omega), w64 (n := c) (by omega) (by omega), w64 (n := 255 - c) (by omega) (by omega)]
  have h := blend_sum hc hc2 ha hb ha2 hb2
  have h1 : 0 ≤ a * (255 - c) := Int.mul_nonneg ha (by omega)
  have h2 : 0 ≤ b * c := Int.mul_nonneg hb hc
  rw [w64 (n := a * (255 - c)) (by omega) (by omega), w64 (n := b * c) (by omega) (by omega), w64 (n := a * (255 - c) + b * c) (by omega) (by omega)]
  rw [Int.tdiv_eq_ediv_of_nonneg (by omega), w64 (by omega) (by omega)]
  rfl
theorem blend_zero (a b : Int) : blend a b 0 = a := by unfold blend; omega
theorem blend_full (a b : Int) : blend a b 255 = b := by unfold blend; omega
theorem blend_self {a c : Int} : blend a a c = a := by
  unfold blend
  have : a * (255 - c) + a * c = a * 255 := by rw [← Int.mul_add]; congr 1; omega
  omega

/-! ### how much a number covers -/
def cov (n d lo hi : Int) : Int := if hi * d ≤ n then 255 else if n ≤ lo * d then 0 else (n - lo * d) * 255 / ((hi - lo) * d)
theorem cov_mid {n d lo hi : Int} (hd : 1 ≤ d) (hlo : lo < hi) (h1 : ¬ hi * d ≤ n) (h2 : ¬ n ≤ lo * d) :
    0 ≤ (n - lo * d) * 255 / ((hi - lo) * d) ∧ (n - lo * d) * 255 / ((hi - lo) * d) ≤ 254 := by
  have hp : 0 < (hi - lo) * d := Int.mul_pos (by omega) (by omega)
  have e : (hi - lo) * d = hi * d - lo * d := Int.sub_mul _ _ _
  refine ⟨Int.ediv_nonneg (by omega) (by omega), ?_⟩
  have : (n - lo * d) * 255 / ((hi - lo) * d) < 255 := Int.ediv_lt_of_lt_mul hp (by omega)
  omega
theorem cov_bd {n d lo hi : Int} (hd : 1 ≤ d) (hlo : lo < hi) : 0 ≤ cov n d lo hi ∧ cov n d lo hi ≤ 255 := by
  unfold cov
  split
  · omega
  · split
    · omega
    · have := cov_mid hd hlo ‹_› ‹_›; omega

theorem cov_mono {n m d lo hi : Int} (hd : 1 ≤ d) (hlo : lo < hi) (h : n ≤ m) : cov n d lo hi ≤ cov m d lo hi := by
  have hb := cov_bd (n := m) hd hlo
  have hc := cov_bd (n := n) hd hlo
  unfold cov at *
  have hp : 0 < (hi - lo) * d := Int.mul_pos (by omega) (by omega)
  by_cases c1 : hi * d ≤ m
  · rw [if_pos c1] at *; omega
  · have c2 : ¬ hi * d ≤ n := by omega
    rw [if_neg c1, if_neg c2] at *
    by_cases c3 : n ≤ lo * d
    · rw [if_pos c3]; exact hb.1
    · have c4 : ¬ m ≤ lo * d := by omega
      rw [if_neg c3, if_neg c4]
      exact Int.ediv_le_ediv hp (by omega)
theorem cov_lo {lo hi : Int} (h : lo < hi) : cov lo 1 lo hi = 0 := by unfold cov; rw [if_neg (by omega), if_pos (by omega)]
theorem cov_hi {lo hi : Int} : cov hi 1 lo hi = 255 := by unfold cov; rw [if_pos (by omega)]
theorem blend_more {p c e : Int} (hp : p ≤ 255) (h : c ≤ e) : blend p 255 c ≤ blend p 255 e := by
  unfold blend
  have e1 : p * (255 - c) = p * 255 - p * c := Int.mul_sub _ _ _
  have e2 : p * (255 - e) = p * 255 - p * e := Int.mul_sub _ _ _
  have e3 : (255 - p) * c ≤ (255 - p) * e := Int.mul_le_mul_of_nonneg_left h (by omega)
  have e4 : (255 - p) * c = 255 * c - p * c := Int.sub_mul _ _ _
  have e5 : (255 - p) * e = 255 * e - p * e := Int.sub_mul _ _ _
  exact Int.ediv_le_ediv (by omega) (by omega)

end Go.Proofs.Ytfbnaicnmkkohaa.Core
