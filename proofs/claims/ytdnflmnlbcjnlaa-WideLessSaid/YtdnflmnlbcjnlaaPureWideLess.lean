/- Fractions are compared by their products; for every four numbers. -/
import Derived.Test.YtdnflmnlbcjnlaaPWideLessx2
import Derived.Test.YtdnflmnlbcjnlaaCore
import Derived.OpenShut
namespace Go.Proofs.Ytdnflmnlbcjnlaa.Pure
open Go Go.RowKit Go.Proofs.Ytdnflmnlbcjnlaa.PWideLess Go.Proofs.YtdnflmnlbcjnlaaW.PrintWords Go.Proofs.YtdnflmnlbcjnlaaW.PrintLast Go.Proofs.YtdnflmnlbcjnlaaW.PrintMore Go.Proofs.Ytdnflmnlbcjnlaa.Core

namespace WideLess
theorem awake_f {k : Nat} (hk : 200 ≤ k) : punchcutlaw01_awake.f k = some true := at_rounds (fun k => punchcutlaw01_awake.mono k) hk (by decide +kernel)
theorem mul_f {a b : Int} (ha : 0 ≤ a) (ha2 : a < 18446744073709551616) (hb : 0 ≤ b) (hb2 : b < 18446744073709551616) :
    wide_Mul.f a b = some (a * b / 18446744073709551616, a * b % 18446744073709551616) := by
  unfold wide_Mul.f
  rw [mul_hi ha ha2 hb hb2, u64_wrap]
theorem cmp_f {k : Nat} (hk : 1 ≤ k) (p q r s : Int) : wide_Pair_Compare.f k p q r s = some (if p < r ∨ (p = r ∧ q < s) then (-1 : Int) else if p = r ∧ q = s then 0 else 1) := by
  obtain ⟨k, rfl⟩ : ∃ m, k = m + 1 := ⟨k - 1, by omega⟩
  unfold wide_Pair_Compare.f
  simp only [wide_Pair_Compare.j0]
  by_cases h1 : p < r
  · rw [if_pos h1, if_pos trivial, if_pos (.inl h1)]
  · rw [if_neg h1]
    by_cases h2 : p = r
    · rw [if_pos h2]
      by_cases h3 : q < s
      · have e : (p < r ∨ (p = r ∧ q < s)) := .inr ⟨h2, h3⟩
        rw [if_pos e]; simp [h3]
      · have e : ¬ (p < r ∨ (p = r ∧ q < s)) := by omega
        rw [if_neg e]
        by_cases h4 : q = s <;> simp [h2, h3, h4]
    · have e : ¬ (p < r ∨ (p = r ∧ q < s)) := by omega
      rw [if_neg e]
      simp [h2]
theorem cmp_prod {k : Nat} (hk : 1 ≤ k) (x y : Int) :
    wide_Pair_Compare.f k (x / 18446744073709551616) (x % 18446744073709551616) (y / 18446744073709551616) (y % 18446744073709551616) = some (sgn (x - y)) := by
  rw [cmp_f hk, cmp_sgn]
theorem less_f {k : Nat} (hk : 1 ≤ k) {a b c d : Int} (ha : 0 ≤ a) (ha2 : a < 9223372036854775808) (hb : 0 ≤ b) (hb2 : b < 9223372036854775808)
    (hc : 0 ≤ c) (hc2 : c < 9223372036854775808) (hd : 0 ≤ d) (hd2 : d < 9223372036854775808) : wide_Less.f k a b c d = some (sgn (a * d - c * b)) := by
  unfold wide_Less.f
  rw [wu64 ha (by omega), wu64 hb (by omega), wu64 hc (by omega), wu64 hd (by omega)]
  rw [mul_f ha (by omega) hd (by omega), mul_f hc (by omega) hb (by omega)]
  simp only [Option.bind_some]
  rw [cmp_prod hk]
  rfl
end WideLess
open WideLess in
theorem WideLess : punchcutlaw01_WideLess.Pure := by
  intro a b c d wa wb wc wd
  have ha := bounds_i64 wa
  have hb := bounds_i64 wb
  have hc := bounds_i64 wc
  have hd := bounds_i64 wd
  refine ⟨200, ?_⟩
  unfold punchcutlaw01_WideLess.f
  rw [awake_f (by omega)]
  simp only [Option.bind_some, if_true]
  have a1 := le_mx_left 0 a
  have a2 : mx 0 a ≤ 9223372036854775807 := mx_le (by omega) ha.2
  have b1 := le_mx_left 1 b
  have b2 : mx 1 b ≤ 9223372036854775807 := mx_le (by omega) hb.2
  have c1 := le_mx_left 0 c
  have c2 : mx 0 c ≤ 9223372036854775807 := mx_le (by omega) hc.2
  have d1 := le_mx_left 1 d
  have d2 : mx 1 d ≤ 9223372036854775807 := mx_le (by omega) hd.2
  generalize mx 0 a = a at *
  generalize mx 1 b = b at *
  generalize mx 0 c = c at *
  generalize mx 1 d = d at *
  rw [wu64 (n := a) a1 (by omega), wu64 (n := b) (by omega) (by omega), wu64 (n := c) c1 (by omega), wu64 (n := d) (by omega) (by omega)]
  rw [less_f (by omega) a1 (by omega) (by omega) (by omega) c1 (by omega) (by omega) (by omega), mul_f a1 (by omega) (by omega) (by omega), mul_f c1 (by omega) (by omega) (by omega)]
  rw [less_f (by omega) c1 (by omega) (by omega) (by omega) a1 (by omega) (by omega) (by omega), less_f (a := a) (b := b) (c := a) (d := b) (by omega) a1 (by omega) (by omega) (by omega) a1 (by omega) (by omega) (by omega)]
  simp only [Option.bind_some]
  rw [cmp_prod (by omega)]
  simp only [Option.bind_some]
  have e : sgn (c * b - a * d) = - sgn (a * d - c * b) := by rw [← sgn_opp]; congr 1; omega
  have w0 : -1 ≤ sgn (a * d - c * b) ∧ sgn (a * d - c * b) ≤ 1 := by rcases sgn_cases (a * d - c * b) with ⟨_, e⟩ | ⟨_, e⟩ | ⟨_, e⟩ <;> omega
  have z : sgn (a * b - a * b) = 0 := sgn_zero (by omega)
  rw [if_pos trivial, e, w64 (n := - - sgn (a * d - c * b)) (by omega) (by omega), if_pos (by omega), z]
  rfl

end Go.Proofs.Ytdnflmnlbcjnlaa.Pure
