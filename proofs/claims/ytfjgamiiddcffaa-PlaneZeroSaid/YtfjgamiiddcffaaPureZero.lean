/- PlaneZero: points of an edge have no distance; nearer ones than its ends none that is greater. Conditions: none. -/
import Derived.Test.YtfjgamiiddcffaaWalkZero
namespace Go.Proofs.Ytfjgamiiddcffaa.PureZero
open Go Go.RowKit Go.Lib Go.Proofs.YtfjgamiiddcffaaW.PrintWords Go.Proofs.YtfjgamiiddcffaaW.PrintLast Go.Proofs.YtfjgamiiddcffaaW.PrintMore Go.Proofs.Ytfjgamiiddcffaa.PPlaneZero Go.Proofs.Ytfjgamiiddcffaa.WalkSquare Go.Proofs.Ytfjgamiiddcffaa.Plane Go.Proofs.Ytfjgamiiddcffaa.Core Go.Proofs.Ytfjgamiiddcffaa.WalkZero
set_option linter.unusedVariables false
set_option linter.unusedSimpArgs false
theorem mul_f {a b : Int} (ha : 0 ≤ a) (ha2 : a < 18446744073709551616) (hb : 0 ≤ b) (hb2 : b < 18446744073709551616) :
    wide_Mul.f a b = some (a * b / 18446744073709551616, a * b % 18446744073709551616) := by
  unfold wide_Mul.f
  rw [mul_hi ha ha2 hb hb2, u64_wrap]

theorem cmp_f {k : Nat} (hk : 1 ≤ k) (p q r s : Int) : wide_Pair_Compare.f k p q r s = some (if p < r ∨ (p = r ∧ q < s) then (-1 : Int) else if p = r ∧ q = s then 0 else 1) := by
  obtain ⟨k, rfl⟩ : ∃ m, k = m + 1 := ⟨k - 1, by omega⟩
  unfold wide_Pair_Compare.f
  simp only [wide_Pair_Compare.j0]
  by_cases h1 : p < r
  · rw [if_pos h1, if_pos trivial, if_pos (.inl h1)]
  · rw [if_neg h1]
    by_cases h2 : p = r
    · rw [if_pos h2]
      by_cases h3 : q < s
      · have e : (p < r ∨ (p = r ∧ q < s)) := .inr ⟨h2, h3⟩
        rw [if_pos e]; simp [h3]
      · have e : ¬ (p < r ∨ (p = r ∧ q < s)) := by omega
        rw [if_neg e]
        by_cases h4 : q = s <;> simp [h2, h3, h4]
    · have e : ¬ (p < r ∨ (p = r ∧ q < s)) := by omega
      rw [if_neg e]
      simp [h2]
theorem cmp_prod {k : Nat} (hk : 1 ≤ k) (x y : Int) :
    wide_Pair_Compare.f k (x / 18446744073709551616) (x % 18446744073709551616) (y / 18446744073709551616) (y % 18446744073709551616) = some (sgn (x - y)) := by
  rw [cmp_f hk, cmp_sgn]

theorem less_f {k : Nat} (hk : 1 ≤ k) {a b c d : Int} (ha : 0 ≤ a) (ha2 : a < 9223372036854775808) (hb : 0 ≤ b) (hb2 : b < 9223372036854775808)
    (hc : 0 ≤ c) (hc2 : c < 9223372036854775808) (hd : 0 ≤ d) (hd2 : d < 9223372036854775808) : wide_Less.f k a b c d = some (sgn (a * d - c * b)) := by
  unfold wide_Less.f
  rw [wu64 ha (by omega), wu64 hb (by omega), wu64 hc (by omega), wu64 hd (by omega)]
  rw [mul_f ha (by omega) hd (by omega), mul_f hc (by omega) hb (by omega)]
  simp only [Option.bind_some]
  rw [cmp_prod hk]
  rfl

theorem rcmp_f {k : Nat} (hk : 1 ≤ k) {a b c d : Int} (ha : 0 ≤ a) (ha2 : a < 9223372036854775808) (hb : 0 ≤ b) (hb2 : b < 9223372036854775808)
    (hc : 0 ≤ c) (hc2 : c < 9223372036854775808) (hd : 0 ≤ d) (hd2 : d < 9223372036854775808) : root_Compare.f k a b c d = some (sgn (a * d - c * b)) := by
  unfold root_Compare.f
  rw [less_f hk ha ha2 hb hb2 hc hc2 hd hd2]
  rfl


theorem i16b {n : Int} (h : (Lit.int .i16 n).wf = true) : In 32768 n := by
  have := bounds_i16 h; unfold In; omega
theorem tm {n : Int} : In 8192 (Int.tmod n 8193) := by
  unfold In
  have h1 := Int.tmod_lt_of_pos n (show (0 : Int) < 8193 by decide)
  have h2 := Int.lt_tmod_of_pos n (show (0 : Int) < 8193 by decide)
  omega
theorem small_f {a b : Int} (ha : In 32768 a) (hb : In 32768 b) : punchcutlaw03_Place_Small.f a b = some (Int.tmod a 8193, Int.tmod b 8193) := by
  unfold In at *
  unfold punchcutlaw03_Place_Small.f; rw [w64 (by omega) (by omega), w64 (by omega) (by omega)]
theorem edge_f {a b c d : Int} (ha : In 32768 a) (hb : In 32768 b) (hc : In 32768 c) (hd : In 32768 d) : punchcutlaw03_Edge.f a b c d = some (Int.tmod a 8193, Int.tmod b 8193, Int.tmod c 8193, Int.tmod d 8193) := by
  unfold punchcutlaw03_Edge.f; rw [small_f ha hb, small_f hc hd]; rfl
theorem mmm (a b c d : Int) : (a * b) * (c * d) = (a * c) * (b * d) := by rw [Int.mul_assoc, Int.mul_left_comm b c d, ← Int.mul_assoc]
/-- the square of a cross product is no greater than the squares' product -/
theorem lagrange (p q r s : Int) : (q * r - p * s) * (q * r - p * s) ≤ (p * p + q * q) * (r * r + s * s) := by
  have n := sqn (p * r + q * s)
  have e1 : (q * r) * (q * r) = (q * q) * (r * r) := mmm ..
  have e2 : (p * s) * (p * s) = (p * p) * (s * s) := mmm ..
  have e3 : (q * r) * (p * s) = (p * q) * (r * s) := by rw [mmm, Int.mul_comm q p]
  have e4 : (p * s) * (q * r) = (p * q) * (r * s) := by rw [mmm, Int.mul_comm s r]
  have e5 : (p * r) * (p * r) = (p * p) * (r * r) := mmm ..
  have e6 : (q * s) * (q * s) = (q * q) * (s * s) := mmm ..
  have e7 : (p * r) * (q * s) = (p * q) * (r * s) := mmm ..
  have e8 : (q * s) * (p * r) = (p * q) * (r * s) := by rw [mmm, Int.mul_comm q p, Int.mul_comm s r]
  simp only [Int.add_mul, Int.mul_add, Int.sub_mul, Int.mul_sub] at n ⊢
  rw [e5, e6, e7, e8] at n
  rw [e1, e2, e3, e4]
  omega
theorem at_a (ax ay bx bY : Int) : sq ax ay bx bY ax ay = (0, 1) := by
  unfold sq sqd; simp
theorem at_b (ax ay bx bY : Int) : sq ax ay bx bY bx bY = (0, 1) := by
  unfold sq
  generalize bx - ax = wx
  generalize bY - ay = wy
  have n1 := sqn wx
  have n2 := sqn wy
  unfold sqd
  by_cases c1 : wx * wx + wy * wy ≤ 0
  · have hx : wx * wx = 0 := by omega
    have hy : wy * wy = 0 := by omega
    rw [if_pos c1, hx, hy]; rfl
  · rw [if_neg c1, if_pos (Int.le_refl _)]; simp
/-- nearer points have no greater distance -/
theorem near (wx wy k : Int) (hk0 : 0 ≤ k) (hk : k ≤ 255) (hx : In 16384 wx) (hy : In 16384 wy) :
    0 ≤ (sqd wx wy (Int.tdiv (wx * k) 255) (Int.tdiv (wy * k) 255) (Int.tdiv (wx * k) 255 - wx) (Int.tdiv (wy * k) 255 - wy)).1 ∧ 1 ≤ (sqd wx wy (Int.tdiv (wx * k) 255) (Int.tdiv (wy * k) 255) (Int.tdiv (wx * k) 255 - wx) (Int.tdiv (wy * k) 255 - wy)).2 ∧
    (sqd wx wy (Int.tdiv (wx * k) 255) (Int.tdiv (wy * k) 255) (Int.tdiv (wx * k) 255 - wx) (Int.tdiv (wy * k) 255 - wy)).1 ≤ 2 * (sqd wx wy (Int.tdiv (wx * k) 255) (Int.tdiv (wy * k) 255) (Int.tdiv (wx * k) 255 - wx) (Int.tdiv (wy * k) 255 - wy)).2 ∧
    (sqd wx wy (Int.tdiv (wx * k) 255) (Int.tdiv (wy * k) 255) (Int.tdiv (wx * k) 255 - wx) (Int.tdiv (wy * k) 255 - wy)).2 < 1000000000 := by
  have px := WalkZero.part (w := wx) hk0 hk
  have py := WalkZero.part (w := wy) hk0 hk
  have ex := Int.mul_tdiv_add_tmod (wx * k) 255
  have ey := Int.mul_tdiv_add_tmod (wy * k) 255
  have rx1 := Int.tmod_lt_of_pos (wx * k) (show (0 : Int) < 255 by decide)
  have rx2 := Int.lt_tmod_of_pos (wx * k) (show (0 : Int) < 255 by decide)
  have ry1 := Int.tmod_lt_of_pos (wy * k) (show (0 : Int) < 255 by decide)
  have ry2 := Int.lt_tmod_of_pos (wy * k) (show (0 : Int) < 255 by decide)
  generalize Int.tdiv (wx * k) 255 = tx at *
  generalize Int.tdiv (wy * k) 255 = ty at *
  generalize Int.tmod (wx * k) 255 = rx at *
  generalize Int.tmod (wy * k) 255 = ry at *
  have ax : 0 ≤ wx * tx ∧ wx * tx ≤ wx * wx := by
    rcases px with ⟨h1, h2, h3⟩ | ⟨h1, h2, h3⟩
    · exact ⟨Int.mul_nonneg h1 h2, Int.mul_le_mul_of_nonneg_left h3 h1⟩
    · have m1 := Int.mul_nonneg (show 0 ≤ -wx by omega) (show 0 ≤ -tx by omega)
      have m2 := Int.mul_nonneg (show 0 ≤ -wx by omega) (show 0 ≤ tx - wx by omega)
      rw [Int.neg_mul_neg] at m1
      rw [Int.neg_mul, Int.mul_sub] at m2
      omega
  have ay : 0 ≤ wy * ty ∧ wy * ty ≤ wy * wy := by
    rcases py with ⟨h1, h2, h3⟩ | ⟨h1, h2, h3⟩
    · exact ⟨Int.mul_nonneg h1 h2, Int.mul_le_mul_of_nonneg_left h3 h1⟩
    · have m1 := Int.mul_nonneg (show 0 ≤ -wy by omega) (show 0 ≤ -ty by omega)
      have m2 := Int.mul_nonneg (show 0 ≤ -wy by omega) (show 0 ≤ ty - wy by omega)
      rw [Int.neg_mul_neg] at m1
      rw [Int.neg_mul, Int.mul_sub] at m2
      omega
  have bx := mb hx.1 hx.2 hx.1 hx.2
  have bY := mb hy.1 hy.2 hy.1 hy.2
  unfold sqd
  by_cases c1 : wx * tx + wy * ty ≤ 0
  · rw [if_pos c1]
    have zx : tx = 0 := by
      rcases Int.mul_eq_zero.mp (show wx * tx = 0 by omega) with h | h
      · omega
      · exact h
    have zy : ty = 0 := by
      rcases Int.mul_eq_zero.mp (show wy * ty = 0 by omega) with h | h
      · omega
      · exact h
    rw [zx, zy]; decide
  · rw [if_neg c1]
    by_cases c2 : wx * wx + wy * wy ≤ wx * tx + wy * ty
    · rw [if_pos c2]
      have zx : tx - wx = 0 := by
        rcases Int.mul_eq_zero.mp (show wx * (tx - wx) = 0 by rw [Int.mul_sub]; omega) with h | h
        · omega
        · exact h
      have zy : ty - wy = 0 := by
        rcases Int.mul_eq_zero.mp (show wy * (ty - wy) = 0 by rw [Int.mul_sub]; omega) with h | h
        · omega
        · exact h
      rw [zx, zy]; decide
    · rw [if_neg c2]
      have n1 := sqn (wx * ty - wy * tx)
      have key : (wx * ty - wy * tx) * (wx * ty - wy * tx) ≤ 2 * (wx * wx + wy * wy) := by
        have A : wx * (255 * ty + ry) = wx * (wy * k) := by rw [ey]
        have B : wy * (255 * tx + rx) = wy * (wx * k) := by rw [ex]
        rw [Int.mul_add, Int.mul_left_comm wx 255 ty, Int.mul_left_comm wx wy k] at A
        rw [Int.mul_add, Int.mul_left_comm wy 255 tx] at B
        have h255 : wy * rx - wx * ry = 255 * (wx * ty - wy * tx) := by omega
        have L := lagrange wx wy rx ry
        have sx := mb (a := rx) (b := rx) (A := 254) (B := 254) (by omega) (by omega) (by omega) (by omega)
        have sy := mb (a := ry) (b := ry) (A := 254) (B := 254) (by omega) (by omega) (by omega) (by omega)
        have M := Int.mul_le_mul_of_nonneg_left (show rx * rx + ry * ry ≤ 129032 by omega) (show 0 ≤ wx * wx + wy * wy by omega)
        rw [h255, mmm] at L
        omega
      have hp := of_parts n1 (show 1 ≤ wx * wx + wy * wy by omega)
      unfold low
      simp only
      obtain ⟨q1, q2, q3, q4, q5, q6, q7⟩ := hp
      refine ⟨q4, q6, ?_, by omega⟩
      generalize ((Int.gcd ((wx * ty - wy * tx) * (wx * ty - wy * tx)) (wx * wx + wy * wy) : Nat) : Int) = g at *
      generalize ((wx * ty - wy * tx) * (wx * ty - wy * tx)) / g = n at *
      generalize (wx * wx + wy * wy) / g = d at *
      rw [← q2, ← q3] at key
      have : g * n ≤ g * (2 * d) := by rw [Int.mul_left_comm]; exact key
      exact Int.le_of_mul_le_mul_left this (by omega)
theorem walk (a0 a1 b0 b1 k : Int) (W : World) (wa0 : (Lit.int .i16 a0).wf = true) (wa1 : (Lit.int .i16 a1).wf = true) (wb0 : (Lit.int .i16 b0).wf = true) (wb1 : (Lit.int .i16 b1).wf = true) (wk : (Lit.int .u8 k).wf = true) :
    Calls Try.prog 5 #[.agg #[.int .i16 a0, .int .i16 a1], .agg #[.int .i16 b0, .int .i16 b1], .int .u8 k] W fun e w' => e = .returned (.bool true) ∧ Below W.heap.size W w' := by
  have ia0 := i16b wa0
  have ia1 := i16b wa1
  have ib0 := i16b wb0
  have ib1 := i16b wb1
  have hk := bounds_u8 wk
  have t0 := @tm a0
  have t1 := @tm a1
  have t2 := @tm b0
  have t3 := @tm b1
  have hE := edge_f ia0 ia1 ib0 ib1
  generalize Int.tmod a0 8193 = e1 at *
  generalize Int.tmod a1 8193 = e2 at *
  generalize Int.tmod b0 8193 = e3 at *
  generalize Int.tmod b1 8193 = e4 at *
  have i1 : In 16384 (e3 - e1) := by unfold In at *; omega
  have i2 : In 16384 (e4 - e2) := by unfold In at *; omega
  have px := WalkZero.part (w := e3 - e1) (k := k) (by omega) (by omega)
  have py := WalkZero.part (w := e4 - e2) (k := k) (by omega) (by omega)
  have mx := mb (a := e3 - e1) (b := k) (A := 16384) (B := 255) i1.1 i1.2 (by omega) (by omega)
  have my := mb (a := e4 - e2) (b := k) (A := 16384) (B := 255) i2.1 i2.2 (by omega) (by omega)
  have nr := near (e3 - e1) (e4 - e2) k (by omega) (by omega) i1 i2
  have hX : In 32768 (e1 + Int.tdiv ((e3 - e1) * k) 255) := by unfold In at *; omega
  have hY : In 32768 (e2 + Int.tdiv ((e4 - e2) * k) 255) := by unfold In at *; omega
  have hq : sq e1 e2 e3 e4 (e1 + Int.tdiv ((e3 - e1) * k) 255) (e2 + Int.tdiv ((e4 - e2) * k) 255) = sqd (e3 - e1) (e4 - e2) (Int.tdiv ((e3 - e1) * k) 255) (Int.tdiv ((e4 - e2) * k) 255) (Int.tdiv ((e3 - e1) * k) 255 - (e3 - e1)) (Int.tdiv ((e4 - e2) * k) 255 - (e4 - e2)) := by
    unfold sq
    congr 1 <;> omega
  have hc := fun w => sq_calls t0 t1 t2 t3 hX hY w
  rw [hq] at hc
  generalize sqd (e3 - e1) (e4 - e2) (Int.tdiv ((e3 - e1) * k) 255) (Int.tdiv ((e4 - e2) * k) 255) (Int.tdiv ((e3 - e1) * k) 255 - (e3 - e1)) (Int.tdiv ((e4 - e2) * k) 255 - (e4 - e2)) = f at *
  obtain ⟨n1, n2, n3, n4⟩ := nr
  refine zero a0 a1 b0 b1 k e1 e2 e3 e4 (e3 - e1) (e4 - e2) ((e3 - e1) * k) ((e4 - e2) * k) (Int.tdiv ((e3 - e1) * k) 255) (Int.tdiv ((e4 - e2) * k) 255) (e1 + Int.tdiv ((e3 - e1) * k) 255) (e2 + Int.tdiv ((e4 - e2) * k) 255) f.1 f.2 (sgn (f.1 * 1 - 2 * f.2)) W
    (iw (by unfold In at *; omega) (by unfold In at *; omega)) (iw (by unfold In at *; omega) (by unfold In at *; omega)) (iw (by omega) (by omega)) (iw (by omega) (by omega)) (iw (by omega) (by omega))
    (iw (by unfold In at *; omega) (by unfold In at *; omega)) (iw (by unfold In at *; omega) (by unfold In at *; omega)) (iw (by unfold In at *; omega) (by unfold In at *; omega)) (iw (by unfold In at *; omega) (by unfold In at *; omega))
    (decide_eq_true (by unfold sgn; split <;> (try split) <;> omega))
    (hid fun w => punchcutlaw03_Edge.calls _ _ _ _ _ _ _ _ w hE) (hid fun w => ?_) (hid fun w => ?_) (hid hc)
    (hid fun w => root_Compare.calls 1 _ _ _ _ _ w (rcmp_f (Nat.le_refl _) n1 (by omega) (by omega) (by omega) (by omega) (by omega) (by omega) (by omega)))
  · have := sq_calls (ax := e1) (ay := e2) (bx := e3) (bY := e4) (px := e1) (py := e2) t0 t1 t2 t3 (by unfold In at *; omega) (by unfold In at *; omega) w
    rwa [at_a] at this
  · have := sq_calls (ax := e1) (ay := e2) (bx := e3) (bY := e4) (px := e3) (py := e4) t0 t1 t2 t3 (by unfold In at *; omega) (by unfold In at *; omega) w
    rwa [at_b] at this
end Go.Proofs.Ytfjgamiiddcffaa.PureZero
