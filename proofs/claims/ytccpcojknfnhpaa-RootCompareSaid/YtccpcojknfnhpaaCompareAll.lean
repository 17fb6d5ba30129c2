/- RootCompare: fractions are compared by what they are, whatever their form; for every two fractions and every factor. Conditions: none. -/
import Derived.Test.YtccpcojknfnhpaaWalkCompare
import Derived.OpenShut
namespace Go.Proofs.Ytccpcojknfnhpaa.CompareAll
open Go Go.RowKit Go.Lib Go.Proofs.Ytccpcojknfnhpaa.PRootCompare Go.Proofs.YtccpcojknfnhpaaW.PrintWords Go.Proofs.YtccpcojknfnhpaaW.PrintLast Go.Proofs.YtccpcojknfnhpaaW.PrintMore Go.Proofs.Ytccpcojknfnhpaa.Core
set_option linter.unusedVariables false
set_option linter.unusedSimpArgs false
theorem mul_f {a b : Int} (ha : 0 ≤ a) (ha2 : a < 18446744073709551616) (hb : 0 ≤ b) (hb2 : b < 18446744073709551616) :
    wide_Mul.f a b = some (a * b / 18446744073709551616, a * b % 18446744073709551616) := by
  unfold wide_Mul.f
  rw [mul_hi ha ha2 hb hb2, u64_wrap]
theorem cmp_f {k : Nat} (hk : 1 ≤ k) (p q r s : Int) : wide_Pair_Compare.f k p q r s = some (if p < r ∨ (p = r ∧ q < s) then (-1 : Int) else if p = r ∧ q = s then 0 else 1) := by
  obtain ⟨k, rfl⟩ : ∃ m, k = m + 1 := ⟨k - 1, by omega⟩
  unfold wide_Pair_Compare.f
  simp only [wide_Pair_Compare.j0]
  by_cases h1 : p < r
  · rw [if_pos h1, if_pos trivial, if_pos (.inl h1)]
  · rw [if_neg h1]
    by_cases h2 : p = r
    · rw [if_pos h2]
      by_cases h3 : q < s
      · have e : (p < r ∨ (p = r ∧ q < s)) := .inr ⟨h2, h3⟩
        rw [if_pos e]; simp [h3]
      · have e : ¬ (p < r ∨ (p = r ∧ q < s)) := by omega
        rw [if_neg e]
        by_cases h4 : q = s <;> simp [h2, h3, h4]
    · have e : ¬ (p < r ∨ (p = r ∧ q < s)) := by omega
      rw [if_neg e]
      simp [h2]
theorem cmp_prod {k : Nat} (hk : 1 ≤ k) (x y : Int) :
    wide_Pair_Compare.f k (x / 18446744073709551616) (x % 18446744073709551616) (y / 18446744073709551616) (y % 18446744073709551616) = some (sgn (x - y)) := by
  rw [cmp_f hk, cmp_sgn]
theorem less_f {k : Nat} (hk : 1 ≤ k) {a b c d : Int} (ha : 0 ≤ a) (ha2 : a < 9223372036854775808) (hb : 0 ≤ b) (hb2 : b < 9223372036854775808)
    (hc : 0 ≤ c) (hc2 : c < 9223372036854775808) (hd : 0 ≤ d) (hd2 : d < 9223372036854775808) : wide_Less.f k a b c d = some (sgn (a * d - c * b)) := by
  unfold wide_Less.f
  rw [wu64 ha (by omega), wu64 hb (by omega), wu64 hc (by omega), wu64 hd (by omega)]
  rw [mul_f ha (by omega) hd (by omega), mul_f hc (by omega) hb (by omega)]
  simp only [Option.bind_some]
  rw [cmp_prod hk]
  rfl
theorem rcmp_f {k : Nat} (hk : 1 ≤ k) {a b c d : Int} (ha : 0 ≤ a) (ha2 : a < 9223372036854775808) (hb : 0 ≤ b) (hb2 : b < 9223372036854775808)
    (hc : 0 ≤ c) (hc2 : c < 9223372036854775808) (hd : 0 ≤ d) (hd2 : d < 9223372036854775808) : root_Compare.f k a b c d = some (sgn (a * d - c * b)) := by
  unfold root_Compare.f
  rw [less_f hk ha ha2 hb hb2 hc hc2 hd hd2]
  rfl
theorem of_loop (x0 x1 : Int) (b : Nat) : ∀ (k a : Nat), b + 1 ≤ k → 0 < a ∨ 0 < b → root_Of.l0 k x0 x1 (a : Int) (b : Int) =
    some (wrap64 (Int.tdiv x0 (Nat.gcd a b : Nat)), wrap64 (Int.tdiv x1 (Nat.gcd a b : Nat)), 0) := by
  induction b using Nat.strongRecOn with
  | _ b ih =>
    intro k a hk hab
    obtain ⟨k, rfl⟩ : ∃ m, k = m + 1 := ⟨k - 1, by omega⟩
    simp only [root_Of.l0]
    by_cases hb : b = 0
    · subst hb
      rw [if_pos (by simp), if_neg (by omega), Nat.gcd_zero_right]
    · rw [if_neg (by omega)]
      have e : Int.tmod (a : Int) (b : Int) = ((a % b : Nat) : Int) := by rw [Int.tmod_eq_emod_of_nonneg (by omega)]; rfl
      have hlt := Nat.mod_lt a (Nat.pos_of_ne_zero hb)
      rw [e, ih (a % b) hlt k b (by omega) (.inl (by omega)), Nat.gcd_comm a b, Nat.gcd_rec b a, Nat.gcd_comm (a % b) b]
/-- a fraction in its least form -/
theorem of_f {k : Nat} {n d : Int} (hn : 0 ≤ n) (hn2 : n < 9223372036854775808) (hd : 1 ≤ d) (hd2 : d < 9223372036854775808) (hk : d.toNat + 2 ≤ k) :
    root_Of.f k n d = some (n / (Int.gcd n d : Nat), d / (Int.gcd n d : Nat), 0) := by
  obtain ⟨k, rfl⟩ : ∃ m, k = m + 1 := ⟨k - 1, by omega⟩
  unfold root_Of.f
  rw [if_neg (by omega)]
  simp only [root_Of.j0]
  rw [if_neg (by simp; omega)]
  obtain ⟨a, rfl⟩ := Int.eq_ofNat_of_zero_le hn
  obtain ⟨b, rfl⟩ := Int.eq_ofNat_of_zero_le (show 0 ≤ d by omega)
  rw [of_loop _ _ b k a (by simp at hk; omega) (.inr (by omega))]
  have e : Int.gcd (a : Int) (b : Int) = Nat.gcd a b := rfl
  rw [e]
  have hg : 0 < Nat.gcd a b := Nat.gcd_pos_of_pos_right a (by omega)
  have h1 : ((a : Int) / (Nat.gcd a b : Nat)) ≤ a := Int.ediv_le_self _ hn
  have h2 : ((b : Int) / (Nat.gcd a b : Nat)) ≤ b := Int.ediv_le_self _ (by omega)
  have h3 : 0 ≤ ((a : Int) / (Nat.gcd a b : Nat)) := Int.ediv_nonneg hn (by omega)
  have h4 : 0 ≤ ((b : Int) / (Nat.gcd a b : Nat)) := Int.ediv_nonneg (by omega) (by omega)
  rw [Int.tdiv_eq_ediv_of_nonneg hn, Int.tdiv_eq_ediv_of_nonneg (by omega), w64 (by omega) (by omega), w64 (by omega) (by omega)]
theorem of_bad {k : Nat} {n d : Int} (hk : 1 ≤ k) (h : n < 0 ∨ d < 1) : root_Of.f k n d = some (0, 0, 4) := by
  obtain ⟨k, rfl⟩ : ∃ m, k = m + 1 := ⟨k - 1, by omega⟩
  unfold root_Of.f
  by_cases hn : n < 0
  · rw [if_pos hn]; simp [root_Of.j0]
  · rw [if_neg hn]
    have : d < 1 := by omega
    simp [root_Of.j0, this]
theorem of_parts {n d : Int} (hn : 0 ≤ n) (hd : 1 ≤ d) : 1 ≤ ((Int.gcd n d : Nat) : Int) ∧ ((Int.gcd n d : Nat) : Int) * (n / (Int.gcd n d : Nat)) = n ∧ ((Int.gcd n d : Nat) : Int) * (d / (Int.gcd n d : Nat)) = d ∧
    0 ≤ n / (Int.gcd n d : Nat) ∧ n / (Int.gcd n d : Nat) ≤ n ∧ 1 ≤ d / (Int.gcd n d : Nat) ∧ d / (Int.gcd n d : Nat) ≤ d := by
  have hg : 0 < Int.gcd n d := Int.gcd_pos_of_ne_zero_right _ (by omega)
  have h1 : ((Int.gcd n d : Nat) : Int) ∣ n := Int.gcd_dvd_left ..
  have h2 : ((Int.gcd n d : Nat) : Int) ∣ d := Int.gcd_dvd_right ..
  refine ⟨by omega, Int.mul_ediv_cancel' h1, Int.mul_ediv_cancel' h2, Int.ediv_nonneg hn (by omega), Int.ediv_le_self _ hn, ?_, Int.ediv_le_self _ (by omega)⟩
  exact Int.le_ediv_of_mul_le (by omega) (by have := Int.le_of_dvd (by omega) h2; omega)
theorem sgn_scale {g x : Int} (hg : 0 < g) : sgn (g * x) = sgn x := by
  rcases sgn_cases x with ⟨h, e⟩ | ⟨h, e⟩ | ⟨h, e⟩ <;> rw [e]
  · exact sgn_neg (Int.mul_neg_of_pos_of_neg hg h)
  · subst h; exact sgn_zero (by omega)
  · exact sgn_pos (Int.mul_pos hg h)
theorem cross_eq (g h a b c d : Int) : g * a * (h * d) - h * c * (g * b) = g * h * (a * d - c * b) := by
  have e1 : g * a * (h * d) = g * h * (a * d) := by rw [Int.mul_assoc, Int.mul_assoc, Int.mul_left_comm a h d]
  have e2 : h * c * (g * b) = g * h * (c * b) := by rw [Int.mul_assoc, Int.mul_left_comm c g b, Int.mul_left_comm h g, Int.mul_assoc]
  rw [e1, e2, Int.mul_sub]
theorem walk (a b c d m : Int) (W : World) (wa : (Lit.int .i64 a).wf = true) (wb : (Lit.int .i64 b).wf = true) (wc : (Lit.int .i64 c).wf = true) (wd : (Lit.int .i64 d).wf = true) (wm : (Lit.int .u8 m).wf = true) :
    Calls Try.prog 9 #[.int .i64 a, .int .i64 b, .int .i64 c, .int .i64 d, .int .u8 m] W fun e w' => e = .returned (.bool true) ∧ Below W.heap.size W w' := by
  have ha := bounds_i64 wa
  have hb := bounds_i64 wb
  have hc := bounds_i64 wc
  have hd := bounds_i64 wd
  have hm := bounds_u8 wm
  have a1 := le_mx_left 0 (a / 2)
  have a2 : mx 0 (a / 2) ≤ 4611686018427387904 := mx_le (by omega) (by omega)
  have b1 := le_mx_left 1 (b / 2)
  have b2 : mx 1 (b / 2) ≤ 4611686018427387904 := mx_le (by omega) (by omega)
  have c1 := le_mx_left 0 c
  have c2 : mx 0 c ≤ 9223372036854775807 := mx_le (by omega) (by omega)
  have d1 := le_mx_left 1 d
  have d2 : mx 1 d ≤ 9223372036854775807 := mx_le (by omega) (by omega)
  have eA : (if 0 < a / 2 then a / 2 else 0) = mx 0 (a / 2) := rfl
  have eB : (if 1 < b / 2 then b / 2 else 1) = mx 1 (b / 2) := rfl
  have eC : (if 0 < c then c else 0) = mx 0 c := rfl
  have eD : (if 1 < d then d else 1) = mx 1 d := rfl
  generalize mx 0 (a / 2) = A at *
  generalize mx 1 (b / 2) = B at *
  generalize mx 0 c = C at *
  generalize mx 1 d = D at *
  have HX := fun w => root_Of.calls (B.toNat + 2) A B _ _ _ w (of_f a1 (by omega) b1 (by omega) (Nat.le_refl _))
  have HY := fun w => root_Of.calls (D.toNat + 2) C D _ _ _ w (of_f c1 (by omega) d1 (by omega) (Nat.le_refl _))
  have HL := fun w => wide_Less.calls 1 A B C D _ w (less_f (Nat.le_refl _) a1 (by omega) (by omega) (by omega) c1 (by omega) (by omega) (by omega))
  obtain ⟨p1, p2, p3, p4, p5, p6, p7⟩ := of_parts a1 b1
  obtain ⟨q1, q2, q3, q4, q5, q6, q7⟩ := of_parts c1 d1
  generalize ((Int.gcd A B : Nat) : Int) = g at *
  generalize ((Int.gcd C D : Nat) : Int) = h at *
  generalize A / g = x at *
  generalize B / g = y at *
  generalize C / h = u at *
  generalize D / h = v at *
  have key : sgn (x * v - u * y) = sgn (A * D - C * B) := by
    rw [← p2, ← p3, ← q2, ← q3, cross_eq, sgn_scale (Int.mul_pos (by omega) (by omega))]
  have key2 : sgn (u * y - x * v) = - sgn (x * v - u * y) := by rw [← sgn_opp]; congr 1; omega
  have w0 : -1 ≤ sgn (x * v - u * y) ∧ sgn (x * v - u * y) ≤ 1 := by rcases sgn_cases (x * v - u * y) with ⟨_, e⟩ | ⟨_, e⟩ | ⟨_, e⟩ <;> omega
  have HXY := fun w => root_Compare.calls 1 x y u v _ w (rcmp_f (Nat.le_refl _) p4 (by omega) (by omega) (by omega) q4 (by omega) (by omega) (by omega))
  have HYX := fun w => root_Compare.calls 1 u v x y _ w (rcmp_f (Nat.le_refl _) q4 (by omega) (by omega) (by omega) p4 (by omega) (by omega) (by omega))
  rw [key2] at HYX
  rw [← key] at HL
  generalize sgn (x * v - u * y) = s at *
  have n1 : wrap64 (-s) = -s := w64 (by omega) (by omega)
  have n2 : IntKind.i64.wrap (-s) = -s := by rw [IntKind.wrap_i64]; omega
  by_cases hz : m = 0
  · exact WalkCompare.cmp0 a b c d m A B C D _ _ _ _ x y u v s (-s) W hz eA eB eC eD rfl rfl rfl rfl n1 n2 (hid HX) (hid HY) (hid HXY) (hid HYX) (hid HL)
  · have e1 : 0 ≤ A / 512 := by omega
    have e2 : A / 512 ≤ 9007199254740992 := by omega
    have e3 := le_mx_left 1 (B / 512)
    have e4 : mx 1 (B / 512) ≤ 9007199254740992 := mx_le (by omega) (by omega)
    have eT : (if 1 < B / 512 then B / 512 else 1) = mx 1 (B / 512) := rfl
    have eS : A / 512 = A / 512 := rfl
    generalize hs : A / 512 = S at e1 e2 eS
    generalize mx 1 (B / 512) = T at *
    have f1 : 0 ≤ S * m := Int.mul_nonneg e1 hm.1
    have f2 : S * m ≤ 9007199254740992 * 255 := Int.mul_le_mul e2 hm.2 hm.1 (by omega)
    have f3 : 0 < T * m := Int.mul_pos (by omega) (by omega)
    have f4 : T * m ≤ 9007199254740992 * 255 := Int.mul_le_mul e4 hm.2 hm.1 (by omega)
    have z : S * m * T - S * (T * m) = 0 := by rw [Int.mul_assoc, Int.mul_comm m T]; omega
    have HZ := fun w => root_Compare.calls 1 (S * m) (T * m) S T _ w (rcmp_f (Nat.le_refl _) f1 (by omega) (by omega) (by omega) e1 (by omega) (by omega) (by omega))
    rw [sgn_zero z] at HZ
    exact WalkCompare.cmp1 a b c d m A B C D S T (S * m) (T * m) x y u v s (-s) W hz hm.1 hm.2 eA eB eC eD hs eT (w64 (by omega) (by omega)) (w64 (by omega) (by omega)) n1 n2 (hid HX) (hid HY) (hid HXY) (hid HYX) (hid HL) (hid HZ)
end Go.Proofs.Ytccpcojknfnhpaa.CompareAll
