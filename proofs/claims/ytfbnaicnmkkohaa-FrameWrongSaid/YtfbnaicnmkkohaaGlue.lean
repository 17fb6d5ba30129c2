/- What the program's bilin.At, ramp.Cover and ramp.Blend tell, in plain numbers. Conditions: as each states. -/
import Derived.Test.YtfbnaicnmkkohaaPFramePlacex4
import Derived.Test.YtfbnaicnmkkohaaCore
import Derived.OpenShut
namespace Go.Proofs.Ytfbnaicnmkkohaa.Glue
open Go Go.RowKit Go.Proofs.YtfbnaicnmkkohaaW.PrintWords Go.Proofs.YtfbnaicnmkkohaaW.PrintLast Go.Proofs.YtfbnaicnmkkohaaW.PrintMore Go.Proofs.Ytfbnaicnmkkohaa.Core Go.Proofs.Ytfbnaicnmkkohaa.PFramePlace
theorem mul_f {a b : Int} (ha : 0 ≤ a) (ha2 : a < 18446744073709551616) (hb : 0 ≤ b) (hb2 : b < 18446744073709551616) :
    wide_Mul.f a b = some (a * b / 18446744073709551616, a * b % 18446744073709551616) := by
  unfold wide_Mul.f
  rw [mul_hi ha ha2 hb hb2, u64_wrap]
theorem cmp_f {k : Nat} (hk : 1 ≤ k) (p q r s : Int) : wide_Pair_Compare.f k p q r s = some (if p < r ∨ (p = r ∧ q < s) then (-1 : Int) else if p = r ∧ q = s then 0 else 1) := by
  obtain ⟨k, rfl⟩ : ∃ m, k = m + 1 := ⟨k - 1, by omega⟩
  unfold wide_Pair_Compare.f
  simp only [wide_Pair_Compare.j0]
  by_cases h1 : p < r
  · rw [if_pos h1, if_pos trivial, if_pos (.inl h1)]
  · rw [if_neg h1]
    by_cases h2 : p = r
    · rw [if_pos h2]
      by_cases h3 : q < s
      · have e : (p < r ∨ (p = r ∧ q < s)) := .inr ⟨h2, h3⟩
        rw [if_pos e]; simp [h3]
      · have e : ¬ (p < r ∨ (p = r ∧ q < s)) := by omega
        rw [if_neg e]
        by_cases h4 : q = s <;> simp [h2, h3, h4]
    · have e : ¬ (p < r ∨ (p = r ∧ q < s)) := by omega
      rw [if_neg e]
      simp [h2]
theorem cmp_prod {k : Nat} (hk : 1 ≤ k) (x y : Int) :
    wide_Pair_Compare.f k (x / 18446744073709551616) (x % 18446744073709551616) (y / 18446744073709551616) (y % 18446744073709551616) = some (sgn (x - y)) := by
  rw [cmp_f hk, cmp_sgn]
theorem less_f {k : Nat} (hk : 1 ≤ k) {a b c d : Int} (ha : 0 ≤ a) (ha2 : a < 9223372036854775808) (hb : 0 ≤ b) (hb2 : b < 9223372036854775808)
    (hc : 0 ≤ c) (hc2 : c < 9223372036854775808) (hd : 0 ≤ d) (hd2 : d < 9223372036854775808) : wide_Less.f k a b c d = some (sgn (a * d - c * b)) := by
  unfold wide_Less.f
  rw [wu64 ha (by omega), wu64 hb (by omega), wu64 hc (by omega), wu64 hd (by omega)]
  rw [mul_f ha (by omega) hd (by omega), mul_f hc (by omega) hb (by omega)]
  simp only [Option.bind_some]
  rw [cmp_prod hk]
  rfl
theorem rcmp_f {k : Nat} (hk : 1 ≤ k) {a b c d : Int} (ha : 0 ≤ a) (ha2 : a < 9223372036854775808) (hb : 0 ≤ b) (hb2 : b < 9223372036854775808)
    (hc : 0 ≤ c) (hc2 : c < 9223372036854775808) (hd : 0 ≤ d) (hd2 : d < 9223372036854775808) : root_Compare.f k a b c d = some (sgn (a * d - c * b)) := by
  unfold root_Compare.f
  rw [less_f hk ha ha2 hb hb2 hc hc2 hd hd2]
  rfl
/-- a division that is rounded down -/
theorem floor_f {a b : Int} (ha : -9223372036854775808 ≤ a) (ha2 : a < 9223372036854775808) (hb : 1 ≤ b) : root_Floor.f a b = some (a / b) := by
  unfold root_Floor.f
  rw [if_neg (by omega)]
  have hm1 := Int.emod_nonneg a (show b ≠ 0 by omega)
  have hm2 := Int.emod_lt_of_pos a (show 0 < b by omega)
  have hd := Int.mul_ediv_add_emod a b
  by_cases h0 : 0 ≤ a
  · rw [Int.tmod_eq_emod_of_nonneg h0, if_neg (by omega), Int.tdiv_eq_ediv_of_nonneg h0]
    have h1 : a / b ≤ a := Int.ediv_le_self _ h0
    have h2 : 0 ≤ a / b := Int.ediv_nonneg h0 (by omega)
    rw [w64 (by omega) (by omega)]
  · -- below 0 what is cut off is rounded up
    have hn1 := Int.emod_nonneg (-a) (show b ≠ 0 by omega)
    have hn2 := Int.emod_lt_of_pos (-a) (show 0 < b by omega)
    have hn := Int.mul_ediv_add_emod (-a) b
    have e1 : Int.tmod a b = -((-a) % b) := by
      rw [show Int.tmod a b = Int.tmod (-(-a)) b from by rw [Int.neg_neg], Int.neg_tmod, Int.tmod_eq_emod_of_nonneg (by omega)]
    have e2 : Int.tdiv a b = -((-a) / b) := by
      rw [show Int.tdiv a b = Int.tdiv (-(-a)) b from by rw [Int.neg_neg], Int.neg_tdiv, Int.tdiv_eq_ediv_of_nonneg (by omega)]
    rw [e1, e2]
    have h1 : (-a) / b ≤ -a := Int.ediv_le_self _ (by omega)
    have h2 : 0 ≤ (-a) / b := Int.ediv_nonneg (by omega) (by omega)
    by_cases c : -((-a) % b) < 0
    · rw [if_pos c]
      have e3 : a / b = -((-a) / b) - 1 := by
        have l1 : b * (-((-a) / b) - 1) = -(b * ((-a) / b)) - b := by rw [Int.mul_sub, Int.mul_neg, Int.mul_one]
        have l2 : a = b * (-((-a) / b) - 1) + (b - (-a) % b) := by omega
        have l3 := Int.ediv_emod_unique (a := a) (b := b) (r := b - (-a) % b) (q := -((-a) / b) - 1) (by omega)
        exact (l3.2 ⟨by omega, by omega, by omega⟩).1
      have h3 : (-a) / b < -a ∨ -a = 0 ∨ b = 1 := by
        by_cases c2 : b = 1
        · exact .inr (.inr c2)
        · left
          have := Int.ediv_lt_self_of_pos_of_ne_one (x := -a) (y := b) (by omega) c2
          exact this
      have h4 : (-a) / b < 9223372036854775808 := by
        rcases h3 with h3 | h3 | h3
        · omega
        · omega
        · subst h3; omega
      rw [w64 (n := -((-a) / b)) (by omega) (by omega), w64 (n := -((-a) / b) - 1) (by omega) (by omega), e3]
    · rw [if_neg c]
      have e3 : a / b = -((-a) / b) := by
        have l1 : b * (-((-a) / b)) = -(b * ((-a) / b)) := Int.mul_neg _ _
        have l3 := Int.ediv_emod_unique (a := a) (b := b) (r := 0) (q := -((-a) / b)) (by omega)
        exact (l3.2 ⟨by omega, by omega, by omega⟩).1
      rw [w64 (n := -((-a) / b)) (by omega) (by omega), e3]
theorem of_loop (x0 x1 : Int) (b : Nat) : ∀ (k a : Nat), b + 1 ≤ k → 0 < a ∨ 0 < b → root_Of.l0 k x0 x1 (a : Int) (b : Int) =
    some (wrap64 (Int.tdiv x0 (Nat.gcd a b : Nat)), wrap64 (Int.tdiv x1 (Nat.gcd a b : Nat)), 0) := by
  induction b using Nat.strongRecOn with
  | _ b ih =>
    intro k a hk hab
    obtain ⟨k, rfl⟩ : ∃ m, k = m + 1 := ⟨k - 1, by omega⟩
    simp only [root_Of.l0]
    by_cases hb : b = 0
    · subst hb
      rw [if_pos (by simp), if_neg (by omega), Nat.gcd_zero_right]
    · rw [if_neg (by omega)]
      have e : Int.tmod (a : Int) (b : Int) = ((a % b : Nat) : Int) := by rw [Int.tmod_eq_emod_of_nonneg (by omega)]; rfl
      have hlt := Nat.mod_lt a (Nat.pos_of_ne_zero hb)
      rw [e, ih (a % b) hlt k b (by omega) (.inl (by omega)), Nat.gcd_comm a b, Nat.gcd_rec b a, Nat.gcd_comm (a % b) b]
/-- a fraction in its least form -/
theorem of_f {k : Nat} {n d : Int} (hn : 0 ≤ n) (hn2 : n < 9223372036854775808) (hd : 1 ≤ d) (hd2 : d < 9223372036854775808) (hk : d.toNat + 2 ≤ k) :
    root_Of.f k n d = some (n / (Int.gcd n d : Nat), d / (Int.gcd n d : Nat), 0) := by
  obtain ⟨k, rfl⟩ : ∃ m, k = m + 1 := ⟨k - 1, by omega⟩
  unfold root_Of.f
  rw [if_neg (by omega)]
  simp only [root_Of.j0]
  rw [if_neg (by simp; omega)]
  obtain ⟨a, rfl⟩ := Int.eq_ofNat_of_zero_le hn
  obtain ⟨b, rfl⟩ := Int.eq_ofNat_of_zero_le (show 0 ≤ d by omega)
  rw [of_loop _ _ b k a (by simp at hk; omega) (.inr (by omega))]
  have e : Int.gcd (a : Int) (b : Int) = Nat.gcd a b := rfl
  rw [e]
  have hg : 0 < Nat.gcd a b := Nat.gcd_pos_of_pos_right a (by omega)
  have h1 : ((a : Int) / (Nat.gcd a b : Nat)) ≤ a := Int.ediv_le_self _ hn
  have h2 : ((b : Int) / (Nat.gcd a b : Nat)) ≤ b := Int.ediv_le_self _ (by omega)
  have h3 : 0 ≤ ((a : Int) / (Nat.gcd a b : Nat)) := Int.ediv_nonneg hn (by omega)
  have h4 : 0 ≤ ((b : Int) / (Nat.gcd a b : Nat)) := Int.ediv_nonneg (by omega) (by omega)
  rw [Int.tdiv_eq_ediv_of_nonneg hn, Int.tdiv_eq_ediv_of_nonneg (by omega), w64 (by omega) (by omega), w64 (by omega) (by omega)]
theorem of_bad {k : Nat} {n d : Int} (hk : 1 ≤ k) (h : n < 0 ∨ d < 1) : root_Of.f k n d = some (0, 0, 4) := by
  obtain ⟨k, rfl⟩ : ∃ m, k = m + 1 := ⟨k - 1, by omega⟩
  unfold root_Of.f
  by_cases hn : n < 0
  · rw [if_pos hn]; simp [root_Of.j0]
  · rw [if_neg hn]
    have : d < 1 := by omega
    simp [root_Of.j0, this]
theorem of_parts {n d : Int} (hn : 0 ≤ n) (hd : 1 ≤ d) : 1 ≤ ((Int.gcd n d : Nat) : Int) ∧ ((Int.gcd n d : Nat) : Int) * (n / (Int.gcd n d : Nat)) = n ∧ ((Int.gcd n d : Nat) : Int) * (d / (Int.gcd n d : Nat)) = d ∧
    0 ≤ n / (Int.gcd n d : Nat) ∧ n / (Int.gcd n d : Nat) ≤ n ∧ 1 ≤ d / (Int.gcd n d : Nat) ∧ d / (Int.gcd n d : Nat) ≤ d := by
  have hg : 0 < Int.gcd n d := Int.gcd_pos_of_ne_zero_right _ (by omega)
  have h1 : ((Int.gcd n d : Nat) : Int) ∣ n := Int.gcd_dvd_left ..
  have h2 : ((Int.gcd n d : Nat) : Int) ∣ d := Int.gcd_dvd_right ..
  refine ⟨by omega, Int.mul_ediv_cancel' h1, Int.mul_ediv_cancel' h2, Int.ediv_nonneg hn (by omega), Int.ediv_le_self _ hn, ?_, Int.ediv_le_self _ (by omega)⟩
  exact Int.le_ediv_of_mul_le (by omega) (by have := Int.le_of_dvd (by omega) h2; omega)
/-- a texel; those outside are as the nearest one -/
def tex (W H : Int) (l : List Int) (i k : Int) : Int := rd l (mx 0 (mn (H - 1) k) * W + mx 0 (mn (W - 1) i))
def bi (x d : Int) : Int := (2 * x - d) / (2 * d)
def bu (x d : Int) : Int := (2 * x - d) % (2 * d)
def val (W H : Int) (l : List Int) (x y d : Int) : Int :=
  (tex W H l (bi x d) (bi y d) * (2 * d - bu x d) + tex W H l (bi x d + 1) (bi y d) * bu x d) * (2 * d - bu y d) +
  (tex W H l (bi x d) (bi y d + 1) * (2 * d - bu x d) + tex W H l (bi x d + 1) (bi y d + 1) * bu x d) * bu y d
theorem clamp_bd {n i : Int} (hn : 1 ≤ n) : 0 ≤ mx 0 (mn (n - 1) i) ∧ mx 0 (mn (n - 1) i) ≤ n - 1 :=
  ⟨le_mx_left _ _, mx_le (by omega) (mn_le_left _ _)⟩
theorem index_bd {W H i k : Int} (hW : 1 ≤ W) (hW2 : W ≤ 64) (hH : 1 ≤ H) (hH2 : H ≤ 64) :
    0 ≤ mx 0 (mn (H - 1) k) * W ∧ mx 0 (mn (H - 1) k) * W ≤ 4096 ∧ 0 ≤ mx 0 (mn (H - 1) k) * W + mx 0 (mn (W - 1) i) ∧ mx 0 (mn (H - 1) k) * W + mx 0 (mn (W - 1) i) < H * W := by
  have h1 := clamp_bd (i := i) hW
  have h2 := clamp_bd (i := k) hH
  have h3 : 0 ≤ mx 0 (mn (H - 1) k) * W := Int.mul_nonneg h2.1 (by omega)
  have h4 : mx 0 (mn (H - 1) k) * W ≤ (H - 1) * W := Int.mul_le_mul_of_nonneg_right h2.2 (by omega)
  have h5 : (H - 1) * W = H * W - W := by rw [Int.sub_mul]; omega
  have h6 : (H - 1) * W ≤ 63 * 64 := Int.mul_le_mul (by omega) hW2 (by omega) (by omega)
  omega
theorem rd_bd {l : List Int} (hl : ∀ x ∈ l, 0 ≤ x ∧ x ≤ 255) (j : Int) : 0 ≤ rd l j ∧ rd l j ≤ 255 := by
  unfold rd
  by_cases h : j.toNat < l.length
  · have e : l.getD j.toNat 0 = l[j.toNat] := by simp [List.getD, h]
    rw [e]; exact hl _ (List.getElem_mem h)
  · have e : l.getD j.toNat 0 = 0 := by simp [List.getD, h]
    rw [e]; omega
theorem tex_bd {W H : Int} {l : List Int} (hl : ∀ x ∈ l, 0 ≤ x ∧ x ≤ 255) (i k : Int) : 0 ≤ tex W H l i k ∧ tex W H l i k ≤ 255 := rd_bd hl _
theorem texel_f {W H : Int} {l : List Int} (hW : 1 ≤ W) (hW2 : W ≤ 64) (hH : 1 ≤ H) (hH2 : H ≤ 64) (hlen : (l.length : Int) = W * H) (hl : ∀ x ∈ l, 0 ≤ x ∧ x ≤ 255) (i k : Int) :
    bilin_texel.f W H l i k = some (tex W H l i k) := by
  unfold bilin_texel.f tex
  have h := index_bd (i := i) (k := k) hW hW2 hH hH2
  have hb := clamp_bd (i := i) hW
  have hc : H * W = W * H := Int.mul_comm _ _
  rw [w64 (n := H - 1) (by omega) (by omega), w64 (n := W - 1) (by omega) (by omega)]
  generalize mx 0 (mn (H - 1) k) * W = r at *
  generalize mx 0 (mn (W - 1) i) = c at *
  rw [w64 (n := r) (by omega) (by omega), w64 (n := r + c) (by omega) (by omega), if_pos h.2.2.1, if_pos (by omega)]
  have := rd_bd hl (r + c)
  rw [w64 (by omega) (by omega)]
theorem right_f {W H : Int} {l : List Int} (hW : 1 ≤ W) (hW2 : W ≤ 64) (hH : 1 ≤ H) (hH2 : H ≤ 64) (hlen : (l.length : Int) = W * H) : bilin_Right.f W H l = some true := by
  unfold bilin_Right.f
  have h1 : W * H ≤ 64 * 64 := Int.mul_le_mul hW2 hH2 (by omega) (by omega)
  have h2 : 0 ≤ W * H := Int.mul_nonneg (by omega) (by omega)
  rw [if_pos (by omega), if_pos (by omega), if_pos hW2, if_pos hH2, w64 (by omega) (by omega), hlen]
  simp
theorem mix_bd {a b u d m M : Int} (h0 : 0 ≤ u) (h1 : u ≤ d) (ha : m ≤ a) (ha2 : a ≤ M) (hb : m ≤ b) (hb2 : b ≤ M) : m * d ≤ a * (d - u) + b * u ∧ a * (d - u) + b * u ≤ M * d := by
  have e1 := Int.mul_le_mul_of_nonneg_right ha (show 0 ≤ d - u by omega)
  have e2 := Int.mul_le_mul_of_nonneg_right hb h0
  have e3 := Int.mul_le_mul_of_nonneg_right ha2 (show 0 ≤ d - u by omega)
  have e4 := Int.mul_le_mul_of_nonneg_right hb2 h0
  have e5 : m * (d - u) + m * u = m * d := by rw [← Int.mul_add]; congr 1; omega
  have e6 : M * (d - u) + M * u = M * d := by rw [← Int.mul_add]; congr 1; omega
  omega
theorem bu_bd {x d : Int} (hd : 1 ≤ d) : 0 ≤ bu x d ∧ bu x d < 2 * d := ⟨Int.emod_nonneg _ (by omega), Int.emod_lt_of_pos _ (by omega)⟩
theorem bu_eq (x d : Int) : 2 * x - d - bi x d * (2 * d) = bu x d := by
  unfold bi bu
  have := Int.mul_ediv_add_emod (2 * x - d) (2 * d)
  rw [Int.mul_comm] at this
  omega
theorem bi_bd {x d : Int} (hd : 1 ≤ d) (hd2 : d ≤ 1024) (h1 : -1048576 ≤ x) (h2 : x ≤ 1048576) : -2097153 ≤ bi x d ∧ bi x d ≤ 2097153 ∧ -2100300 ≤ bi x d * (2 * d) ∧ bi x d * (2 * d) ≤ 2100300 := by
  have h3 := bu_eq x d
  have h4 := bu_bd (x := x) hd
  have h5 : -2100300 ≤ bi x d * (2 * d) ∧ bi x d * (2 * d) ≤ 2100300 := by omega
  refine ⟨?_, ?_, h5⟩
  · by_cases c : -2097153 ≤ bi x d
    · exact c
    · have : bi x d * (2 * d) ≤ bi x d * 2 := Int.mul_le_mul_of_nonpos_left (by omega) (by omega)
      omega
  · by_cases c : bi x d ≤ 2097153
    · exact c
    · have : bi x d * 2 ≤ bi x d * (2 * d) := Int.mul_le_mul_of_nonneg_left (by omega) (by omega)
      omega
theorem val_bd {W H : Int} {l : List Int} {x y d m M : Int} (hd : 1 ≤ d) (ht : ∀ i k, m ≤ tex W H l i k ∧ tex W H l i k ≤ M) : m * (2 * d * (2 * d)) ≤ val W H l x y d ∧ val W H l x y d ≤ M * (2 * d * (2 * d)) := by
  have hu := bu_bd (x := x) hd
  have hv := bu_bd (x := y) hd
  unfold val
  have l1 := mix_bd hu.1 (Int.le_of_lt hu.2) (ht (bi x d) (bi y d)).1 (ht (bi x d) (bi y d)).2 (ht (bi x d + 1) (bi y d)).1 (ht (bi x d + 1) (bi y d)).2
  have l2 := mix_bd hu.1 (Int.le_of_lt hu.2) (ht (bi x d) (bi y d + 1)).1 (ht (bi x d) (bi y d + 1)).2 (ht (bi x d + 1) (bi y d + 1)).1 (ht (bi x d + 1) (bi y d + 1)).2
  have l3 := mix_bd hv.1 (Int.le_of_lt hv.2) l1.1 l1.2 l2.1 l2.2
  rw [Int.mul_assoc m, Int.mul_assoc M] at l3
  exact l3
/-- what a field has at a place -/
theorem at_f {k : Nat} {W H : Int} {l : List Int} (hk : 4194400 ≤ k) (hW : 1 ≤ W) (hW2 : W ≤ 64) (hH : 1 ≤ H) (hH2 : H ≤ 64) (hlen : (l.length : Int) = W * H) (hl : ∀ x ∈ l, 0 ≤ x ∧ x ≤ 255)
    {x y d : Int} (hd : 1 ≤ d) (hd2 : d ≤ 1024) (hx : -1048576 ≤ x) (hx2 : x ≤ 1048576) (hy : -1048576 ≤ y) (hy2 : y ≤ 1048576) :
    bilin_At.f k W H l x y d = some (val W H l x y d / (Int.gcd (val W H l x y d) (2 * d * (2 * d)) : Nat), 2 * d * (2 * d) / (Int.gcd (val W H l x y d) (2 * d * (2 * d)) : Nat), 0) := by
  obtain ⟨k, rfl⟩ : ∃ m, k = m + 1 := ⟨k - 1, by omega⟩
  unfold bilin_At.f
  rw [right_f hW hW2 hH hH2 hlen]
  simp only [Option.bind_some]
  rw [if_pos trivial, if_neg (by omega), if_neg (by omega), if_neg (by omega), if_neg (by omega), if_neg (by omega), decide_eq_false (by omega)]
  simp only [bilin_At.j0]
  have hx3 := bi_bd hd hd2 hx hx2
  have hy3 := bi_bd hd hd2 hy hy2
  have hu := bu_bd (x := x) hd
  have hv := bu_bd (x := y) hd
  have eu := bu_eq x d
  have ev := bu_eq y d
  rw [if_neg (by simp)]
  rw [w64 (n := 2 * x) (by omega) (by omega), w64 (n := 2 * y) (by omega) (by omega), w64 (n := 2 * d) (by omega) (by omega), w64 (n := 2 * x - d) (by omega) (by omega), w64 (n := 2 * y - d) (by omega) (by omega)]
  rw [floor_f (a := 2 * x - d) (by omega) (by omega) (by omega), floor_f (a := 2 * y - d) (by omega) (by omega) (by omega)]
  simp only [Option.bind_some]
  rw [show (2 * x - d) / (2 * d) = bi x d from rfl, show (2 * y - d) / (2 * d) = bi y d from rfl]
  rw [w64 (n := bi x d + 1) (by omega) (by omega), w64 (n := bi y d + 1) (by omega) (by omega)]
  simp only [texel_f hW hW2 hH hH2 hlen hl, Option.bind_some]
  rw [w64 (n := bi x d * (2 * d)) (by omega) (by omega), w64 (n := bi y d * (2 * d)) (by omega) (by omega), eu, ev]
  rw [w64 (n := bu x d) (by omega) (by omega), w64 (n := bu y d) (by omega) (by omega), w64 (n := 2 * d - bu x d) (by omega) (by omega), w64 (n := 2 * d - bu y d) (by omega) (by omega)]
  have hV := val_bd (W := W) (H := H) (l := l) (x := x) (y := y) hd (fun i k => tex_bd hl i k)
  have hdd : 2 * d * (2 * d) ≤ 2048 * 2048 := Int.mul_le_mul (by omega) (by omega) (by omega) (by omega)
  have hdd0 : 0 < 2 * d * (2 * d) := Int.mul_pos (by omega) (by omega)
  have hV2 : val W H l x y d ≤ 255 * (2048 * 2048) := Int.le_trans hV.2 (Int.mul_le_mul_of_nonneg_left hdd (by omega))
  have hV1 : 0 ≤ val W H l x y d := by have := hV.1; omega
  -- each step fits
  have fit : ∀ t w : Int, 0 ≤ t → t ≤ 255 * 2048 → 0 ≤ w → w ≤ 2048 → 0 ≤ t * w ∧ t * w ≤ 255 * 2048 * 2048 := fun t w h1 h2 h3 h4 => ⟨Int.mul_nonneg h1 h3, Int.mul_le_mul h2 h4 h3 (by omega)⟩
  have fit2 : ∀ t w : Int, 0 ≤ t → t ≤ 255 → 0 ≤ w → w ≤ 2048 → 0 ≤ t * w ∧ t * w ≤ 255 * 2048 := fun t w h1 h2 h3 h4 => ⟨Int.mul_nonneg h1 h3, Int.mul_le_mul h2 h4 h3 (by omega)⟩
  have t1 := tex_bd (W := W) (H := H) hl (bi x d) (bi y d)
  have t2 := tex_bd (W := W) (H := H) hl (bi x d + 1) (bi y d)
  have t3 := tex_bd (W := W) (H := H) hl (bi x d) (bi y d + 1)
  have t4 := tex_bd (W := W) (H := H) hl (bi x d + 1) (bi y d + 1)
  have l1 := mix_bd hu.1 (Int.le_of_lt hu.2) t1.1 t1.2 t2.1 t2.2
  have l2 := mix_bd hu.1 (Int.le_of_lt hu.2) t3.1 t3.2 t4.1 t4.2
  have p1 := fit2 _ (2 * d - bu x d) t1.1 t1.2 (by omega) (by omega)
  have p2 := fit2 _ (bu x d) t2.1 t2.2 (by omega) (by omega)
  have p3 := fit2 _ (2 * d - bu x d) t3.1 t3.2 (by omega) (by omega)
  have p4 := fit2 _ (bu x d) t4.1 t4.2 (by omega) (by omega)
  have ed : val W H l x y d = (tex W H l (bi x d) (bi y d) * (2 * d - bu x d) + tex W H l (bi x d + 1) (bi y d) * bu x d) * (2 * d - bu y d) + (tex W H l (bi x d) (bi y d + 1) * (2 * d - bu x d) + tex W H l (bi x d + 1) (bi y d + 1) * bu x d) * bu y d := rfl
  have q1 := fit (tex W H l (bi x d) (bi y d) * (2 * d - bu x d) + tex W H l (bi x d + 1) (bi y d) * bu x d) (2 * d - bu y d) (by omega) (by omega) (by omega) (by omega)
  have q2 := fit (tex W H l (bi x d) (bi y d + 1) * (2 * d - bu x d) + tex W H l (bi x d + 1) (bi y d + 1) * bu x d) (bu y d) (by omega) (by omega) (by omega) (by omega)
  rw [w64 (n := tex W H l (bi x d) (bi y d) * (2 * d - bu x d)) (by omega) (by omega), w64 (n := tex W H l (bi x d + 1) (bi y d) * bu x d) (by omega) (by omega), w64 (n := tex W H l (bi x d) (bi y d + 1) * (2 * d - bu x d)) (by omega) (by omega), w64 (n := tex W H l (bi x d + 1) (bi y d + 1) * bu x d) (by omega) (by omega)]
  rw [w64 (n := tex W H l (bi x d) (bi y d) * (2 * d - bu x d) + tex W H l (bi x d + 1) (bi y d) * bu x d) (by omega) (by omega), w64 (n := tex W H l (bi x d) (bi y d + 1) * (2 * d - bu x d) + tex W H l (bi x d + 1) (bi y d + 1) * bu x d) (by omega) (by omega)]
  rw [w64 (n := (tex W H l (bi x d) (bi y d) * (2 * d - bu x d) + tex W H l (bi x d + 1) (bi y d) * bu x d) * (2 * d - bu y d)) (by omega) (by omega), w64 (n := (tex W H l (bi x d) (bi y d + 1) * (2 * d - bu x d) + tex W H l (bi x d + 1) (bi y d + 1) * bu x d) * bu y d) (by omega) (by omega)]
  rw [← ed, w64 (n := val W H l x y d) (by omega) (by omega), w64 (n := 2 * d * (2 * d)) (by omega) (by omega)]
  rw [of_f hV1 (by omega) (by omega) (by omega) (by omega)]
  rfl
theorem cover_f {k : Nat} (hk : 1 ≤ k) {n d lo hi : Int} (hn : 0 ≤ n) (hn2 : n ≤ 1099511627776) (hd : 1 ≤ d) (hd2 : d ≤ 1099511627776) (hlo : 0 ≤ lo) (hlh : lo < hi) (hhi : hi ≤ 255) :
    ramp_Cover.f k n d lo hi = some (cov n d lo hi) := by
  unfold ramp_Cover.f cov
  have b1 : 0 ≤ lo * d := Int.mul_nonneg hlo (by omega)
  have b2 : lo * d ≤ 255 * 1099511627776 := Int.mul_le_mul (by omega) hd2 (by omega) (by omega)
  have b3 : hi * d ≤ 255 * 1099511627776 := Int.mul_le_mul (by omega) hd2 (by omega) (by omega)
  have e : (hi - lo) * d = hi * d - lo * d := Int.sub_mul _ _ _
  have hp : 0 < (hi - lo) * d := Int.mul_pos (by omega) (by omega)
  rw [mx_of_le (show 0 ≤ hi by omega), mx_of_le hlo]
  rw [rcmp_f hk hn (by omega) (by omega) (by omega) (by omega) (by omega) (by omega) (by omega), rcmp_f hk hn (by omega) (by omega) (by omega) (by omega) (by omega) (by omega) (by omega)]
  simp only [Option.bind_some, Int.mul_one]
  by_cases h1 : hi * d ≤ n
  · rw [if_pos (show sgn (n - hi * d) ≥ 0 from sgn_ge_zero.2 (by omega)), if_pos h1]
  · rw [if_neg (show ¬ sgn (n - hi * d) ≥ 0 from fun h => h1 (by have := sgn_ge_zero.1 h; omega)), if_neg h1, if_neg (show ¬ lo ≥ hi by omega)]
    by_cases h2 : n ≤ lo * d
    · rw [if_pos (sgn_le_zero.2 (by omega)), if_pos (show lo ≥ 0 from hlo), if_pos h2]
    · rw [if_neg (fun h => h2 (by have := sgn_le_zero.1 h; omega)), if_neg h2]
      have hm := cov_mid hd hlh h1 h2
      rw [w64 (n := hi - lo) (by omega) (by omega), w64 (n := (hi - lo) * d) (by omega) (by omega), if_neg (by omega)]
      rw [w64 (n := lo * d) (by omega) (by omega), w64 (n := n - lo * d) (by omega) (by omega), w64 (n := (n - lo * d) * 255) (by omega) (by omega)]
      rw [Int.tdiv_eq_ediv_of_nonneg (by omega), w64 (by omega) (by omega)]
      congr 1
      omega
theorem blend_f {a b c : Int} (ha : 0 ≤ a) (ha2 : a ≤ 255) (hb : 0 ≤ b) (hb2 : b ≤ 255) (hc : 0 ≤ c) (hc2 : c ≤ 255) : ramp_Blend.f a b c = some (blend a b c) := by
  unfold ramp_Blend.f
  rw [blend_go ha ha2 hb hb2 hc hc2]
  have h := blend_between (m := 0) (M := 255) hc hc2 ha hb ha2 hb2
  congr 1
  omega
end Go.Proofs.Ytfbnaicnmkkohaa.Glue
