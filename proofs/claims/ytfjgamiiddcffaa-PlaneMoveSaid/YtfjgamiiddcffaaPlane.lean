/- plane.Square and plane.Line as plain numbers. Conditions: the points are not far. -/
import Derived.Test.YtfjgamiiddcffaaWalkLine
import Derived.Test.YtfjgamiiddcffaaCore
import Derived.Lib.Hide
namespace Go.Proofs.Ytfjgamiiddcffaa.Plane
open Go Go.RowKit Go.Lib Go.Proofs.YtfjgamiiddcffaaW.PrintWords Go.Proofs.YtfjgamiiddcffaaW.PrintLast Go.Proofs.YtfjgamiiddcffaaW.PrintMore Go.Proofs.Ytfjgamiiddcffaa.PPlaneZero Go.Proofs.Ytfjgamiiddcffaa.WalkSquare Go.Proofs.Ytfjgamiiddcffaa.Core
set_option linter.unusedVariables false
set_option linter.unusedSimpArgs false
theorem of_loop (x0 x1 : Int) (b : Nat) : ∀ (k a : Nat), b + 1 ≤ k → 0 < a ∨ 0 < b → root_Of.l0 k x0 x1 (a : Int) (b : Int) =
    some (wrap64 (Int.tdiv x0 (Nat.gcd a b : Nat)), wrap64 (Int.tdiv x1 (Nat.gcd a b : Nat)), 0) := by
  induction b using Nat.strongRecOn with
  | _ b ih =>
    intro k a hk hab
    obtain ⟨k, rfl⟩ : ∃ m, k = m + 1 := ⟨k - 1, by omega⟩
    simp only [root_Of.l0]
    by_cases hb : b = 0
    · subst hb
      rw [if_pos (by simp), if_neg (by omega), Nat.gcd_zero_right]
    · rw [if_neg (by omega)]
      have e : Int.tmod (a : Int) (b : Int) = ((a % b : Nat) : Int) := by rw [Int.tmod_eq_emod_of_nonneg (by omega)]; rfl
      have hlt := Nat.mod_lt a (Nat.pos_of_ne_zero hb)
      rw [e, ih (a % b) hlt k b (by omega) (.inl (by omega)), Nat.gcd_comm a b, Nat.gcd_rec b a, Nat.gcd_comm (a % b) b]
/-- a fraction in its least form -/
theorem of_f {k : Nat} {n d : Int} (hn : 0 ≤ n) (hn2 : n < 9223372036854775808) (hd : 1 ≤ d) (hd2 : d < 9223372036854775808) (hk : d.toNat + 2 ≤ k) :
    root_Of.f k n d = some (n / (Int.gcd n d : Nat), d / (Int.gcd n d : Nat), 0) := by
  obtain ⟨k, rfl⟩ : ∃ m, k = m + 1 := ⟨k - 1, by omega⟩
  unfold root_Of.f
  rw [if_neg (by omega)]
  simp only [root_Of.j0]
  rw [if_neg (by simp; omega)]
  obtain ⟨a, rfl⟩ := Int.eq_ofNat_of_zero_le hn
  obtain ⟨b, rfl⟩ := Int.eq_ofNat_of_zero_le (show 0 ≤ d by omega)
  rw [of_loop _ _ b k a (by simp at hk; omega) (.inr (by omega))]
  have e : Int.gcd (a : Int) (b : Int) = Nat.gcd a b := rfl
  rw [e]
  have hg : 0 < Nat.gcd a b := Nat.gcd_pos_of_pos_right a (by omega)
  have h1 : ((a : Int) / (Nat.gcd a b : Nat)) ≤ a := Int.ediv_le_self _ hn
  have h2 : ((b : Int) / (Nat.gcd a b : Nat)) ≤ b := Int.ediv_le_self _ (by omega)
  have h3 : 0 ≤ ((a : Int) / (Nat.gcd a b : Nat)) := Int.ediv_nonneg hn (by omega)
  have h4 : 0 ≤ ((b : Int) / (Nat.gcd a b : Nat)) := Int.ediv_nonneg (by omega) (by omega)
  rw [Int.tdiv_eq_ediv_of_nonneg hn, Int.tdiv_eq_ediv_of_nonneg (by omega), w64 (by omega) (by omega), w64 (by omega) (by omega)]
theorem of_bad {k : Nat} {n d : Int} (hk : 1 ≤ k) (h : n < 0 ∨ d < 1) : root_Of.f k n d = some (0, 0, 4) := by
  obtain ⟨k, rfl⟩ : ∃ m, k = m + 1 := ⟨k - 1, by omega⟩
  unfold root_Of.f
  by_cases hn : n < 0
  · rw [if_pos hn]; simp [root_Of.j0]
  · rw [if_neg hn]
    have : d < 1 := by omega
    simp [root_Of.j0, this]
theorem of_parts {n d : Int} (hn : 0 ≤ n) (hd : 1 ≤ d) : 1 ≤ ((Int.gcd n d : Nat) : Int) ∧ ((Int.gcd n d : Nat) : Int) * (n / (Int.gcd n d : Nat)) = n ∧ ((Int.gcd n d : Nat) : Int) * (d / (Int.gcd n d : Nat)) = d ∧
    0 ≤ n / (Int.gcd n d : Nat) ∧ n / (Int.gcd n d : Nat) ≤ n ∧ 1 ≤ d / (Int.gcd n d : Nat) ∧ d / (Int.gcd n d : Nat) ≤ d := by
  have hg : 0 < Int.gcd n d := Int.gcd_pos_of_ne_zero_right _ (by omega)
  have h1 : ((Int.gcd n d : Nat) : Int) ∣ n := Int.gcd_dvd_left ..
  have h2 : ((Int.gcd n d : Nat) : Int) ∣ d := Int.gcd_dvd_right ..
  refine ⟨by omega, Int.mul_ediv_cancel' h1, Int.mul_ediv_cancel' h2, Int.ediv_nonneg hn (by omega), Int.ediv_le_self _ hn, ?_, Int.ediv_le_self _ (by omega)⟩
  exact Int.le_ediv_of_mul_le (by omega) (by have := Int.le_of_dvd (by omega) h2; omega)

theorem mb {a b A B : Int} (h1 : -A ≤ a) (h2 : a ≤ A) (h3 : -B ≤ b) (h4 : b ≤ B) : -(A * B) ≤ a * b ∧ a * b ≤ A * B := by
  have p1 := Int.mul_nonneg (show 0 ≤ A - a by omega) (show 0 ≤ B + b by omega)
  have p2 := Int.mul_nonneg (show 0 ≤ A + a by omega) (show 0 ≤ B - b by omega)
  have p3 := Int.mul_nonneg (show 0 ≤ A - a by omega) (show 0 ≤ B - b by omega)
  have p4 := Int.mul_nonneg (show 0 ≤ A + a by omega) (show 0 ≤ B + b by omega)
  simp only [Int.sub_mul, Int.mul_sub, Int.add_mul, Int.mul_add] at p1 p2 p3 p4
  omega
theorem iw {n : Int} (h1 : -9223372036854775808 ≤ n) (h2 : n < 9223372036854775808) : IntKind.i64.wrap n = n := by rw [IntKind.wrap_i64]; omega
/-- the least form of a fraction -/
def low (n d : Int) : Int × Int := (n / (Int.gcd n d : Nat), d / (Int.gcd n d : Nat))
def sqd (wx wy tx ty kx ky : Int) : Int × Int :=
  if wx * tx + wy * ty ≤ 0 then (tx * tx + ty * ty, 1) else if wx * wx + wy * wy ≤ wx * tx + wy * ty then (kx * kx + ky * ky, 1)
  else low ((wx * ty - wy * tx) * (wx * ty - wy * tx)) (wx * wx + wy * wy)
def lnd (wx wy tx ty : Int) : Int × Int :=
  if wx * wx + wy * wy = 0 then (tx * tx + ty * ty, 1) else low ((wx * ty - wy * tx) * (wx * ty - wy * tx)) (wx * wx + wy * wy)
def sq (ax ay bx bY px py : Int) : Int × Int := sqd (bx - ax) (bY - ay) (px - ax) (py - ay) (px - bx) (py - bY)
def ln (ax ay bx bY px py : Int) : Int × Int := lnd (bx - ax) (bY - ay) (px - ax) (py - ay)
/-- a number within n -/
abbrev In (n a : Int) : Prop := -n ≤ a ∧ a ≤ n
theorem sub_f {a b c d : Int} (ha : In 40960 a) (hb : In 40960 b) (hc : In 40960 c) (hd : In 40960 d) : plane_Sub.f a b c d = some (a - c, b - d) := by
  unfold In at *
  unfold plane_Sub.f; rw [w64 (by omega) (by omega), w64 (by omega) (by omega)]
theorem dot_f {a b c d : Int} (ha : In 81920 a) (hb : In 81920 b) (hc : In 81920 c) (hd : In 81920 d) : plane_Dot.f a b c d = some (a * c + b * d) := by
  have h1 := mb ha.1 ha.2 hc.1 hc.2
  have h2 := mb hb.1 hb.2 hd.1 hd.2
  unfold plane_Dot.f; rw [w64 (n := a * c) (by omega) (by omega), w64 (n := b * d) (by omega) (by omega), w64 (by omega) (by omega)]
theorem cross_f {a b c d : Int} (ha : In 81920 a) (hb : In 81920 b) (hc : In 81920 c) (hd : In 81920 d) : plane_Cross.f a b c d = some (a * d - b * c) := by
  have h1 := mb ha.1 ha.2 hd.1 hd.2
  have h2 := mb hb.1 hb.2 hc.1 hc.2
  unfold plane_Cross.f; rw [w64 (n := a * d) (by omega) (by omega), w64 (n := b * c) (by omega) (by omega), w64 (by omega) (by omega)]
theorem of_low {n d : Int} (hn : 0 ≤ n) (hn2 : n < 9223372036854775808) (hd : 1 ≤ d) (hd2 : d < 9223372036854775808) (w : World) :
    Calls Try.prog 20 #[.int .i64 n, .int .i64 d] w (Ret (.tuple #[.agg #[.int .i64 (low n d).1, .int .i64 (low n d).2], .int .i64 0]) w) :=
  root_Of.calls (d.toNat + 2) n d _ _ _ w (of_f hn hn2 hd hd2 (Nat.le_refl _))
theorem sqn (a : Int) : 0 ≤ a * a := by
  rcases Int.le_total 0 a with h | h
  · exact Int.mul_nonneg h h
  · have := Int.mul_nonneg (show 0 ≤ -a by omega) (show 0 ≤ -a by omega); rwa [Int.neg_mul_neg] at this
theorem sq_calls {ax ay bx bY px py : Int} (hax : In 8192 ax) (hay : In 8192 ay) (hbx : In 8192 bx) (hbY : In 8192 bY) (hpx : In 32768 px) (hpy : In 32768 py) (w : World) : Calls Try.prog 8 #[.agg #[.int .i64 ax, .int .i64 ay, .int .i64 bx, .int .i64 bY], .agg #[.int .i64 px, .int .i64 py]] w (Ret (.agg #[.int .i64 (sq ax ay bx bY px py).1, .int .i64 (sq ax ay bx bY px py).2]) w) := by
  have s1 := sub_f (a := bx) (b := bY) (c := ax) (d := ay) (by unfold In at *; omega) (by unfold In at *; omega) (by unfold In at *; omega) (by unfold In at *; omega)
  have s2 := sub_f (a := px) (b := py) (c := ax) (d := ay) (by unfold In at *; omega) (by unfold In at *; omega) (by unfold In at *; omega) (by unfold In at *; omega)
  have s3 := sub_f (a := px) (b := py) (c := bx) (d := bY) (by unfold In at *; omega) (by unfold In at *; omega) (by unfold In at *; omega) (by unfold In at *; omega)
  have i1 : In 16384 (bx - ax) := by unfold In at *; omega
  have i2 : In 16384 (bY - ay) := by unfold In at *; omega
  have i3 : In 40960 (px - ax) := by unfold In at *; omega
  have i4 : In 40960 (py - ay) := by unfold In at *; omega
  have i5 : In 40960 (px - bx) := by unfold In at *; omega
  have i6 : In 40960 (py - bY) := by unfold In at *; omega
  unfold sq
  generalize bx - ax = wx at *
  generalize bY - ay = wy at *
  generalize px - ax = tx at *
  generalize py - ay = ty at *
  generalize px - bx = kx at *
  generalize py - bY = ky at *
  have m1 := mb i1.1 i1.2 i4.1 i4.2
  have m2 := mb i2.1 i2.2 i3.1 i3.2
  have hc : In 1342177280 (wx * ty - wy * tx) := by unfold In; omega
  have hcc := mb hc.1 hc.2 hc.1 hc.2
  have m3 := mb i1.1 i1.2 i1.1 i1.2
  have m4 := mb i2.1 i2.2 i2.1 i2.2
  have n1 := sqn (wx * ty - wy * tx)
  have big : ∀ {n a : Int}, n ≤ 81920 → In n a → In 81920 a := by intro n a h h2; unfold In at *; omega
  refine square ax ay bx bY px py wx wy tx ty (wx * tx + wy * ty) (wx * wx + wy * wy) (tx * tx + ty * ty) kx ky (kx * kx + ky * ky) (wx * ty - wy * tx) ((wx * ty - wy * tx) * (wx * ty - wy * tx))
    (low ((wx * ty - wy * tx) * (wx * ty - wy * tx)) (wx * wx + wy * wy)).1 (low ((wx * ty - wy * tx) * (wx * ty - wy * tx)) (wx * wx + wy * wy)).2 _ _ w
    (hid (fun w => plane_Sub.calls _ _ _ _ _ _ w s1)) (hid (fun w => plane_Sub.calls _ _ _ _ _ _ w s2))
    (hid (fun w => plane_Dot.calls _ _ _ _ _ w (dot_f (big (by omega) i1) (big (by omega) i2) (big (by omega) i3) (big (by omega) i4))))
    (hid (fun w => plane_Dot.calls _ _ _ _ _ w (dot_f (big (by omega) i1) (big (by omega) i2) (big (by omega) i1) (big (by omega) i2))))
    (hid (fun w => plane_Dot.calls _ _ _ _ _ w (dot_f (big (by omega) i3) (big (by omega) i4) (big (by omega) i3) (big (by omega) i4))))
    (hid (fun w => plane_Sub.calls _ _ _ _ _ _ w s3))
    (hid (fun w => plane_Dot.calls _ _ _ _ _ w (dot_f (big (by omega) i5) (big (by omega) i6) (big (by omega) i5) (big (by omega) i6))))
    (hid (fun w => plane_Cross.calls _ _ _ _ _ w (cross_f (big (by omega) i1) (big (by omega) i2) (big (by omega) i3) (big (by omega) i4))))
    (hid (iw (by omega) (by omega))) (hid (fun h1 h2 w => of_low n1 (by omega) (by omega) (by omega) w)) (hid ?_)
  unfold sqd
  by_cases c1 : wx * tx + wy * ty ≤ 0
  · left; rw [if_pos c1]; exact ⟨c1, rfl, rfl⟩
  · right
    rw [if_neg c1]
    by_cases c2 : wx * wx + wy * wy ≤ wx * tx + wy * ty
    · left; rw [if_pos c2]; exact ⟨by omega, c2, rfl, rfl⟩
    · right; rw [if_neg c2]; exact ⟨by omega, by omega, rfl, rfl⟩
theorem ln_calls {ax ay bx bY px py : Int} (hax : In 8192 ax) (hay : In 8192 ay) (hbx : In 8192 bx) (hbY : In 8192 bY) (hpx : In 32768 px) (hpy : In 32768 py) (w : World) : Calls Try.prog 14 #[.agg #[.int .i64 ax, .int .i64 ay, .int .i64 bx, .int .i64 bY], .agg #[.int .i64 px, .int .i64 py]] w (Ret (.agg #[.int .i64 (ln ax ay bx bY px py).1, .int .i64 (ln ax ay bx bY px py).2]) w) := by
  have s1 := sub_f (a := bx) (b := bY) (c := ax) (d := ay) (by unfold In at *; omega) (by unfold In at *; omega) (by unfold In at *; omega) (by unfold In at *; omega)
  have s2 := sub_f (a := px) (b := py) (c := ax) (d := ay) (by unfold In at *; omega) (by unfold In at *; omega) (by unfold In at *; omega) (by unfold In at *; omega)
  have i1 : In 16384 (bx - ax) := by unfold In at *; omega
  have i2 : In 16384 (bY - ay) := by unfold In at *; omega
  have i3 : In 40960 (px - ax) := by unfold In at *; omega
  have i4 : In 40960 (py - ay) := by unfold In at *; omega
  unfold ln
  generalize bx - ax = wx at *
  generalize bY - ay = wy at *
  generalize px - ax = tx at *
  generalize py - ay = ty at *
  have m1 := mb i1.1 i1.2 i4.1 i4.2
  have m2 := mb i2.1 i2.2 i3.1 i3.2
  have hc : In 1342177280 (wx * ty - wy * tx) := by unfold In; omega
  have hcc := mb hc.1 hc.2 hc.1 hc.2
  have m3 := mb i1.1 i1.2 i1.1 i1.2
  have m4 := mb i2.1 i2.2 i2.1 i2.2
  have n1 := sqn (wx * ty - wy * tx)
  have n2 := sqn wx
  have n3 := sqn wy
  have big : ∀ {n a : Int}, n ≤ 81920 → In n a → In 81920 a := by intro n a h h2; unfold In at *; omega
  refine WalkLine.line ax ay bx bY px py wx wy tx ty (wx * wx + wy * wy) (tx * tx + ty * ty) (wx * ty - wy * tx) ((wx * ty - wy * tx) * (wx * ty - wy * tx))
    (low ((wx * ty - wy * tx) * (wx * ty - wy * tx)) (wx * wx + wy * wy)).1 (low ((wx * ty - wy * tx) * (wx * ty - wy * tx)) (wx * wx + wy * wy)).2 _ _ w
    (hid (fun w => plane_Sub.calls _ _ _ _ _ _ w s1)) (hid (fun w => plane_Sub.calls _ _ _ _ _ _ w s2))
    (hid (fun w => plane_Dot.calls _ _ _ _ _ w (dot_f (big (by omega) i1) (big (by omega) i2) (big (by omega) i1) (big (by omega) i2))))
    (hid (fun w => plane_Dot.calls _ _ _ _ _ w (dot_f (big (by omega) i3) (big (by omega) i4) (big (by omega) i3) (big (by omega) i4))))
    (hid (fun w => plane_Cross.calls _ _ _ _ _ w (cross_f (big (by omega) i1) (big (by omega) i2) (big (by omega) i3) (big (by omega) i4))))
    (hid (iw (by omega) (by omega))) (hid (fun h1 w => of_low n1 (by omega) (by omega) (by omega) w)) (hid ?_)
  unfold lnd
  by_cases c1 : wx * wx + wy * wy = 0
  · left; rw [if_pos c1]; exact ⟨c1, rfl, rfl⟩
  · right; rw [if_neg c1]; exact ⟨by omega, rfl, rfl⟩
end Go.Proofs.Ytfjgamiiddcffaa.Plane
