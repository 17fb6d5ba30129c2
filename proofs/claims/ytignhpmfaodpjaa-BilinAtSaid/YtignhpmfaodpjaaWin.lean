/- A window of five by five texels, each as much as it is near, tells what is between the four near ones. Conditions: as each states. -/
import Derived.Test.YtignhpmfaodpjaaGlue
namespace Go.Proofs.Ytignhpmfaodpjaa.Win
open Go Go.RowKit Go.Proofs.YtignhpmfaodpjaaW.PrintWords Go.Proofs.YtignhpmfaodpjaaW.PrintLast Go.Proofs.YtignhpmfaodpjaaW.PrintMore Go.Proofs.Ytignhpmfaodpjaa.Core Go.Proofs.Ytignhpmfaodpjaa.PBilinFlat Go.Proofs.Ytignhpmfaodpjaa.Glue
set_option linter.unusedVariables false
set_option linter.unusedSimpArgs false
/-- how near a texel is -/
def nr (x d i : Int) : Int := mx 0 (2 * d - mx (2 * x - (2 * i + 1) * d) ((2 * i + 1) * d - 2 * x))
def row (f : Int → Int) (lo : Int) : Nat → Int
  | 0 => 0
  | j + 1 => row f lo j + f (lo + (j : Int))
def one (W H : Int) (l : List Int) (x y d i k : Int) : Int := tex W H l i k * nr x d i * nr y d k
def line (W H : Int) (l : List Int) (x y d : Int) (lo k : Int) (j : Nat) : Int := row (fun i => one W H l x y d i k) lo j
def all (W H : Int) (l : List Int) (x y d : Int) (lx ly : Int) (j : Nat) : Int := row (fun k => line W H l x y d lx k 5) ly j
theorem nr_bd (x d i : Int) (hd : 0 ≤ d) : 0 ≤ nr x d i ∧ nr x d i ≤ 2 * d := by
  unfold nr
  refine ⟨le_mx_left _ _, mx_le (by omega) ?_⟩
  have h1 := le_mx_left (2 * x - (2 * i + 1) * d) ((2 * i + 1) * d - 2 * x)
  have h2 := le_mx_right (2 * x - (2 * i + 1) * d) ((2 * i + 1) * d - 2 * x)
  omega
theorem off_eq (x d i : Int) : 2 * x - (2 * i + 1) * d = (bi x d - i) * (2 * d) + bu x d := by
  have h := bu_eq x d
  have e : (2 * i + 1) * d = i * (2 * d) + d := by rw [Int.add_mul, Int.one_mul, Int.mul_comm 2 i, Int.mul_assoc]
  rw [Int.sub_mul, e]; omega
theorem nr_at {x d : Int} (hd : 1 ≤ d) : nr x d (bi x d) = 2 * d - bu x d := by
  have h := off_eq x d (bi x d)
  have hb := bu_bd (x := x) hd
  unfold nr
  have e : (2 * bi x d + 1) * d - 2 * x = -(2 * x - (2 * bi x d + 1) * d) := by omega
  rw [e, h, Int.sub_self, Int.zero_mul]
  unfold mx; split <;> split <;> omega
theorem nr_next {x d : Int} (hd : 1 ≤ d) : nr x d (bi x d + 1) = bu x d := by
  have h := off_eq x d (bi x d + 1)
  have hb := bu_bd (x := x) hd
  unfold nr
  have e : (2 * (bi x d + 1) + 1) * d - 2 * x = -(2 * x - (2 * (bi x d + 1) + 1) * d) := by omega
  have e2 : (bi x d - (bi x d + 1)) * (2 * d) = -(2 * d) := by
    rw [show bi x d - (bi x d + 1) = -1 by omega, Int.neg_mul, Int.one_mul]
  rw [e, h, e2]
  unfold mx; split <;> split <;> omega
theorem nr_far {x d i : Int} (hd : 1 ≤ d) (h1 : i ≠ bi x d) (h2 : i ≠ bi x d + 1) : nr x d i = 0 := by
  have h := off_eq x d i
  have hb := bu_bd (x := x) hd
  unfold nr
  have e : (2 * i + 1) * d - 2 * x = -(2 * x - (2 * i + 1) * d) := by omega
  rw [e, h]
  rcases Int.lt_or_gt_of_ne h1 with c | c
  · have q : 1 * (2 * d) ≤ (bi x d - i) * (2 * d) := Int.mul_le_mul_of_nonneg_right (by omega) (by omega)
    generalize (bi x d - i) * (2 * d) = p at *
    unfold mx; split <;> split <;> omega
  · have q : (bi x d - i) * (2 * d) ≤ (-2) * (2 * d) := Int.mul_le_mul_of_nonneg_right (by omega) (by omega)
    generalize (bi x d - i) * (2 * d) = p at *
    unfold mx; split <;> split <;> omega
/-- the near texel is one of two in the middle of the window -/
theorem bi_near {x d : Int} (hd : 1 ≤ d) : bi x d = x / d - 1 ∨ bi x d = x / d := by
  have h := bu_eq x d
  have hb := bu_bd (x := x) hd
  have e := Int.mul_ediv_add_emod x d
  have r1 := Int.emod_nonneg x (show d ≠ 0 by omega)
  have r2 := Int.emod_lt_of_pos x (show 0 < d by omega)
  generalize hq : x / d = q at *
  generalize x % d = r at *
  have c1 : bi x d ≤ q := by
    by_cases c : bi x d ≤ q
    · exact c
    · have m : (q + 1) * (2 * d) ≤ bi x d * (2 * d) := Int.mul_le_mul_of_nonneg_right (by omega) (by omega)
      have e2 : (q + 1) * (2 * d) = 2 * (d * q) + 2 * d := by rw [Int.add_mul, Int.one_mul, Int.mul_comm q, Int.mul_assoc]
      omega
  have c2 : q - 1 ≤ bi x d := by
    by_cases c : q - 1 ≤ bi x d
    · exact c
    · have m : bi x d * (2 * d) ≤ (q - 2) * (2 * d) := Int.mul_le_mul_of_nonneg_right (by omega) (by omega)
      have e2 : (q - 2) * (2 * d) = 2 * (d * q) - 2 * (2 * d) := by rw [Int.sub_mul, Int.mul_comm q, Int.mul_assoc]
      omega
  omega
theorem row5 {f : Int → Int} {lo i : Int} (h : i = lo + 1 ∨ i = lo + 2) (hz : ∀ j, j ≠ i → j ≠ i + 1 → f j = 0) : row f lo 5 = f i + f (i + 1) := by
  simp only [row]
  rcases h with rfl | rfl
  · rw [hz (lo + ((0 : Nat) : Int)) (by omega) (by omega), hz (lo + ((3 : Nat) : Int)) (by omega) (by omega), hz (lo + ((4 : Nat) : Int)) (by omega) (by omega)]
    rw [show lo + ((1 : Nat) : Int) = lo + 1 by omega, show lo + ((2 : Nat) : Int) = lo + 1 + 1 by omega]; omega
  · rw [hz (lo + ((0 : Nat) : Int)) (by omega) (by omega), hz (lo + ((1 : Nat) : Int)) (by omega) (by omega), hz (lo + ((4 : Nat) : Int)) (by omega) (by omega)]
    rw [show lo + ((2 : Nat) : Int) = lo + 2 by omega, show lo + ((3 : Nat) : Int) = lo + 2 + 1 by omega]; omega
theorem row_bd {f : Int → Int} {M : Int} (hf : ∀ i, 0 ≤ f i ∧ f i ≤ M) (lo : Int) : ∀ j : Nat, 0 ≤ row f lo j ∧ row f lo j ≤ (j : Int) * M
  | 0 => by simp [row]
  | j + 1 => by
    have h := row_bd hf lo j
    have h2 := hf (lo + (j : Int))
    have e : ((j + 1 : Nat) : Int) * M = (j : Int) * M + M := by push_cast; rw [Int.add_mul, Int.one_mul]
    rw [e]; simp only [row]; omega
theorem one_bd {W H : Int} {l : List Int} (hl : ∀ x ∈ l, 0 ≤ x ∧ x ≤ 255) {x y d : Int} (hd : 1 ≤ d) (hd2 : d ≤ 256) (i k : Int) :
    0 ≤ tex W H l i k * nr x d i ∧ tex W H l i k * nr x d i ≤ 130560 ∧ 0 ≤ one W H l x y d i k ∧ one W H l x y d i k ≤ 66846720 := by
  have ht := tex_bd (W := W) (H := H) hl i k
  have h1 := nr_bd x d i (by omega)
  have h2 := nr_bd y d k (by omega)
  have p1 : 0 ≤ tex W H l i k * nr x d i := Int.mul_nonneg ht.1 h1.1
  have p2 : tex W H l i k * nr x d i ≤ 255 * 512 := Int.mul_le_mul ht.2 (by omega) h1.1 (by omega)
  have p3 : 0 ≤ tex W H l i k * nr x d i * nr y d k := Int.mul_nonneg p1 h2.1
  have p4 : tex W H l i k * nr x d i * nr y d k ≤ 130560 * 512 := Int.mul_le_mul (by omega) (by omega) h2.1 (by omega)
  exact ⟨p1, by omega, p3, by unfold one; omega⟩
theorem all_eq {W H : Int} {l : List Int} {x y d : Int} (hd : 1 ≤ d) : all W H l x y d (x / d - 2) (y / d - 2) 5 = val W H l x y d := by
  have hk : ∀ k, line W H l x y d (x / d - 2) k 5 = (tex W H l (bi x d) k * (2 * d - bu x d) + tex W H l (bi x d + 1) k * bu x d) * nr y d k := by
    intro k
    unfold line
    rw [row5 (i := bi x d) (by have := bi_near (x := x) hd; omega) (fun j h1 h2 => by unfold one; rw [nr_far hd h1 h2, Int.mul_zero, Int.zero_mul])]
    unfold one
    rw [nr_at hd, nr_next hd, Int.add_mul]
  unfold all
  rw [row5 (i := bi y d) (by have := bi_near (x := y) hd; omega) (fun j h1 h2 => by rw [hk, nr_far hd h1 h2, Int.mul_zero])]
  rw [hk, hk, nr_at hd, nr_next hd]
  rfl
end Go.Proofs.Ytignhpmfaodpjaa.Win
