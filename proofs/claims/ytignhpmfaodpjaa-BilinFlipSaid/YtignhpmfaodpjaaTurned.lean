/- A field that is turned round has the same between its texels, turned round. Conditions: the den is at least 1. -/
import Derived.Test.YtignhpmfaodpjaaGlue
namespace Go.Proofs.Ytignhpmfaodpjaa.Turned
open Go Go.RowKit Go.Proofs.YtignhpmfaodpjaaW.PrintWords Go.Proofs.YtignhpmfaodpjaaW.PrintLast Go.Proofs.YtignhpmfaodpjaaW.PrintMore Go.Proofs.Ytignhpmfaodpjaa.Core Go.Proofs.Ytignhpmfaodpjaa.PBilinFlat Go.Proofs.Ytignhpmfaodpjaa.Glue
/-- between two of a row -/
def mid (f : Int → Int) (x d : Int) : Int := f (bi x d) * (2 * d - bu x d) + f (bi x d + 1) * bu x d
theorem mid_turn {f g : Int → Int} {N x d : Int} (hd : 1 ≤ d) (h : ∀ i, g i = f (N - 1 - i)) : mid g (N * d - x) d = mid f x d := by
  have a1 := bu_eq x d
  have a2 := bu_eq (N * d - x) d
  have b1 := bu_bd (x := x) hd
  have b2 := bu_bd (x := N * d - x) hd
  unfold mid
  generalize bi x d = b at *
  generalize bu x d = u at *
  generalize bi (N * d - x) d = b' at *
  generalize bu (N * d - x) d = u' at *
  have e : (N - 1 - b - b') * (2 * d) = u + u' := by
    have e1 : (N - 1 - b - b') * (2 * d) = 2 * (N * d) - 2 * d - b * (2 * d) - b' * (2 * d) := by
      rw [Int.sub_mul, Int.sub_mul, Int.sub_mul, Int.one_mul, Int.mul_left_comm N 2 d]
    omega
  obtain ⟨q, hq⟩ : ∃ q, N - 1 - b - b' = q := ⟨_, rfl⟩
  rw [hq] at e
  have q0 : 0 ≤ q := by
    by_cases c : 0 ≤ q
    · exact c
    · have := Int.mul_le_mul_of_nonneg_right (show q ≤ -1 by omega) (show 0 ≤ 2 * d by omega); omega
  have q1 : q ≤ 1 := by
    by_cases c : q ≤ 1
    · exact c
    · have := Int.mul_le_mul_of_nonneg_right (show 2 ≤ q by omega) (show 0 ≤ 2 * d by omega); omega
  rcases (show 0 < q ∨ q ≤ 0 by omega) with c | c
  · have hq1 : q = 1 := by omega
    rw [hq1, Int.one_mul] at e
    rw [h, h, show N - 1 - b' = b + 1 by omega, show N - 1 - (b' + 1) = b by omega, show 2 * d - u' = u by omega, show u' = 2 * d - u by omega]
    omega
  · have hq1 : q = 0 := by omega
    rw [hq1, Int.zero_mul] at e
    have hu : u = 0 := by omega
    have hu' : u' = 0 := by omega
    rw [hu, hu', h, h, show N - 1 - b' = b by omega]; simp
theorem clamp_turn {n i : Int} (hn : 1 ≤ n) : mx 0 (mn (n - 1) (n - 1 - i)) = n - 1 - mx 0 (mn (n - 1) i) := by
  unfold mx mn; split <;> split <;> (try split) <;> (try split) <;> omega
theorem tex_turn {W H : Int} {l : List Int} (hW : 1 ≤ W) (hW2 : W ≤ 64) (hH : 1 ≤ H) (hH2 : H ≤ 64) (hlen : (l.length : Int) = W * H) (i k : Int) :
    tex W H l.reverse i k = tex W H l (W - 1 - i) (H - 1 - k) := by
  unfold tex
  rw [clamp_turn hW, clamp_turn hH]
  have hb := index_bd (i := i) (k := k) hW hW2 hH hH2
  have hc := clamp_bd (i := i) hW
  have hk := clamp_bd (i := k) hH
  generalize mx 0 (mn (H - 1) k) = K at *
  generalize mx 0 (mn (W - 1) i) = I at *
  have e : (H - 1 - K) * W = H * W - W - K * W := by rw [Int.sub_mul, Int.sub_mul, Int.one_mul]
  have e2 : H * W = W * H := Int.mul_comm _ _
  rw [e]
  unfold rd
  generalize K * W = KW at *
  rw [List.getD_eq_getElem?_getD, List.getD_eq_getElem?_getD, List.getElem?_reverse (by omega)]
  congr 2
  omega
theorem val_turn {W H : Int} {l : List Int} {x y d : Int} (hd : 1 ≤ d) (hW : 1 ≤ W) (hW2 : W ≤ 64) (hH : 1 ≤ H) (hH2 : H ≤ 64) (hlen : (l.length : Int) = W * H) :
    val W H l.reverse (W * d - x) (H * d - y) d = val W H l x y d := by
  have hr : ∀ k, mid (fun i => tex W H l.reverse i k) (W * d - x) d = mid (fun i => tex W H l i (H - 1 - k)) x d := fun k => mid_turn hd fun i => tex_turn hW hW2 hH hH2 hlen i k
  show mid (fun k => mid (fun i => tex W H l.reverse i k) (W * d - x) d) (H * d - y) d = mid (fun k => mid (fun i => tex W H l i k) x d) y d
  exact mid_turn hd hr
end Go.Proofs.Ytignhpmfaodpjaa.Turned
