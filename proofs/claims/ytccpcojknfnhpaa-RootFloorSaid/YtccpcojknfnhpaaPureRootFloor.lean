/- A division that is rounded down is what it is; for every two numbers. -/
import Derived.Test.YtccpcojknfnhpaaPRootFloorx4
import Derived.Test.YtccpcojknfnhpaaCore
import Derived.OpenShut
namespace Go.Proofs.Ytccpcojknfnhpaa.Pure
open Go Go.RowKit Go.Proofs.Ytccpcojknfnhpaa.PRootFloor Go.Proofs.YtccpcojknfnhpaaW.PrintWords Go.Proofs.YtccpcojknfnhpaaW.PrintLast Go.Proofs.YtccpcojknfnhpaaW.PrintMore Go.Proofs.Ytccpcojknfnhpaa.Core

namespace RootFloor
theorem awake_f {k : Nat} (hk : 200 ≤ k) : punchcutlaw02_awake.f k = some true := at_rounds (fun k => punchcutlaw02_awake.mono k) hk (by decide +kernel)
/-- a division that is rounded down -/
theorem floor_f {a b : Int} (ha : -9223372036854775808 ≤ a) (ha2 : a < 9223372036854775808) (hb : 1 ≤ b) : root_Floor.f a b = some (a / b) := by
  unfold root_Floor.f
  rw [if_neg (by omega)]
  have hm1 := Int.emod_nonneg a (show b ≠ 0 by omega)
  have hm2 := Int.emod_lt_of_pos a (show 0 < b by omega)
  have hd := Int.mul_ediv_add_emod a b
  by_cases h0 : 0 ≤ a
  · rw [Int.tmod_eq_emod_of_nonneg h0, if_neg (by omega), Int.tdiv_eq_ediv_of_nonneg h0]
    have h1 : a / b ≤ a := Int.ediv_le_self _ h0
    have h2 : 0 ≤ a / b := Int.ediv_nonneg h0 (by omega)
    rw [w64 (by omega) (by omega)]
  · -- below 0 what is cut off is rounded up
    have hn1 := Int.emod_nonneg (-a) (show b ≠ 0 by omega)
    have hn2 := Int.emod_lt_of_pos (-a) (show 0 < b by omega)
    have hn := Int.mul_ediv_add_emod (-a) b
    have e1 : Int.tmod a b = -((-a) % b) := by
      rw [show Int.tmod a b = Int.tmod (-(-a)) b from by rw [Int.neg_neg], Int.neg_tmod, Int.tmod_eq_emod_of_nonneg (by omega)]
    have e2 : Int.tdiv a b = -((-a) / b) := by
      rw [show Int.tdiv a b = Int.tdiv (-(-a)) b from by rw [Int.neg_neg], Int.neg_tdiv, Int.tdiv_eq_ediv_of_nonneg (by omega)]
    rw [e1, e2]
    have h1 : (-a) / b ≤ -a := Int.ediv_le_self _ (by omega)
    have h2 : 0 ≤ (-a) / b := Int.ediv_nonneg (by omega) (by omega)
    by_cases c : -((-a) % b) < 0
    · rw [if_pos c]
      have e3 : a / b = -((-a) / b) - 1 := by
        have l1 : b * (-((-a) / b) - 1) = -(b * ((-a) / b)) - b := by rw [Int.mul_sub, Int.mul_neg, Int.mul_one]
        have l2 : a = b * (-((-a) / b) - 1) + (b - (-a) % b) := by omega
        have l3 := Int.ediv_emod_unique (a := a) (b := b) (r := b - (-a) % b) (q := -((-a) / b) - 1) (by omega)
        exact (l3.2 ⟨by omega, by omega, by omega⟩).1
      have h3 : (-a) / b < -a ∨ -a = 0 ∨ b = 1 := by
        by_cases c2 : b = 1
        · exact .inr (.inr c2)
        · left
          have := Int.ediv_lt_self_of_pos_of_ne_one (x := -a) (y := b) (by omega) c2
          exact this
      have h4 : (-a) / b < 9223372036854775808 := by
        rcases h3 with h3 | h3 | h3
        · omega
        · omega
        · subst h3; omega
      rw [w64 (n := -((-a) / b)) (by omega) (by omega), w64 (n := -((-a) / b) - 1) (by omega) (by omega), e3]
    · rw [if_neg c]
      have e3 : a / b = -((-a) / b) := by
        have l1 : b * (-((-a) / b)) = -(b * ((-a) / b)) := Int.mul_neg _ _
        have l3 := Int.ediv_emod_unique (a := a) (b := b) (r := 0) (q := -((-a) / b)) (by omega)
        exact (l3.2 ⟨by omega, by omega, by omega⟩).1
      rw [w64 (n := -((-a) / b)) (by omega) (by omega), e3]
end RootFloor
open RootFloor in
theorem RootFloor : punchcutlaw02_RootFloor.Pure := by
  intro a b wa wb
  have ha := bounds_i64 wa
  have hb := bounds_i64 wb
  refine ⟨200, ?_⟩
  unfold punchcutlaw02_RootFloor.f
  rw [awake_f (by omega)]
  simp only [Option.bind_some, if_true]
  have h1 := le_mx_left 1 b
  have h2 : mx 1 b ≤ 9223372036854775807 := mx_le (by omega) hb.2
  generalize mx 1 b = d at *
  rw [floor_f ha.1 (by omega) h1]
  simp only [Option.bind_some]
  have hm1 := Int.emod_nonneg a (show d ≠ 0 by omega)
  have hm2 := Int.emod_lt_of_pos a (show 0 < d by omega)
  have hd := Int.mul_ediv_add_emod a d
  rw [Int.mul_comm] at hd
  have e : wrap64 (a - wrap64 (a / d * d)) = a % d := by unfold wrap64; omega
  rw [e, if_pos hm1, decide_eq_true hm2]

end Go.Proofs.Ytccpcojknfnhpaa.Pure
