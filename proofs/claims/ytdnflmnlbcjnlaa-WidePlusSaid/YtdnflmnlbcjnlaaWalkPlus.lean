/- The sum of two pairs: what (punchcut/wide.Pair).Plus answers, and that nothing that was there changes. Conditions: the four halves are numbers of 64 bits. -/
import Derived.Test.YtdnflmnlbcjnlaaPWideMulx2
import Derived.Test.YtdnflmnlbcjnlaaCore
namespace Go.Proofs.Ytdnflmnlbcjnlaa.WalkPlus
open Go Go.RowKit Go.Proofs.Ytdnflmnlbcjnlaa.Core
section
variable (a b c d : Int) (w : World)
abbrev Tells (hi lo : Int) (over : Bool) (e : Ending) (w' : World) : Prop := e = .returned (.tuple #[.agg #[.int .u64 hi, .int .u64 lo], .bool over]) ∧ Below w.heap.size w w'
theorem below3 (x y z : Obj) : Below w.heap.size w (((w.alloc x).alloc y).alloc z) :=
  (((Below.refl _ _).alloc (Nat.le_refl _) _).alloc (by simp) _).alloc (by simp; omega) _
set_option maxHeartbeats 400000 in
theorem both (h1 : decide (IntKind.u64.wrap (b + d) < b) = true) (h2 : decide (IntKind.u64.wrap (a + c) < a) = true) :
    Calls Try.prog 20 #[.agg #[.int .u64 a, .int .u64 b], .agg #[.int .u64 c, .int .u64 d]] w (Tells w (IntKind.u64.wrap (IntKind.u64.wrap (a + c) + 1)) (IntKind.u64.wrap (b + d)) true) := by
  go_enter Try.func20, Try.ntmps20
  go_wp2
  exact bodyPost_ret (v := .tuple #[.agg #[.int .u64 (IntKind.u64.wrap (IntKind.u64.wrap (a + c) + 1)), .int .u64 (IntKind.u64.wrap (b + d))], .bool true]) (by simp [results, Try.results20, go_sem]) rfl ⟨rfl, below3 w _ _ _⟩
set_option maxHeartbeats 400000 in
theorem low (h1 : decide (IntKind.u64.wrap (b + d) < b) = true) (h2 : decide (IntKind.u64.wrap (a + c) < a) = false) (v : Bool) (h3 : (IntKind.u64.wrap (IntKind.u64.wrap (a + c) + 1) == 0) = v) :
    Calls Try.prog 20 #[.agg #[.int .u64 a, .int .u64 b], .agg #[.int .u64 c, .int .u64 d]] w (Tells w (IntKind.u64.wrap (IntKind.u64.wrap (a + c) + 1)) (IntKind.u64.wrap (b + d)) v) := by
  go_enter Try.func20, Try.ntmps20
  go_wp2
  exact bodyPost_ret (v := .tuple #[.agg #[.int .u64 (IntKind.u64.wrap (IntKind.u64.wrap (a + c) + 1)), .int .u64 (IntKind.u64.wrap (b + d))], .bool v]) (by simp [results, Try.results20, go_sem]) rfl ⟨rfl, below3 w _ _ _⟩
set_option maxHeartbeats 400000 in
theorem high (h1 : decide (IntKind.u64.wrap (b + d) < b) = false) (h2 : decide (IntKind.u64.wrap (a + c) < a) = true) :
    Calls Try.prog 20 #[.agg #[.int .u64 a, .int .u64 b], .agg #[.int .u64 c, .int .u64 d]] w (Tells w (IntKind.u64.wrap (IntKind.u64.wrap (a + c))) (IntKind.u64.wrap (b + d)) true) := by
  go_enter Try.func20, Try.ntmps20
  go_wp2
  exact bodyPost_ret (v := .tuple #[.agg #[.int .u64 (IntKind.u64.wrap (IntKind.u64.wrap (a + c))), .int .u64 (IntKind.u64.wrap (b + d))], .bool true]) (by simp [results, Try.results20, go_sem]) rfl ⟨rfl, below3 w _ _ _⟩
set_option maxHeartbeats 400000 in
theorem none (h1 : decide (IntKind.u64.wrap (b + d) < b) = false) (h2 : decide (IntKind.u64.wrap (a + c) < a) = false) :
    Calls Try.prog 20 #[.agg #[.int .u64 a, .int .u64 b], .agg #[.int .u64 c, .int .u64 d]] w (Tells w (IntKind.u64.wrap (IntKind.u64.wrap (a + c))) (IntKind.u64.wrap (b + d)) false) := by
  go_enter Try.func20, Try.ntmps20
  go_wp2
  exact bodyPost_ret (v := .tuple #[.agg #[.int .u64 (IntKind.u64.wrap (IntKind.u64.wrap (a + c))), .int .u64 (IntKind.u64.wrap (b + d))], .bool false]) (by simp [results, Try.results20, go_sem]) rfl ⟨rfl, below3 w _ _ _⟩
end
/-- the sum's halves, and whether it goes over -/
def hi (a b c d : Int) : Int := (a + c + (b + d) / 18446744073709551616) % 18446744073709551616
def lo (b d : Int) : Int := (b + d) % 18446744073709551616
def over (a b c d : Int) : Bool := decide (18446744073709551616 ≤ a + c + (b + d) / 18446744073709551616)
theorem plus_calls (a b c d : Int) (w : World) (ha : 0 ≤ a) (ha2 : a < 18446744073709551616) (hb : 0 ≤ b) (hb2 : b < 18446744073709551616) (hc : 0 ≤ c) (hc2 : c < 18446744073709551616) (hd : 0 ≤ d) (hd2 : d < 18446744073709551616) :
    Calls Try.prog 20 #[.agg #[.int .u64 a, .int .u64 b], .agg #[.int .u64 c, .int .u64 d]] w (Tells w (hi a b c d) (lo b d) (over a b c d)) := by
  have el : IntKind.u64.wrap (b + d) = lo b d := by unfold lo; rw [u64_wrap]
  have f1 : IntKind.u64.wrap (b + d) < b ↔ 18446744073709551616 ≤ b + d := by rw [u64_wrap]; omega
  have f2 : IntKind.u64.wrap (a + c) < a ↔ 18446744073709551616 ≤ a + c := by rw [u64_wrap]; omega
  by_cases h1 : IntKind.u64.wrap (b + d) < b
  · have g1 := f1.1 h1
    have e1 : IntKind.u64.wrap (IntKind.u64.wrap (a + c) + 1) = hi a b c d := by unfold hi; rw [u64_wrap, u64_wrap]; omega
    by_cases h2 : IntKind.u64.wrap (a + c) < a
    · have g2 := f2.1 h2
      have := both a b c d w (decide_eq_true h1) (decide_eq_true h2)
      rw [e1, el] at this
      rw [show over a b c d = true from decide_eq_true (by omega)]
      exact this
    · have g2 : ¬ 18446744073709551616 ≤ a + c := fun h => h2 (f2.2 h)
      have := low a b c d w (decide_eq_true h1) (decide_eq_false h2) _ rfl
      rw [e1, el] at this
      rw [show over a b c d = (hi a b c d == 0) from by unfold over hi; rw [Bool.eq_iff_iff]; simp; omega]
      exact this
  · have g1 : ¬ 18446744073709551616 ≤ b + d := fun h => h1 (f1.2 h)
    have e1 : IntKind.u64.wrap (IntKind.u64.wrap (a + c)) = hi a b c d := by unfold hi; rw [u64_wrap, u64_wrap]; omega
    by_cases h2 : IntKind.u64.wrap (a + c) < a
    · have g2 := f2.1 h2
      have := high a b c d w (decide_eq_false h1) (decide_eq_true h2)
      rw [e1, el] at this
      rw [show over a b c d = true from decide_eq_true (by omega)]
      exact this
    · have g2 : ¬ 18446744073709551616 ≤ a + c := fun h => h2 (f2.2 h)
      have := none a b c d w (decide_eq_false h1) (decide_eq_false h2)
      rw [e1, el] at this
      rw [show over a b c d = false from decide_eq_false (by omega)]
      exact this
end Go.Proofs.Ytdnflmnlbcjnlaa.WalkPlus
