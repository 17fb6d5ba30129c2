/- PlaneZero's walk. Conditions: as each states. -/
import Derived.Test.YtfjgamiiddcffaaWalkAwake
import Derived.LoopN
namespace Go.Proofs.Ytfjgamiiddcffaa.WalkZero
open Go Go.RowKit Go.Lib Go.Proofs.YtfjgamiiddcffaaW.PrintWords Go.Proofs.YtfjgamiiddcffaaW.PrintLast Go.Proofs.YtfjgamiiddcffaaW.PrintMore Go.Proofs.Ytfjgamiiddcffaa.PPlaneZero Go.Proofs.Ytfjgamiiddcffaa.WalkSquare Go.Proofs.Ytfjgamiiddcffaa.Plane Go.Proofs.Ytfjgamiiddcffaa.Core Go.Proofs.Ytfjgamiiddcffaa.WalkAwake
set_option linter.unusedVariables false
set_option linter.unusedSimpArgs false
attribute [local go_sem ↓] Go.wp_at_zero Go.wp_at_succ
set_option maxHeartbeats 4000000 in
theorem zero (a0 a1 b0 b1 k e1 e2 e3 e4 d1 d2 m1 m2 q1 q2 x1 x2 f0 f1 s : Int) (w : World)
    (g1 : IntKind.i64.wrap (e3 - e1) = d1) (g2 : IntKind.i64.wrap (e4 - e2) = d2) (g0 : IntKind.i64.wrap k = k) (g3 : IntKind.i64.wrap (d1 * k) = m1) (g4 : IntKind.i64.wrap (d2 * k) = m2)
    (g5 : IntKind.i64.wrap (Int.tdiv m1 255) = q1) (g6 : IntKind.i64.wrap (Int.tdiv m2 255) = q2) (g7 : IntKind.i64.wrap (e1 + q1) = x1) (g8 : IntKind.i64.wrap (e2 + q2) = x2) (g9 : decide (s ≤ 0) = true)
    (HE : Hid (∀ w, Calls Try.prog 9 #[Value.agg #[Value.int IntKind.i16 a0, Value.int IntKind.i16 a1], Value.agg #[Value.int IntKind.i16 b0, Value.int IntKind.i16 b1]] w (Ret (Value.agg #[Value.int IntKind.i64 e1, Value.int IntKind.i64 e2, Value.int IntKind.i64 e3, Value.int IntKind.i64 e4]) w)))
    (HQa : Hid (∀ w, Calls Try.prog 8 #[Value.agg #[Value.int IntKind.i64 e1, Value.int IntKind.i64 e2, Value.int IntKind.i64 e3, Value.int IntKind.i64 e4], Value.agg #[Value.int IntKind.i64 e1, Value.int IntKind.i64 e2]] w (Ret (Value.agg #[Value.int IntKind.i64 0, Value.int IntKind.i64 1]) w)))
    (HQb : Hid (∀ w, Calls Try.prog 8 #[Value.agg #[Value.int IntKind.i64 e1, Value.int IntKind.i64 e2, Value.int IntKind.i64 e3, Value.int IntKind.i64 e4], Value.agg #[Value.int IntKind.i64 e3, Value.int IntKind.i64 e4]] w (Ret (Value.agg #[Value.int IntKind.i64 0, Value.int IntKind.i64 1]) w)))
    (HX : Hid (∀ w, Calls Try.prog 8 #[Value.agg #[Value.int IntKind.i64 e1, Value.int IntKind.i64 e2, Value.int IntKind.i64 e3, Value.int IntKind.i64 e4], Value.agg #[Value.int IntKind.i64 x1, Value.int IntKind.i64 x2]] w (Ret (Value.agg #[Value.int IntKind.i64 f0, Value.int IntKind.i64 f1]) w)))
    (HC : Hid (∀ w, Calls Try.prog 16 #[Value.agg #[Value.int IntKind.i64 f0, Value.int IntKind.i64 f1], Value.agg #[Value.int IntKind.i64 2, Value.int IntKind.i64 1]] w (Ret (.int .i64 s) w))) :
    Calls Try.prog 5 #[Value.agg #[Value.int IntKind.i16 a0, Value.int IntKind.i16 a1], Value.agg #[Value.int IntKind.i16 b0, Value.int IntKind.i16 b1], .int .u8 k] w (Ret (.bool true) w) := by
  go_enter Try.func5, Try.ntmps5
  go_wp2_with (first
    | (go_at_call 6; refine (awake_calls _).mono ?_; rintro e w1 ⟨rfl, hw1⟩; have y0 : w1.cell? ⟨w.heap.size, 0, none⟩ = some (Value.int IntKind.i16 a0) := cell_later hw1 (by go_simp); have y1 : w1.cell? ⟨w.heap.size, 1, none⟩ = some (Value.int IntKind.i16 a1) := cell_later hw1 (by go_simp); have y2 : w1.cell? ⟨w.heap.size + 1, 0, none⟩ = some (Value.int IntKind.i16 b0) := cell_later hw1 (by go_simp); have y3 : w1.cell? ⟨w.heap.size + 1, 1, none⟩ = some (Value.int IntKind.i16 b1) := cell_later hw1 (by go_simp))
    | (go_at_call 9; refine (HE.out _).mono ?_; rintro e w2 ⟨rfl, hw2⟩))
  refine wp_loop_rounds 3 ?_
  rw [rounds_succ]
  go_wp2_with (go_at_call_of 8 (#[Value.agg #[Value.int IntKind.i64 e1, Value.int IntKind.i64 e2, Value.int IntKind.i64 e3, Value.int IntKind.i64 e4], Value.agg #[Value.int IntKind.i64 e1, Value.int IntKind.i64 e2]] : Array Value); refine (HQa.out _).mono ?_; rintro e w3 ⟨rfl, hb3⟩; have cw30 : w3.cell? ⟨w2.heap.size, 0, none⟩ = some (Value.int IntKind.i64 e1) := cell_later hb3 (by go_simp); have cw31 : w3.cell? ⟨w2.heap.size, 1, none⟩ = some (Value.int IntKind.i64 e2) := cell_later hb3 (by go_simp); have cw32 : w3.cell? ⟨w2.heap.size, 2, none⟩ = some (Value.int IntKind.i64 e3) := cell_later hb3 (by go_simp); have cw33 : w3.cell? ⟨w2.heap.size, 3, none⟩ = some (Value.int IntKind.i64 e4) := cell_later hb3 (by go_simp); have dw30 : w3.cell? ⟨w2.heap.size + 1, 0, none⟩ = some (Value.int IntKind.i64 e1) := cell_later hb3 (by go_simp); have dw31 : w3.cell? ⟨w2.heap.size + 1, 1, none⟩ = some (Value.int IntKind.i64 e2) := cell_later hb3 (by go_simp); have dw32 : w3.cell? ⟨w2.heap.size + 1, 2, none⟩ = some (Value.int IntKind.i64 e3) := cell_later hb3 (by go_simp); have dw33 : w3.cell? ⟨w2.heap.size + 1, 3, none⟩ = some (Value.int IntKind.i64 e4) := cell_later hb3 (by go_simp); have lw3 : w2.heap.size + 1 < w3.heap.size := World.block_lt_of_cell? _ _ dw30; have lw3' : w2.heap.size < w3.heap.size := World.block_lt_of_cell? _ _ cw30)
  rw [rounds_succ]
  go_wp2_with (go_at_call_of 8 (#[Value.agg #[Value.int IntKind.i64 e1, Value.int IntKind.i64 e2, Value.int IntKind.i64 e3, Value.int IntKind.i64 e4], Value.agg #[Value.int IntKind.i64 e3, Value.int IntKind.i64 e4]] : Array Value); refine (HQb.out _).mono ?_; rintro e w4 ⟨rfl, hb4⟩; have cw40 : w4.cell? ⟨w2.heap.size, 0, none⟩ = some (Value.int IntKind.i64 e1) := cell_later hb4 (by go_simp); have cw41 : w4.cell? ⟨w2.heap.size, 1, none⟩ = some (Value.int IntKind.i64 e2) := cell_later hb4 (by go_simp); have cw42 : w4.cell? ⟨w2.heap.size, 2, none⟩ = some (Value.int IntKind.i64 e3) := cell_later hb4 (by go_simp); have cw43 : w4.cell? ⟨w2.heap.size, 3, none⟩ = some (Value.int IntKind.i64 e4) := cell_later hb4 (by go_simp); have dw40 : w4.cell? ⟨w2.heap.size + 1, 0, none⟩ = some (Value.int IntKind.i64 e1) := cell_later hb4 (by go_simp); have dw41 : w4.cell? ⟨w2.heap.size + 1, 1, none⟩ = some (Value.int IntKind.i64 e2) := cell_later hb4 (by go_simp); have dw42 : w4.cell? ⟨w2.heap.size + 1, 2, none⟩ = some (Value.int IntKind.i64 e3) := cell_later hb4 (by go_simp); have dw43 : w4.cell? ⟨w2.heap.size + 1, 3, none⟩ = some (Value.int IntKind.i64 e4) := cell_later hb4 (by go_simp); have lw4 : w2.heap.size + 1 < w4.heap.size := World.block_lt_of_cell? _ _ dw40; have lw4' : w2.heap.size < w4.heap.size := World.block_lt_of_cell? _ _ cw40)
  rw [rounds_succ]
  go_wp2_with (first
    | (go_at_call 8; refine (HX.out _).mono ?_; rintro e w5 ⟨rfl, hb5⟩)
    | (go_at_call 16; refine (HC.out _).mono ?_; rintro e w6 ⟨rfl, hb6⟩))
  go_ret
  exact ⟨rfl, below_step (below_step (below_alloc (below_step (below_alloc (below_step (below_alloc (below_alloc (below_alloc (below_step (below_step (below_alloc (below_alloc (Below.refl _ _) _) _) hw1) hw2) _) _) _) hb3) _) hb4) _) hb5) hb6⟩
/-- a part of a way is on it -/
theorem part {w k : Int} (hk0 : 0 ≤ k) (hk : k ≤ 255) : (0 ≤ w ∧ 0 ≤ Int.tdiv (w * k) 255 ∧ Int.tdiv (w * k) 255 ≤ w) ∨ (w ≤ 0 ∧ Int.tdiv (w * k) 255 ≤ 0 ∧ w ≤ Int.tdiv (w * k) 255) := by
  rcases Int.le_total 0 w with h | h
  · left
    have m0 := Int.mul_nonneg h hk0
    have m1 := Int.mul_le_mul_of_nonneg_left hk h
    rw [Int.tdiv_eq_ediv_of_nonneg m0]
    omega
  · right
    have h2 : 0 ≤ -w := by omega
    have m0 := Int.mul_nonneg h2 hk0
    have m1 := Int.mul_le_mul_of_nonneg_left hk h2
    have e : w * k = -(-w * k) := by rw [Int.neg_mul]; omega
    rw [e, Int.neg_tdiv, Int.tdiv_eq_ediv_of_nonneg m0]
    omega
end Go.Proofs.Ytfjgamiiddcffaa.WalkZero
