/- PlaneTurn's walk: a distance from the other end, and when all is turned. Conditions: as each states. -/
import Derived.Test.YtfjgamiiddcffaaWalkAwake
namespace Go.Proofs.Ytfjgamiiddcffaa.WalkTurn
open Go Go.RowKit Go.Lib Go.Proofs.YtfjgamiiddcffaaW.PrintWords Go.Proofs.YtfjgamiiddcffaaW.PrintLast Go.Proofs.YtfjgamiiddcffaaW.PrintMore Go.Proofs.Ytfjgamiiddcffaa.PPlaneZero Go.Proofs.Ytfjgamiiddcffaa.WalkSquare Go.Proofs.Ytfjgamiiddcffaa.Plane Go.Proofs.Ytfjgamiiddcffaa.Core Go.Proofs.Ytfjgamiiddcffaa.WalkAwake
set_option linter.unusedVariables false
set_option linter.unusedSimpArgs false
attribute [local go_sem ↓] Go.wp_at_zero Go.wp_at_succ
theorem quarter (x y m : Int) (hm : IntKind.i64.wrap (-y) = m) (w : World) : Calls Try.prog 7 #[Value.agg #[Value.int IntKind.i64 x, Value.int IntKind.i64 y]] w (Ret (Value.agg #[Value.int IntKind.i64 m, Value.int IntKind.i64 x]) w) := by
  go_enter Try.func7, Try.ntmps7
  go_wp2_with fail
  exact bodyPost_ret (v := Value.agg #[Value.int IntKind.i64 m, Value.int IntKind.i64 x]) (by simp [results, Try.results7, go_sem]) rfl ⟨rfl, below_alloc (below_alloc (Below.refl _ _) _) _⟩
theorem point (x y : Int) (hx : IntKind.i64.wrap x = x) (hy : IntKind.i64.wrap y = y) (w : World) : Calls Try.prog 10 #[Value.agg #[Value.int IntKind.i16 x, Value.int IntKind.i16 y]] w (Ret (Value.agg #[Value.int IntKind.i64 x, Value.int IntKind.i64 y]) w) := by
  go_enter Try.func10, Try.ntmps10
  go_wp2_with fail
  exact bodyPost_ret (v := Value.agg #[Value.int IntKind.i64 x, Value.int IntKind.i64 y]) (by simp [results, Try.results10, go_sem]) rfl ⟨rfl, below_alloc (below_alloc (Below.refl _ _) _) _⟩
set_option maxHeartbeats 4000000 in
theorem turn (a0 a1 b0 b1 p0 p1 e1 e2 e3 e4 x1 x2 f0 f1 n2 n4 nx : Int) (w : World)
    (HE : Hid (∀ w, Calls Try.prog 9 #[Value.agg #[Value.int IntKind.i16 a0, Value.int IntKind.i16 a1], Value.agg #[Value.int IntKind.i16 b0, Value.int IntKind.i16 b1]] w (Ret (Value.agg #[Value.int IntKind.i64 e1, Value.int IntKind.i64 e2, Value.int IntKind.i64 e3, Value.int IntKind.i64 e4]) w)))
    (HP : Hid (∀ w, Calls Try.prog 10 #[Value.agg #[Value.int IntKind.i16 p0, Value.int IntKind.i16 p1]] w (Ret (Value.agg #[Value.int IntKind.i64 x1, Value.int IntKind.i64 x2]) w)))
    (HQ : Hid (∀ w, Calls Try.prog 8 #[Value.agg #[Value.int IntKind.i64 e1, Value.int IntKind.i64 e2, Value.int IntKind.i64 e3, Value.int IntKind.i64 e4], Value.agg #[Value.int IntKind.i64 x1, Value.int IntKind.i64 x2]] w (Ret (Value.agg #[Value.int IntKind.i64 f0, Value.int IntKind.i64 f1]) w)))
    (HE2 : Hid (∀ w, Calls Try.prog 9 #[Value.agg #[Value.int IntKind.i16 b0, Value.int IntKind.i16 b1], Value.agg #[Value.int IntKind.i16 a0, Value.int IntKind.i16 a1]] w (Ret (Value.agg #[Value.int IntKind.i64 e3, Value.int IntKind.i64 e4, Value.int IntKind.i64 e1, Value.int IntKind.i64 e2]) w)))
    (HQ2 : Hid (∀ w, Calls Try.prog 8 #[Value.agg #[Value.int IntKind.i64 e3, Value.int IntKind.i64 e4, Value.int IntKind.i64 e1, Value.int IntKind.i64 e2], Value.agg #[Value.int IntKind.i64 x1, Value.int IntKind.i64 x2]] w (Ret (Value.agg #[Value.int IntKind.i64 f0, Value.int IntKind.i64 f1]) w)))
    (HSa : Hid (∀ w, Calls Try.prog 11 #[Value.agg #[Value.int IntKind.i16 a0, Value.int IntKind.i16 a1]] w (Ret (Value.agg #[Value.int IntKind.i64 e1, Value.int IntKind.i64 e2]) w)))
    (HSb : Hid (∀ w, Calls Try.prog 11 #[Value.agg #[Value.int IntKind.i16 b0, Value.int IntKind.i16 b1]] w (Ret (Value.agg #[Value.int IntKind.i64 e3, Value.int IntKind.i64 e4]) w)))
    (HCa : Hid (∀ w, Calls Try.prog 7 #[Value.agg #[Value.int IntKind.i64 e1, Value.int IntKind.i64 e2]] w (Ret (Value.agg #[Value.int IntKind.i64 n2, Value.int IntKind.i64 e1]) w)))
    (HCb : Hid (∀ w, Calls Try.prog 7 #[Value.agg #[Value.int IntKind.i64 e3, Value.int IntKind.i64 e4]] w (Ret (Value.agg #[Value.int IntKind.i64 n4, Value.int IntKind.i64 e3]) w)))
    (HCx : Hid (∀ w, Calls Try.prog 7 #[Value.agg #[Value.int IntKind.i64 x1, Value.int IntKind.i64 x2]] w (Ret (Value.agg #[Value.int IntKind.i64 nx, Value.int IntKind.i64 x1]) w)))
    (HQ3 : Hid (∀ w, Calls Try.prog 8 #[Value.agg #[Value.int IntKind.i64 n2, Value.int IntKind.i64 e1, Value.int IntKind.i64 n4, Value.int IntKind.i64 e3], Value.agg #[Value.int IntKind.i64 nx, Value.int IntKind.i64 x1]] w (Ret (Value.agg #[Value.int IntKind.i64 f0, Value.int IntKind.i64 f1]) w))) :
    Calls Try.prog 3 #[Value.agg #[Value.int IntKind.i16 a0, Value.int IntKind.i16 a1], Value.agg #[Value.int IntKind.i16 b0, Value.int IntKind.i16 b1], Value.agg #[Value.int IntKind.i16 p0, Value.int IntKind.i16 p1]] w (Ret (.bool true) w) := by
  go_enter Try.func3, Try.ntmps3
  go_upto_region 4 with (go_at_call 6; refine (awake_calls _).mono ?_; rintro e w1 ⟨rfl, hw1⟩)
  have b_0 := cell_later hw1 (show (((w.alloc (.cells #[.int .i16 a0, .int .i16 a1] 24)).alloc (.cells #[.int .i16 b0, .int .i16 b1] 24)).alloc (.cells #[.int .i16 p0, .int .i16 p1] 24)).cell? ⟨w.heap.size, 0, none⟩ = some (.int .i16 a0) by go_simp)
  have b_1 := cell_later hw1 (show (((w.alloc (.cells #[.int .i16 a0, .int .i16 a1] 24)).alloc (.cells #[.int .i16 b0, .int .i16 b1] 24)).alloc (.cells #[.int .i16 p0, .int .i16 p1] 24)).cell? ⟨w.heap.size, 1, none⟩ = some (.int .i16 a1) by go_simp)
  have b_2 := cell_later hw1 (show (((w.alloc (.cells #[.int .i16 a0, .int .i16 a1] 24)).alloc (.cells #[.int .i16 b0, .int .i16 b1] 24)).alloc (.cells #[.int .i16 p0, .int .i16 p1] 24)).cell? ⟨w.heap.size + 1, 0, none⟩ = some (.int .i16 b0) by go_simp)
  have b_3 := cell_later hw1 (show (((w.alloc (.cells #[.int .i16 a0, .int .i16 a1] 24)).alloc (.cells #[.int .i16 b0, .int .i16 b1] 24)).alloc (.cells #[.int .i16 p0, .int .i16 p1] 24)).cell? ⟨w.heap.size + 1, 1, none⟩ = some (.int .i16 b1) by go_simp)
  have b_4 := cell_later hw1 (show (((w.alloc (.cells #[.int .i16 a0, .int .i16 a1] 24)).alloc (.cells #[.int .i16 b0, .int .i16 b1] 24)).alloc (.cells #[.int .i16 p0, .int .i16 p1] 24)).cell? ⟨w.heap.size + 1 + 1, 0, none⟩ = some (.int .i16 p0) by go_simp)
  have b_5 := cell_later hw1 (show (((w.alloc (.cells #[.int .i16 a0, .int .i16 a1] 24)).alloc (.cells #[.int .i16 b0, .int .i16 b1] 24)).alloc (.cells #[.int .i16 p0, .int .i16 p1] 24)).cell? ⟨w.heap.size + 1 + 1, 1, none⟩ = some (.int .i16 p1) by go_simp)
  have hwa : Below w.heap.size w w1 := below_step (below_alloc (below_alloc (below_alloc (Below.refl _ _) _) _) _) hw1
  clear hw1
  have lwa : w.heap.size + 1 + 1 < w1.heap.size := World.block_lt_of_cell? _ _ b_4
  go_cut [8] (fun s8 wr => ∃ g8 : Nat, s8 = .pointer (some ⟨g8, 0, none⟩) ∧ wr.cell? ⟨g8, 0, none⟩ = some (.int .i64 f0) ∧ wr.cell? ⟨g8, 1, none⟩ = some (.int .i64 f1) ∧ Below w1.heap.size w1 wr)
  case first =>
    go_region_held3 (fun w' => w'.cell? ⟨w.heap.size, 0, none⟩ = some (.int .i16 a0) ∧ w'.cell? ⟨w.heap.size, 1, none⟩ = some (.int .i16 a1) ∧ w'.cell? ⟨w.heap.size + 1, 0, none⟩ = some (.int .i16 b0) ∧ w'.cell? ⟨w.heap.size + 1, 1, none⟩ = some (.int .i16 b1) ∧ w'.cell? ⟨w.heap.size + 1 + 1, 0, none⟩ = some (.int .i16 p0) ∧ w'.cell? ⟨w.heap.size + 1 + 1, 1, none⟩ = some (.int .i16 p1))
      ((go_split_ands; (repeat' apply And.intro) <;> (repeat' (first | with_reducible assumption | with_reducible refine keepA ?_ | with_reducible refine keepD ?_ | with_reducible refine keepS ?_ ?_ | (dsimp only; omega)))))
      (first
        | (go_at_call_of 9 (#[Value.agg #[Value.int IntKind.i16 a0, Value.int IntKind.i16 a1], Value.agg #[Value.int IntKind.i16 b0, Value.int IntKind.i16 b1]] : Array Value); refine (HE.out _).mono ?_; rintro e w2 ⟨rfl, hbq⟩; have Bw2 : Below w1.heap.size w1 w2 := below_step (by (repeat' (first | with_reducible assumption | with_reducible exact Below.refl _ _ | with_reducible refine below_alloc ?_ _ | with_reducible refine below_drew1 ?_ | with_reducible refine below_set ?_ ?_ | omega))) hbq; have sw2 := Bw2.size; have kw20 : w2.cell? ⟨w.heap.size, 0, none⟩ = some (.int .i16 a0) := cell_later hbq (by go_split_ands; assumption); have kw21 : w2.cell? ⟨w.heap.size, 1, none⟩ = some (.int .i16 a1) := cell_later hbq (by go_split_ands; assumption); have kw22 : w2.cell? ⟨w.heap.size + 1, 0, none⟩ = some (.int .i16 b0) := cell_later hbq (by go_split_ands; assumption); have kw23 : w2.cell? ⟨w.heap.size + 1, 1, none⟩ = some (.int .i16 b1) := cell_later hbq (by go_split_ands; assumption); have kw24 : w2.cell? ⟨w.heap.size + 1 + 1, 0, none⟩ = some (.int .i16 p0) := cell_later hbq (by go_split_ands; assumption); have kw25 : w2.cell? ⟨w.heap.size + 1 + 1, 1, none⟩ = some (.int .i16 p1) := cell_later hbq (by go_split_ands; assumption); have lw20 : w.heap.size + 1 + 1 < w2.heap.size := World.block_lt_of_cell? _ _ kw24; (try (have Fw20 : Fresh w2 (w1.heap.size) := (by first | (with_reducible refine fr_later hbq (fr_new30 ?_); first | rfl | exact sz1 _ _) | (with_reducible refine fr_later hbq (fr_alloc (fr_new30 ?_)); first | rfl | exact sz1 _ _) | (with_reducible refine fr_later hbq ?_; with_reducible assumption) | (with_reducible refine fr_later hbq (fr_alloc ?_); with_reducible assumption) | (with_reducible refine fr_later hbq (fr_alloc (fr_alloc ?_)); with_reducible assumption) | (with_reducible refine fr_laterD hbq (fr_new30 ?_); first | rfl | exact sz1 _ _) | (with_reducible refine fr_laterD hbq (fr_alloc (fr_new30 ?_)); first | rfl | exact sz1 _ _) | (with_reducible refine fr_laterD hbq ?_; with_reducible assumption) | (with_reducible refine fr_laterD hbq (fr_alloc ?_); with_reducible assumption) | (with_reducible refine fr_laterD hbq (fr_alloc (fr_alloc ?_)); with_reducible assumption)); have Fw20a := Fw20.1; have Fw20b := Fw20.2.1; have Fw20c := Fw20.2.2.1; have Fw20f := Fw20.2.2.2; have Fw20d : w1.heap.size < w2.heap.size := World.block_lt_of_cell? _ _ Fw20.1; have Fw20e := Nat.ne_of_lt Fw20d)))
        | (go_at_call_of 10 (#[Value.agg #[Value.int IntKind.i16 p0, Value.int IntKind.i16 p1]] : Array Value); refine (HP.out _).mono ?_; rintro e w3 ⟨rfl, hbq⟩; have Bw3 : Below w1.heap.size w1 w3 := below_step (by (repeat' (first | with_reducible assumption | with_reducible exact Below.refl _ _ | with_reducible refine below_alloc ?_ _ | with_reducible refine below_drew1 ?_ | with_reducible refine below_set ?_ ?_ | omega))) hbq; have sw3 := Bw3.size; have kw30 : w3.cell? ⟨w.heap.size, 0, none⟩ = some (.int .i16 a0) := cell_later hbq (by go_split_ands; assumption); have kw31 : w3.cell? ⟨w.heap.size, 1, none⟩ = some (.int .i16 a1) := cell_later hbq (by go_split_ands; assumption); have kw32 : w3.cell? ⟨w.heap.size + 1, 0, none⟩ = some (.int .i16 b0) := cell_later hbq (by go_split_ands; assumption); have kw33 : w3.cell? ⟨w.heap.size + 1, 1, none⟩ = some (.int .i16 b1) := cell_later hbq (by go_split_ands; assumption); have kw34 : w3.cell? ⟨w.heap.size + 1 + 1, 0, none⟩ = some (.int .i16 p0) := cell_later hbq (by go_split_ands; assumption); have kw35 : w3.cell? ⟨w.heap.size + 1 + 1, 1, none⟩ = some (.int .i16 p1) := cell_later hbq (by go_split_ands; assumption); have lw30 : w.heap.size + 1 + 1 < w3.heap.size := World.block_lt_of_cell? _ _ kw34; (try (have Fw30 : Fresh w3 (w1.heap.size) := (by first | (with_reducible refine fr_later hbq (fr_new30 ?_); first | rfl | exact sz1 _ _) | (with_reducible refine fr_later hbq (fr_alloc (fr_new30 ?_)); first | rfl | exact sz1 _ _) | (with_reducible refine fr_later hbq ?_; with_reducible assumption) | (with_reducible refine fr_later hbq (fr_alloc ?_); with_reducible assumption) | (with_reducible refine fr_later hbq (fr_alloc (fr_alloc ?_)); with_reducible assumption) | (with_reducible refine fr_laterD hbq (fr_new30 ?_); first | rfl | exact sz1 _ _) | (with_reducible refine fr_laterD hbq (fr_alloc (fr_new30 ?_)); first | rfl | exact sz1 _ _) | (with_reducible refine fr_laterD hbq ?_; with_reducible assumption) | (with_reducible refine fr_laterD hbq (fr_alloc ?_); with_reducible assumption) | (with_reducible refine fr_laterD hbq (fr_alloc (fr_alloc ?_)); with_reducible assumption)); have Fw30a := Fw30.1; have Fw30b := Fw30.2.1; have Fw30c := Fw30.2.2.1; have Fw30f := Fw30.2.2.2; have Fw30d : w1.heap.size < w3.heap.size := World.block_lt_of_cell? _ _ Fw30.1; have Fw30e := Nat.ne_of_lt Fw30d)); (try (have Fw31 : Fresh w3 (w2.heap.size) := (by first | (with_reducible refine fr_later hbq (fr_new30 ?_); first | rfl | exact sz1 _ _) | (with_reducible refine fr_later hbq (fr_alloc (fr_new30 ?_)); first | rfl | exact sz1 _ _) | (with_reducible refine fr_later hbq ?_; with_reducible assumption) | (with_reducible refine fr_later hbq (fr_alloc ?_); with_reducible assumption) | (with_reducible refine fr_later hbq (fr_alloc (fr_alloc ?_)); with_reducible assumption) | (with_reducible refine fr_laterD hbq (fr_new30 ?_); first | rfl | exact sz1 _ _) | (with_reducible refine fr_laterD hbq (fr_alloc (fr_new30 ?_)); first | rfl | exact sz1 _ _) | (with_reducible refine fr_laterD hbq ?_; with_reducible assumption) | (with_reducible refine fr_laterD hbq (fr_alloc ?_); with_reducible assumption) | (with_reducible refine fr_laterD hbq (fr_alloc (fr_alloc ?_)); with_reducible assumption)); have Fw31a := Fw31.1; have Fw31b := Fw31.2.1; have Fw31c := Fw31.2.2.1; have Fw31f := Fw31.2.2.2; have Fw31d : w2.heap.size < w3.heap.size := World.block_lt_of_cell? _ _ Fw31.1; have Fw31e := Nat.ne_of_lt Fw31d)))
        | (go_at_call_of 8 (#[Value.agg #[Value.int IntKind.i64 e1, Value.int IntKind.i64 e2, Value.int IntKind.i64 e3, Value.int IntKind.i64 e4], Value.agg #[Value.int IntKind.i64 x1, Value.int IntKind.i64 x2]] : Array Value); refine (HQ.out _).mono ?_; rintro e w4 ⟨rfl, hbq⟩; have Bw4 : Below w1.heap.size w1 w4 := below_step (by (repeat' (first | with_reducible assumption | with_reducible exact Below.refl _ _ | with_reducible refine below_alloc ?_ _ | with_reducible refine below_drew1 ?_ | with_reducible refine below_set ?_ ?_ | omega))) hbq; have sw4 := Bw4.size; have kw40 : w4.cell? ⟨w.heap.size, 0, none⟩ = some (.int .i16 a0) := cell_later hbq (by go_split_ands; assumption); have kw41 : w4.cell? ⟨w.heap.size, 1, none⟩ = some (.int .i16 a1) := cell_later hbq (by go_split_ands; assumption); have kw42 : w4.cell? ⟨w.heap.size + 1, 0, none⟩ = some (.int .i16 b0) := cell_later hbq (by go_split_ands; assumption); have kw43 : w4.cell? ⟨w.heap.size + 1, 1, none⟩ = some (.int .i16 b1) := cell_later hbq (by go_split_ands; assumption); have kw44 : w4.cell? ⟨w.heap.size + 1 + 1, 0, none⟩ = some (.int .i16 p0) := cell_later hbq (by go_split_ands; assumption); have kw45 : w4.cell? ⟨w.heap.size + 1 + 1, 1, none⟩ = some (.int .i16 p1) := cell_later hbq (by go_split_ands; assumption); have lw40 : w.heap.size + 1 + 1 < w4.heap.size := World.block_lt_of_cell? _ _ kw44; (try (have Fw40 : Fresh w4 (w1.heap.size) := (by first | (with_reducible refine fr_later hbq (fr_new30 ?_); first | rfl | exact sz1 _ _) | (with_reducible refine fr_later hbq (fr_alloc (fr_new30 ?_)); first | rfl | exact sz1 _ _) | (with_reducible refine fr_later hbq ?_; with_reducible assumption) | (with_reducible refine fr_later hbq (fr_alloc ?_); with_reducible assumption) | (with_reducible refine fr_later hbq (fr_alloc (fr_alloc ?_)); with_reducible assumption) | (with_reducible refine fr_laterD hbq (fr_new30 ?_); first | rfl | exact sz1 _ _) | (with_reducible refine fr_laterD hbq (fr_alloc (fr_new30 ?_)); first | rfl | exact sz1 _ _) | (with_reducible refine fr_laterD hbq ?_; with_reducible assumption) | (with_reducible refine fr_laterD hbq (fr_alloc ?_); with_reducible assumption) | (with_reducible refine fr_laterD hbq (fr_alloc (fr_alloc ?_)); with_reducible assumption)); have Fw40a := Fw40.1; have Fw40b := Fw40.2.1; have Fw40c := Fw40.2.2.1; have Fw40f := Fw40.2.2.2; have Fw40d : w1.heap.size < w4.heap.size := World.block_lt_of_cell? _ _ Fw40.1; have Fw40e := Nat.ne_of_lt Fw40d)); (try (have Fw41 : Fresh w4 (w2.heap.size) := (by first | (with_reducible refine fr_later hbq (fr_new30 ?_); first | rfl | exact sz1 _ _) | (with_reducible refine fr_later hbq (fr_alloc (fr_new30 ?_)); first | rfl | exact sz1 _ _) | (with_reducible refine fr_later hbq ?_; with_reducible assumption) | (with_reducible refine fr_later hbq (fr_alloc ?_); with_reducible assumption) | (with_reducible refine fr_later hbq (fr_alloc (fr_alloc ?_)); with_reducible assumption) | (with_reducible refine fr_laterD hbq (fr_new30 ?_); first | rfl | exact sz1 _ _) | (with_reducible refine fr_laterD hbq (fr_alloc (fr_new30 ?_)); first | rfl | exact sz1 _ _) | (with_reducible refine fr_laterD hbq ?_; with_reducible assumption) | (with_reducible refine fr_laterD hbq (fr_alloc ?_); with_reducible assumption) | (with_reducible refine fr_laterD hbq (fr_alloc (fr_alloc ?_)); with_reducible assumption)); have Fw41a := Fw41.1; have Fw41b := Fw41.2.1; have Fw41c := Fw41.2.2.1; have Fw41f := Fw41.2.2.2; have Fw41d : w2.heap.size < w4.heap.size := World.block_lt_of_cell? _ _ Fw41.1; have Fw41e := Nat.ne_of_lt Fw41d)); (try (have Fw42 : Fresh w4 (w3.heap.size) := (by first | (with_reducible refine fr_later hbq (fr_new30 ?_); first | rfl | exact sz1 _ _) | (with_reducible refine fr_later hbq (fr_alloc (fr_new30 ?_)); first | rfl | exact sz1 _ _) | (with_reducible refine fr_later hbq ?_; with_reducible assumption) | (with_reducible refine fr_later hbq (fr_alloc ?_); with_reducible assumption) | (with_reducible refine fr_later hbq (fr_alloc (fr_alloc ?_)); with_reducible assumption) | (with_reducible refine fr_laterD hbq (fr_new30 ?_); first | rfl | exact sz1 _ _) | (with_reducible refine fr_laterD hbq (fr_alloc (fr_new30 ?_)); first | rfl | exact sz1 _ _) | (with_reducible refine fr_laterD hbq ?_; with_reducible assumption) | (with_reducible refine fr_laterD hbq (fr_alloc ?_); with_reducible assumption) | (with_reducible refine fr_laterD hbq (fr_alloc (fr_alloc ?_)); with_reducible assumption)); have Fw42a := Fw42.1; have Fw42b := Fw42.2.1; have Fw42c := Fw42.2.2.1; have Fw42f := Fw42.2.2.2; have Fw42d : w3.heap.size < w4.heap.size := World.block_lt_of_cell? _ _ Fw42.1; have Fw42e := Nat.ne_of_lt Fw42d))))
    all_goals (go_wp2_with fail; go_meet)
    all_goals (refine ⟨_, rfl, ?_, ?_, ?_⟩ <;> first | (with_reducible (refine below_set ?_ ?_); (repeat' (first | with_reducible assumption | with_reducible exact Below.refl _ _ | with_reducible refine below_alloc ?_ _ | with_reducible refine below_drew1 ?_ | with_reducible refine below_set ?_ ?_ | omega))) | (with_reducible refine below_alloc ?_ _; (repeat' (first | with_reducible assumption | with_reducible exact Below.refl _ _ | with_reducible refine below_alloc ?_ _ | with_reducible refine below_drew1 ?_ | with_reducible refine below_set ?_ ?_ | omega))) | (go_simp; done))
  case rest =>
    obtain ⟨g8, rfl, h80, h81, hbr⟩ := hcut
    have r0 := cell_later hbr b_0
    have r1 := cell_later hbr b_1
    have r2 := cell_later hbr b_2
    have r3 := cell_later hbr b_3
    have r4 := cell_later hbr b_4
    have r5 := cell_later hbr b_5
    have hB : Below w.heap.size w wc := below_step hwa hbr
    clear hbr b_0 b_1 b_2 b_3 b_4 b_5 hwa lwa
    go_upto_region 5 with fail
    go_region_held3 (fun w' => w'.cell? ⟨w.heap.size, 0, none⟩ = some (.int .i16 a0) ∧ w'.cell? ⟨w.heap.size, 1, none⟩ = some (.int .i16 a1) ∧ w'.cell? ⟨w.heap.size + 1, 0, none⟩ = some (.int .i16 b0) ∧ w'.cell? ⟨w.heap.size + 1, 1, none⟩ = some (.int .i16 b1) ∧ w'.cell? ⟨w.heap.size + 1 + 1, 0, none⟩ = some (.int .i16 p0) ∧ w'.cell? ⟨w.heap.size + 1 + 1, 1, none⟩ = some (.int .i16 p1) ∧ w'.cell? ⟨g8, 0, none⟩ = some (.int .i64 f0) ∧ w'.cell? ⟨g8, 1, none⟩ = some (.int .i64 f1))
      ((go_split_ands; (repeat' apply And.intro) <;> (repeat' (first | with_reducible assumption | with_reducible refine keepD ?_ | (refine cell_later hbq ?_; assumption)))))
      (first
        | (go_at_call_of 9 (#[Value.agg #[Value.int IntKind.i16 b0, Value.int IntKind.i16 b1], Value.agg #[Value.int IntKind.i16 a0, Value.int IntKind.i16 a1]] : Array Value); refine (HE2.out _).mono ?_; rintro e u1 ⟨rfl, hbq⟩; have Bu1 : Below wc.heap.size wc u1 := below_step (by (repeat' (first | with_reducible assumption | with_reducible exact Below.refl _ _ | with_reducible refine below_alloc ?_ _ | with_reducible refine below_drew1 ?_ | with_reducible refine below_set ?_ ?_ | omega))) hbq)
        | (go_at_call_of 10 (#[Value.agg #[Value.int IntKind.i16 p0, Value.int IntKind.i16 p1]] : Array Value); refine (HP.out _).mono ?_; rintro e u2 ⟨rfl, hbq⟩; have Bu2 : Below wc.heap.size wc u2 := below_step (by (repeat' (first | with_reducible assumption | with_reducible exact Below.refl _ _ | with_reducible refine below_alloc ?_ _ | with_reducible refine below_drew1 ?_ | with_reducible refine below_set ?_ ?_ | omega))) hbq)
        | (go_at_call_of 8 (#[Value.agg #[Value.int IntKind.i64 e3, Value.int IntKind.i64 e4, Value.int IntKind.i64 e1, Value.int IntKind.i64 e2], Value.agg #[Value.int IntKind.i64 x1, Value.int IntKind.i64 x2]] : Array Value); refine (HQ2.out _).mono ?_; rintro e u3 ⟨rfl, hbq⟩; have Bu3 : Below wc.heap.size wc u3 := below_step (by (repeat' (first | with_reducible assumption | with_reducible exact Below.refl _ _ | with_reducible refine below_alloc ?_ _ | with_reducible refine below_drew1 ?_ | with_reducible refine below_set ?_ ?_ | omega))) hbq)
        | (go_at_call_of 11 (#[Value.agg #[Value.int IntKind.i16 a0, Value.int IntKind.i16 a1]] : Array Value); refine (HSa.out _).mono ?_; rintro e u4 ⟨rfl, hbq⟩; have Bu4 : Below wc.heap.size wc u4 := below_step (by (repeat' (first | with_reducible assumption | with_reducible exact Below.refl _ _ | with_reducible refine below_alloc ?_ _ | with_reducible refine below_drew1 ?_ | with_reducible refine below_set ?_ ?_ | omega))) hbq)
        | (go_at_call_of 7 (#[Value.agg #[Value.int IntKind.i64 e1, Value.int IntKind.i64 e2]] : Array Value); refine (HCa.out _).mono ?_; rintro e u5 ⟨rfl, hbq⟩; have Bu5 : Below wc.heap.size wc u5 := below_step (by (repeat' (first | with_reducible assumption | with_reducible exact Below.refl _ _ | with_reducible refine below_alloc ?_ _ | with_reducible refine below_drew1 ?_ | with_reducible refine below_set ?_ ?_ | omega))) hbq)
        | (go_at_call_of 11 (#[Value.agg #[Value.int IntKind.i16 b0, Value.int IntKind.i16 b1]] : Array Value); refine (HSb.out _).mono ?_; rintro e u6 ⟨rfl, hbq⟩; have Bu6 : Below wc.heap.size wc u6 := below_step (by (repeat' (first | with_reducible assumption | with_reducible exact Below.refl _ _ | with_reducible refine below_alloc ?_ _ | with_reducible refine below_drew1 ?_ | with_reducible refine below_set ?_ ?_ | omega))) hbq)
        | (go_at_call_of 7 (#[Value.agg #[Value.int IntKind.i64 e3, Value.int IntKind.i64 e4]] : Array Value); refine (HCb.out _).mono ?_; rintro e u7 ⟨rfl, hbq⟩; have Bu7 : Below wc.heap.size wc u7 := below_step (by (repeat' (first | with_reducible assumption | with_reducible exact Below.refl _ _ | with_reducible refine below_alloc ?_ _ | with_reducible refine below_drew1 ?_ | with_reducible refine below_set ?_ ?_ | omega))) hbq)
        | (go_at_call_of 7 (#[Value.agg #[Value.int IntKind.i64 x1, Value.int IntKind.i64 x2]] : Array Value); refine (HCx.out _).mono ?_; rintro e u8 ⟨rfl, hbq⟩; have Bu8 : Below wc.heap.size wc u8 := below_step (by (repeat' (first | with_reducible assumption | with_reducible exact Below.refl _ _ | with_reducible refine below_alloc ?_ _ | with_reducible refine below_drew1 ?_ | with_reducible refine below_set ?_ ?_ | omega))) hbq)
        | (go_at_call_of 8 (#[Value.agg #[Value.int IntKind.i64 n2, Value.int IntKind.i64 e1, Value.int IntKind.i64 n4, Value.int IntKind.i64 e3], Value.agg #[Value.int IntKind.i64 nx, Value.int IntKind.i64 x1]] : Array Value); refine (HQ3.out _).mono ?_; rintro e u9 ⟨rfl, hbq⟩; have Bu9 : Below wc.heap.size wc u9 := below_step (by (repeat' (first | with_reducible assumption | with_reducible exact Below.refl _ _ | with_reducible refine below_alloc ?_ _ | with_reducible refine below_drew1 ?_ | with_reducible refine below_set ?_ ?_ | omega))) hbq))
    go_wp2_with fail
    go_ret
    exact ⟨rfl, below_step hB Bu9⟩
/-- the squares from the other end -/
theorem sqd_swap (wx wy tx ty : Int) : sqd (-wx) (-wy) (tx - wx) (ty - wy) tx ty = sqd wx wy tx ty (tx - wx) (ty - wy) := by
  have e1 : -wx * (tx - wx) + -wy * (ty - wy) = (wx * wx + wy * wy) - (wx * tx + wy * ty) := by
    simp only [Int.neg_mul, Int.mul_sub]; omega
  have e2 : -wx * -wx + -wy * -wy = wx * wx + wy * wy := by simp only [Int.neg_mul_neg]
  have e3 : -wx * (ty - wy) - -wy * (tx - wx) = -(wx * ty - wy * tx) := by
    simp only [Int.neg_mul, Int.mul_sub]; rw [Int.mul_comm wy wx]; omega
  have n1 := sqn wx
  have n2 := sqn wy
  unfold sqd
  rw [e1, e2, e3, Int.neg_mul_neg]
  by_cases c1 : wx * tx + wy * ty ≤ 0
  · rw [if_pos c1]
    by_cases c2 : wx * wx + wy * wy - (wx * tx + wy * ty) ≤ 0
    · have hx : wx * wx = 0 := by omega
      have hy : wy * wy = 0 := by omega
      rw [if_pos c2, (Int.mul_eq_zero.mp hx).elim id id, (Int.mul_eq_zero.mp hy).elim id id]; simp
    · rw [if_neg c2, if_pos (by omega)]
  · rw [if_neg c1]
    by_cases c2 : wx * wx + wy * wy ≤ wx * tx + wy * ty
    · rw [if_pos c2, if_pos (by omega)]
    · rw [if_neg c2, if_neg (by omega), if_neg (by omega)]
theorem sqd_turn (wx wy tx ty kx ky : Int) : sqd (-wy) wx (-ty) tx (-ky) kx = sqd wx wy tx ty kx ky := by
  unfold sqd
  have e1 : -wy * -ty + wx * tx = wx * tx + wy * ty := by rw [Int.neg_mul_neg]; omega
  have e2 : -wy * -wy + wx * wx = wx * wx + wy * wy := by rw [Int.neg_mul_neg]; omega
  have e3 : -wy * tx - wx * -ty = wx * ty - wy * tx := by rw [Int.neg_mul, Int.mul_neg]; omega
  have e4 : -ty * -ty + tx * tx = tx * tx + ty * ty := by rw [Int.neg_mul_neg]; omega
  have e5 : -ky * -ky + kx * kx = kx * kx + ky * ky := by rw [Int.neg_mul_neg]; omega
  rw [e1, e2, e3, e4, e5]
theorem sq_swap (ax ay bx bY px py : Int) : sq bx bY ax ay px py = sq ax ay bx bY px py := by
  unfold sq
  have := sqd_swap (bx - ax) (bY - ay) (px - ax) (py - ay)
  have e1 : ax - bx = -(bx - ax) := by omega
  have e2 : ay - bY = -(bY - ay) := by omega
  have e3 : px - bx = px - ax - (bx - ax) := by omega
  have e4 : py - bY = py - ay - (bY - ay) := by omega
  rw [e1, e2, e3, e4]; exact this
theorem sq_turn (ax ay bx bY px py : Int) : sq (-ay) ax (-bY) bx (-py) px = sq ax ay bx bY px py := by
  unfold sq
  have := sqd_turn (bx - ax) (bY - ay) (px - ax) (py - ay) (px - bx) (py - bY)
  have e1 : -bY - -ay = -(bY - ay) := by omega
  have e2 : -py - -ay = -(py - ay) := by omega
  have e3 : -py - -bY = -(py - bY) := by omega
  rw [e1, e2, e3]; exact this
theorem i16b {n : Int} (h : (Lit.int .i16 n).wf = true) : In 32768 n := by
  have := bounds_i16 h; unfold In; omega
theorem tm {n : Int} : In 8192 (Int.tmod n 8193) := by
  unfold In
  have h1 := Int.tmod_lt_of_pos n (show (0 : Int) < 8193 by decide)
  have h2 := Int.lt_tmod_of_pos n (show (0 : Int) < 8193 by decide)
  omega
theorem small_f {a b : Int} (ha : In 32768 a) (hb : In 32768 b) : punchcutlaw03_Place_Small.f a b = some (Int.tmod a 8193, Int.tmod b 8193) := by
  unfold In at *
  unfold punchcutlaw03_Place_Small.f; rw [w64 (by omega) (by omega), w64 (by omega) (by omega)]
theorem edge_f {a b c d : Int} (ha : In 32768 a) (hb : In 32768 b) (hc : In 32768 c) (hd : In 32768 d) : punchcutlaw03_Edge.f a b c d = some (Int.tmod a 8193, Int.tmod b 8193, Int.tmod c 8193, Int.tmod d 8193) := by
  unfold punchcutlaw03_Edge.f; rw [small_f ha hb, small_f hc hd]; rfl
theorem inn {n a : Int} (h : In n a) : In n (-a) := by unfold In at *; omega
theorem walk (a0 a1 b0 b1 p0 p1 : Int) (W : World) (wa0 : (Lit.int .i16 a0).wf = true) (wa1 : (Lit.int .i16 a1).wf = true) (wb0 : (Lit.int .i16 b0).wf = true) (wb1 : (Lit.int .i16 b1).wf = true) (wp0 : (Lit.int .i16 p0).wf = true) (wp1 : (Lit.int .i16 p1).wf = true) :
    Calls Try.prog 3 #[.agg #[.int .i16 a0, .int .i16 a1], .agg #[.int .i16 b0, .int .i16 b1], .agg #[.int .i16 p0, .int .i16 p1]] W fun e w' => e = .returned (.bool true) ∧ Below W.heap.size W w' := by
  have ia0 := i16b wa0
  have ia1 := i16b wa1
  have ib0 := i16b wb0
  have ib1 := i16b wb1
  have ip0 := i16b wp0
  have ip1 := i16b wp1
  have t0 := @tm a0
  have t1 := @tm a1
  have t2 := @tm b0
  have t3 := @tm b1
  have q2 := sq_swap (Int.tmod a0 8193) (Int.tmod a1 8193) (Int.tmod b0 8193) (Int.tmod b1 8193) p0 p1
  have q3 := sq_turn (Int.tmod a0 8193) (Int.tmod a1 8193) (Int.tmod b0 8193) (Int.tmod b1 8193) p0 p1
  refine turn a0 a1 b0 b1 p0 p1 (Int.tmod a0 8193) (Int.tmod a1 8193) (Int.tmod b0 8193) (Int.tmod b1 8193) p0 p1 (sq (Int.tmod a0 8193) (Int.tmod a1 8193) (Int.tmod b0 8193) (Int.tmod b1 8193) p0 p1).1 (sq (Int.tmod a0 8193) (Int.tmod a1 8193) (Int.tmod b0 8193) (Int.tmod b1 8193) p0 p1).2
    (-(Int.tmod a1 8193)) (-(Int.tmod b1 8193)) (-p1) W
    (hid fun w => punchcutlaw03_Edge.calls _ _ _ _ _ _ _ _ w (edge_f ia0 ia1 ib0 ib1)) (hid fun w => point _ _ (iw (by unfold In at *; omega) (by unfold In at *; omega)) (iw (by unfold In at *; omega) (by unfold In at *; omega)) w)
    (hid fun w => sq_calls t0 t1 t2 t3 ip0 ip1 w) (hid fun w => punchcutlaw03_Edge.calls _ _ _ _ _ _ _ _ w (edge_f ib0 ib1 ia0 ia1))
    (hid fun w => ?_) (hid fun w => punchcutlaw03_Place_Small.calls _ _ _ _ w (small_f ia0 ia1)) (hid fun w => punchcutlaw03_Place_Small.calls _ _ _ _ w (small_f ib0 ib1))
    (hid fun w => quarter _ _ _ (iw (by unfold In at *; omega) (by unfold In at *; omega)) w) (hid fun w => quarter _ _ _ (iw (by unfold In at *; omega) (by unfold In at *; omega)) w) (hid fun w => quarter _ _ _ (iw (by unfold In at *; omega) (by unfold In at *; omega)) w) (hid fun w => ?_)
  · have := sq_calls t2 t3 t0 t1 ip0 ip1 w
    rwa [q2] at this
  · have := sq_calls (inn t1) t0 (inn t3) t2 (inn ip1) ip0 w
    rwa [q3] at this
end Go.Proofs.Ytfjgamiiddcffaa.WalkTurn
