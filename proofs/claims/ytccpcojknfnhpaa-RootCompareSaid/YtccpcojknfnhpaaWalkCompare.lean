/- RootCompare's walk: fractions are compared by what they are, whatever their form. Conditions: the arguments are of their kinds. -/
import Derived.Test.YtccpcojknfnhpaaPRootComparex5
import Derived.Test.YtccpcojknfnhpaaCore
import Derived.Deep.RegionHeld3
import Derived.Deep.DrawnRows
import Derived.Lib.Hide
import Derived.WalkSpells
import Derived.OpenShut
namespace Go.Proofs.Ytccpcojknfnhpaa.WalkCompare
open Go Go.RowKit Go.Proofs.YtccpcojknfnhpaaW.PrintWords Go.Proofs.YtccpcojknfnhpaaW.PrintLast Go.Proofs.YtccpcojknfnhpaaW.PrintMore Go.Proofs.Ytccpcojknfnhpaa.Core Go.Proofs.Ytccpcojknfnhpaa.PRootCompare
set_option linter.unusedVariables false
set_option linter.unusedSimpArgs false
attribute [local go_sem ↓] Go.wp_at_zero Go.wp_at_succ
attribute [local go_sem] max2_int min2_int
abbrev Ret (v : Value) (w : World) (e : Ending) (w' : World) : Prop := e = .returned v ∧ Below w.heap.size w w'
theorem awake_calls (w : World) : Calls Try.prog 10 #[] w (Ret (.bool true) w) := punchcutlaw02_awake.calls 200 true w (by decide +kernel)
set_option maxHeartbeats 4000000 in
theorem cmp0 (a b c d k A B C D S T Z0 Z1 x0 x1 y0 y1 s sm : Int) (w : World) (hk : k = 0)
    (hA : (if 0 < a / 2 then a / 2 else 0) = A) (hB : (if 1 < b / 2 then b / 2 else 1) = B) (hC : (if 0 < c then c else 0) = C) (hD : (if 1 < d then d else 1) = D)
    (hS : A / 512 = S) (hT : (if 1 < B / 512 then B / 512 else 1) = T) (hZ0 : wrap64 (S * k) = Z0) (hZ1 : wrap64 (T * k) = Z1) (hn : wrap64 (-s) = sm) (hn2 : IntKind.i64.wrap (-s) = sm)
    (HX : Hid (∀ w, Calls Try.prog 16 #[.int .i64 A, .int .i64 B] w (Ret (.tuple #[.agg #[.int .i64 x0, .int .i64 x1], .int .i64 0]) w)))
    (HY : Hid (∀ w, Calls Try.prog 16 #[.int .i64 C, .int .i64 D] w (Ret (.tuple #[.agg #[.int .i64 y0, .int .i64 y1], .int .i64 0]) w)))
    (HXY : Hid (∀ w, Calls Try.prog 19 #[.agg #[.int .i64 x0, .int .i64 x1], .agg #[.int .i64 y0, .int .i64 y1]] w (Ret (.int .i64 s) w)))
    (HYX : Hid (∀ w, Calls Try.prog 19 #[.agg #[.int .i64 y0, .int .i64 y1], .agg #[.int .i64 x0, .int .i64 x1]] w (Ret (.int .i64 sm) w)))
    (HL : Hid (∀ w, Calls Try.prog 18 #[.int .i64 A, .int .i64 B, .int .i64 C, .int .i64 D] w (Ret (.int .i64 s) w))) :
    Calls Try.prog 9 #[.int .i64 a, .int .i64 b, .int .i64 c, .int .i64 d, .int .u8 k] w (Ret (.bool true) w) := by
  subst hk
  go_enter Try.func9, Try.ntmps9
  go_upto_region 6 with (first | (go_at_call 10; refine (awake_calls _).mono ?_; rintro e w1 ⟨rfl, hw1⟩) | (go_at_call_of 16 (Value.int IntKind.i64 A); refine (HX.out _).mono ?_; rintro e w2 ⟨rfl, hw2⟩) | (go_at_call_of 16 (Value.int IntKind.i64 C); refine (HY.out _).mono ?_; rintro e w3 ⟨rfl, hw3⟩))
  have kx0 : w3.cell? ⟨w2.heap.size, 0, none⟩ = some (.int .i64 x0) := cell_later hw3 (by go_simp)
  have kx1 : w3.cell? ⟨w2.heap.size, 1, none⟩ = some (.int .i64 x1) := cell_later hw3 (by go_simp)
  have kz : w2.heap.size < w3.heap.size := by have := hw3.size; simp [Nat.add_one_le_iff] at this; exact this
  go_upto_region 10 with fail
  have bb : Below w3.heap.size w3 (((w3.alloc (.cells #[.int .i64 y0, .int .i64 y1] 28)).alloc (.cells #[.int .i64 x0, .int .i64 x1] 28)).alloc (.cells #[.int .i64 S, .int .i64 T] 28)) := below_alloc (below_alloc (below_alloc (Below.refl _ _) _) _) _
  have hB : Below w.heap.size w (((w3.alloc (.cells #[.int .i64 y0, .int .i64 y1] 28)).alloc (.cells #[.int .i64 x0, .int .i64 x1] 28)).alloc (.cells #[.int .i64 S, .int .i64 T] 28)) := below_step (below_step (below_alloc (below_step hw1 hw2) _) hw3) bb
  have q0 := cell_later bb kx0
  have q1 := cell_later bb kx1
  have q2 : (((w3.alloc (.cells #[.int .i64 y0, .int .i64 y1] 28)).alloc (.cells #[.int .i64 x0, .int .i64 x1] 28)).alloc (.cells #[.int .i64 S, .int .i64 T] 28)).cell? ⟨w3.heap.size, 0, none⟩ = some (.int .i64 y0) := by go_simp
  have q3 : (((w3.alloc (.cells #[.int .i64 y0, .int .i64 y1] 28)).alloc (.cells #[.int .i64 x0, .int .i64 x1] 28)).alloc (.cells #[.int .i64 S, .int .i64 T] 28)).cell? ⟨w3.heap.size, 1, none⟩ = some (.int .i64 y1) := by go_simp
  have q4 : (((w3.alloc (.cells #[.int .i64 y0, .int .i64 y1] 28)).alloc (.cells #[.int .i64 x0, .int .i64 x1] 28)).alloc (.cells #[.int .i64 S, .int .i64 T] 28)).cell? ⟨w3.heap.size + 1, 0, none⟩ = some (.int .i64 x0) := by go_simp
  have q5 : (((w3.alloc (.cells #[.int .i64 y0, .int .i64 y1] 28)).alloc (.cells #[.int .i64 x0, .int .i64 x1] 28)).alloc (.cells #[.int .i64 S, .int .i64 T] 28)).cell? ⟨w3.heap.size + 1, 1, none⟩ = some (.int .i64 x1) := by go_simp
  have q6 : (((w3.alloc (.cells #[.int .i64 y0, .int .i64 y1] 28)).alloc (.cells #[.int .i64 x0, .int .i64 x1] 28)).alloc (.cells #[.int .i64 S, .int .i64 T] 28)).cell? ⟨w3.heap.size + 1 + 1, 0, none⟩ = some (.int .i64 S) := by go_simp
  have q7 : (((w3.alloc (.cells #[.int .i64 y0, .int .i64 y1] 28)).alloc (.cells #[.int .i64 x0, .int .i64 x1] 28)).alloc (.cells #[.int .i64 S, .int .i64 T] 28)).cell? ⟨w3.heap.size + 1 + 1, 1, none⟩ = some (.int .i64 T) := by go_simp
  clear bb kx0 kx1
  generalize (((w3.alloc (.cells #[.int .i64 y0, .int .i64 y1] 28)).alloc (.cells #[.int .i64 x0, .int .i64 x1] 28)).alloc (.cells #[.int .i64 S, .int .i64 T] 28)) = wb at q0 q1 q2 q3 q4 q5 q6 q7 hB ⊢
  refine wp_region_held_drew (S := fun w' => w'.cell? ⟨w2.heap.size, 0, none⟩ = some (.int .i64 x0) ∧ w'.cell? ⟨w2.heap.size, 1, none⟩ = some (.int .i64 x1) ∧ w'.cell? ⟨w3.heap.size, 0, none⟩ = some (.int .i64 y0) ∧ w'.cell? ⟨w3.heap.size, 1, none⟩ = some (.int .i64 y1)) (by kernel_rfl) ⟨q0, q1, q2, q3⟩ (fun hHeld => ?_)
  refine wpAnyH_take (i := 0) (oi := { dst := some 62, op := Op.move (Operand.tmp 12), type := 33, pos := "law.go:70", after := #[], guard := none }) (v := ?v0) rfl (by kernel_rfl) (by kernel_rfl) (by kernel_rfl) (fun _ _ _ h => h) (Or.inl ⟨by rfl, ?hy0⟩) (by assumption) ?rest0
  case hy0 => (intro w hSw; (try dsimp only at hSw); go_simp; try with_reducible rfl)
  try simp only [Act.put, List.setIfInBounds_toArray, List.set_cons_zero, List.set_cons_succ]
  refine wpAnyH_take (i := 1) (oi := { dst := some 63, op := Op.binOp BinOp.eql 33 (Operand.tmp 62) (Operand.const (Value.int IntKind.i64 0)) 33, type := 4, pos := "law.go:70", after := #[{ on := 0, ground := Ground.data }], guard := none }) (v := ?v1) rfl (by kernel_rfl) (by kernel_rfl) (by kernel_rfl) (fun _ _ _ h => h) (Or.inl ⟨by rfl, ?hy1⟩) (by assumption) ?rest1
  case hy1 => (intro w hSw; (try dsimp only at hSw); go_simp; try with_reducible rfl)
  try simp only [Act.put, List.setIfInBounds_toArray, List.set_cons_zero, List.set_cons_succ]
  refine wpAnyH_take (i := 2) (oi := { dst := some 64, op := Op.move (Operand.tmp 63), type := 4, pos := "law.go:70", after := #[{ on := 1, ground := Ground.data }], guard := none }) (v := ?v2) rfl (by kernel_rfl) (by kernel_rfl) (by kernel_rfl) (fun _ _ _ h => h) (Or.inl ⟨by rfl, ?hy2⟩) (by assumption) ?rest2
  case hy2 => (intro w hSw; (try dsimp only at hSw); go_simp; try with_reducible rfl)
  try simp only [Act.put, List.setIfInBounds_toArray, List.set_cons_zero, List.set_cons_succ]
  refine wpAnyH_take (i := 3) (oi := { dst := some 65, op := Op.move (Operand.tmp 14), type := 33, pos := "law.go:70", after := #[{ on := 2, ground := Ground.guard }], guard := some (2, true) }) (v := ?v3) rfl (by kernel_rfl) (by kernel_rfl) (by kernel_rfl) (fun _ _ _ h => h) (Or.inl ⟨by rfl, ?hy3⟩) (by assumption) ?rest3
  case hy3 => (intro w hSw; (try dsimp only at hSw); go_simp; try with_reducible rfl)
  try simp only [Act.put, List.setIfInBounds_toArray, List.set_cons_zero, List.set_cons_succ]
  refine wpAnyH_take (i := 4) (oi := { dst := some 66, op := Op.binOp BinOp.eql 33 (Operand.tmp 65) (Operand.const (Value.int IntKind.i64 0)) 33, type := 4, pos := "law.go:70", after := #[{ on := 3, ground := Ground.data }, { on := 2, ground := Ground.guard }], guard := some (2, true) }) (v := ?v4) rfl (by kernel_rfl) (by kernel_rfl) (by kernel_rfl) (fun _ _ _ h => h) (Or.inl ⟨by rfl, ?hy4⟩) (by assumption) ?rest4
  case hy4 => (intro w hSw; (try dsimp only at hSw); go_simp; try with_reducible rfl)
  try simp only [Act.put, List.setIfInBounds_toArray, List.set_cons_zero, List.set_cons_succ]
  refine wpAnyH_take (i := 5) (oi := { dst := some 67, op := Op.pick (Operand.tmp 64) (Operand.tmp 66) (Operand.const (Value.bool false)), type := 4, pos := "law.go:70", after := #[{ on := 2, ground := Ground.data }, { on := 4, ground := Ground.data }], guard := none }) (v := ?v5) rfl (by kernel_rfl) (by kernel_rfl) (by kernel_rfl) (fun _ _ _ h => h) (Or.inl ⟨by rfl, ?hy5⟩) (by assumption) ?rest5
  case hy5 => (intro w hSw; (try dsimp only at hSw); go_simp; try with_reducible rfl)
  try simp only [Act.put, List.setIfInBounds_toArray, List.set_cons_zero, List.set_cons_succ]
  refine wpAnyH_take (i := 6) (oi := { dst := some 68, op := Op.move (Operand.tmp 67), type := 4, pos := "law.go:70", after := #[{ on := 5, ground := Ground.data }, { on := 2, ground := Ground.chain }], guard := none }) (v := ?v6) rfl (by kernel_rfl) (by kernel_rfl) (by kernel_rfl) (fun _ _ _ h => h) (Or.inl ⟨by rfl, ?hy6⟩) (by assumption) ?rest6
  case hy6 => (intro w hSw; (try dsimp only at hSw); go_simp; try with_reducible rfl)
  try simp only [Act.put, List.setIfInBounds_toArray, List.set_cons_zero, List.set_cons_succ]
  refine wpAnyH_take (i := 7) (oi := { dst := some 69, op := Op.load 28 (Operand.tmp 11), type := 28, pos := "law.go:70", after := #[{ on := 6, ground := Ground.guard }], guard := some (6, true) }) (v := ?v7) rfl (by kernel_rfl) (by kernel_rfl) (by kernel_rfl) (fun _ _ _ h => h) (Or.inl ⟨by rfl, ?hy7⟩) (by assumption) ?rest7
  case hy7 => (intro w hSw; (try dsimp only at hSw); go_simp; try with_reducible rfl)
  try simp only [Act.put, List.setIfInBounds_toArray, List.set_cons_zero, List.set_cons_succ]
  refine wpAnyH_take (i := 8) (oi := { dst := some 70, op := Op.load 28 (Operand.tmp 13), type := 28, pos := "law.go:70", after := #[{ on := 6, ground := Ground.guard }], guard := some (6, true) }) (v := ?v8) rfl (by kernel_rfl) (by kernel_rfl) (by kernel_rfl) (fun _ _ _ h => h) (Or.inl ⟨by rfl, ?hy8⟩) (by assumption) ?rest8
  case hy8 => (intro w hSw; (try dsimp only at hSw); go_simp; try with_reducible rfl)
  try simp only [Act.put, List.setIfInBounds_toArray, List.set_cons_zero, List.set_cons_succ]
  refine wpAnyH_take (i := 10) (oi := { dst := some 72, op := Op.move (Operand.tmp 0), type := 3, pos := "law.go:70", after := #[{ on := 6, ground := Ground.guard }], guard := some (6, true) }) (v := ?v10) rfl (by kernel_rfl) (by kernel_rfl) (by kernel_rfl) (fun _ _ _ h => h) (Or.inl ⟨by rfl, ?hy10⟩) (by assumption) ?rest10
  case hy10 => (intro w hSw; (try dsimp only at hSw); go_simp; try with_reducible rfl)
  try simp only [Act.put, List.setIfInBounds_toArray, List.set_cons_zero, List.set_cons_succ]
  refine wpAnyH_take (i := 11) (oi := { dst := some 73, op := Op.move (Operand.tmp 1), type := 3, pos := "law.go:70", after := #[{ on := 6, ground := Ground.guard }], guard := some (6, true) }) (v := ?v11) rfl (by kernel_rfl) (by kernel_rfl) (by kernel_rfl) (fun _ _ _ h => h) (Or.inl ⟨by rfl, ?hy11⟩) (by assumption) ?rest11
  case hy11 => (intro w hSw; (try dsimp only at hSw); go_simp; try with_reducible rfl)
  try simp only [Act.put, List.setIfInBounds_toArray, List.set_cons_zero, List.set_cons_succ]
  refine wpAnyH_take (i := 12) (oi := { dst := some 74, op := Op.move (Operand.tmp 2), type := 3, pos := "law.go:70", after := #[{ on := 6, ground := Ground.guard }], guard := some (6, true) }) (v := ?v12) rfl (by kernel_rfl) (by kernel_rfl) (by kernel_rfl) (fun _ _ _ h => h) (Or.inl ⟨by rfl, ?hy12⟩) (by assumption) ?rest12
  case hy12 => (intro w hSw; (try dsimp only at hSw); go_simp; try with_reducible rfl)
  try simp only [Act.put, List.setIfInBounds_toArray, List.set_cons_zero, List.set_cons_succ]
  refine wpAnyH_take (i := 13) (oi := { dst := some 75, op := Op.move (Operand.tmp 3), type := 3, pos := "law.go:70", after := #[{ on := 6, ground := Ground.guard }], guard := some (6, true) }) (v := ?v13) rfl (by kernel_rfl) (by kernel_rfl) (by kernel_rfl) (fun _ _ _ h => h) (Or.inl ⟨by rfl, ?hy13⟩) (by assumption) ?rest13
  case hy13 => (intro w hSw; (try dsimp only at hSw); go_simp; try with_reducible rfl)
  try simp only [Act.put, List.setIfInBounds_toArray, List.set_cons_zero, List.set_cons_succ]
  refine wpAnyH_ready (rs := [9]) (by kernel_rfl) (by simp) ?_
  refine AllReadyH.cons (o := { dst := some 71, op := Op.call { callee := Callee.value (Operand.func 19), args := #[Operand.tmp 69, Operand.tmp 70], argTypes := #[28, 28] }, type := 3, pos := "law.go:70", after := #[{ on := 7, ground := Ground.data }, { on := 8, ground := Ground.data }, { on := 6, ground := Ground.chain }, { on := 6, ground := Ground.guard }], guard := some (6, true) }) rfl (fun K hK => ?_) AllReadyH.nil
  go_simp
  refine (HXY.out _).mono ?_; rintro e t1 ⟨rfl, hbq⟩
  have Bt1 : Below wb.heap.size wb t1 := below_step (by (repeat' (first | with_reducible assumption | with_reducible exact Below.refl _ _ | with_reducible refine below_drew1 ?_))) hbq
  go_wp2_with fail
  refine hK.out _ _ ?_ (fun hHeldt1 => ?_)
  · (try dsimp only)
    (go_split_ands; (repeat' apply And.intro) <;> (repeat' (first | with_reducible assumption | (refine cell_later hbq ?_; assumption))))
  clear hK K
  try simp only [Act.put, List.setIfInBounds_toArray, List.set_cons_zero, List.set_cons_succ]
  refine wpAnyH_ready (rs := [14]) (by kernel_rfl) (by simp) ?_
  refine AllReadyH.cons (o := { dst := some 76, op := Op.call { callee := Callee.value (Operand.func 18), args := #[Operand.tmp 72, Operand.tmp 73, Operand.tmp 74, Operand.tmp 75], argTypes := #[3, 3, 3, 3] }, type := 3, pos := "law.go:70", after := #[{ on := 10, ground := Ground.data }, { on := 11, ground := Ground.data }, { on := 12, ground := Ground.data }, { on := 13, ground := Ground.data }, { on := 9, ground := Ground.chain }, { on := 6, ground := Ground.guard }], guard := some (6, true) }) rfl (fun K hK => ?_) AllReadyH.nil
  go_simp
  refine (HL.out _).mono ?_; rintro e t2 ⟨rfl, hbq⟩
  have Bt2 : Below wb.heap.size wb t2 := below_step (by (repeat' (first | with_reducible assumption | with_reducible exact Below.refl _ _ | with_reducible refine below_drew1 ?_))) hbq
  go_wp2_with fail
  refine hK.out _ _ ?_ (fun hHeldt2 => ?_)
  · (try dsimp only)
    (go_split_ands; (repeat' apply And.intro) <;> (repeat' (first | with_reducible assumption | (refine cell_later hbq ?_; assumption))))
  clear hK K
  try simp only [Act.put, List.setIfInBounds_toArray, List.set_cons_zero, List.set_cons_succ]
  refine wpAnyH_take (i := 15) (oi := { dst := some 77, op := Op.binOp BinOp.eql 3 (Operand.tmp 71) (Operand.tmp 76) 3, type := 4, pos := "law.go:70", after := #[{ on := 9, ground := Ground.data }, { on := 14, ground := Ground.data }, { on := 6, ground := Ground.guard }], guard := some (6, true) }) (v := ?v15) rfl (by kernel_rfl) (by kernel_rfl) (by kernel_rfl) (fun _ _ _ h => h) (Or.inl ⟨by rfl, ?hy15⟩) (by assumption) ?rest15
  case hy15 => (intro w hSw; (try dsimp only at hSw); go_simp; try with_reducible rfl)
  try simp only [Act.put, List.setIfInBounds_toArray, List.set_cons_zero, List.set_cons_succ]
  refine wpAnyH_take (i := 16) (oi := { dst := some 78, op := Op.pick (Operand.tmp 68) (Operand.tmp 77) (Operand.const (Value.bool false)), type := 4, pos := "law.go:70", after := #[{ on := 6, ground := Ground.data }, { on := 15, ground := Ground.data }], guard := none }) (v := ?v16) rfl (by kernel_rfl) (by kernel_rfl) (by kernel_rfl) (fun _ _ _ h => h) (Or.inl ⟨by rfl, ?hy16⟩) (by assumption) ?rest16
  case hy16 => (intro w hSw; (try dsimp only at hSw); go_simp; try with_reducible rfl)
  try simp only [Act.put, List.setIfInBounds_toArray, List.set_cons_zero, List.set_cons_succ]
  refine wpAnyH_take (i := 17) (oi := { dst := some 79, op := Op.move (Operand.tmp 78), type := 4, pos := "law.go:70", after := #[{ on := 16, ground := Ground.data }, { on := 14, ground := Ground.chain }], guard := none }) (v := ?v17) rfl (by kernel_rfl) (by kernel_rfl) (by kernel_rfl) (fun _ _ _ h => h) (Or.inl ⟨by rfl, ?hy17⟩) (by assumption) ?rest17
  case hy17 => (intro w hSw; (try dsimp only at hSw); go_simp; try with_reducible rfl)
  try simp only [Act.put, List.setIfInBounds_toArray, List.set_cons_zero, List.set_cons_succ]
  refine wpAnyH_take (i := 18) (oi := { dst := some 80, op := Op.load 28 (Operand.tmp 13), type := 28, pos := "law.go:70", after := #[{ on := 17, ground := Ground.guard }], guard := some (17, true) }) (v := ?v18) rfl (by kernel_rfl) (by kernel_rfl) (by kernel_rfl) (fun _ _ _ h => h) (Or.inl ⟨by rfl, ?hy18⟩) (by assumption) ?rest18
  case hy18 => (intro w hSw; (try dsimp only at hSw); go_simp; try with_reducible rfl)
  try simp only [Act.put, List.setIfInBounds_toArray, List.set_cons_zero, List.set_cons_succ]
  refine wpAnyH_take (i := 19) (oi := { dst := some 81, op := Op.load 28 (Operand.tmp 11), type := 28, pos := "law.go:70", after := #[{ on := 17, ground := Ground.guard }], guard := some (17, true) }) (v := ?v19) rfl (by kernel_rfl) (by kernel_rfl) (by kernel_rfl) (fun _ _ _ h => h) (Or.inl ⟨by rfl, ?hy19⟩) (by assumption) ?rest19
  case hy19 => (intro w hSw; (try dsimp only at hSw); go_simp; try with_reducible rfl)
  try simp only [Act.put, List.setIfInBounds_toArray, List.set_cons_zero, List.set_cons_succ]
  refine wpAnyH_take (i := 21) (oi := { dst := some 83, op := Op.load 28 (Operand.tmp 11), type := 28, pos := "law.go:70", after := #[{ on := 17, ground := Ground.guard }], guard := some (17, true) }) (v := ?v21) rfl (by kernel_rfl) (by kernel_rfl) (by kernel_rfl) (fun _ _ _ h => h) (Or.inl ⟨by rfl, ?hy21⟩) (by assumption) ?rest21
  case hy21 => (intro w hSw; (try dsimp only at hSw); go_simp; try with_reducible rfl)
  try simp only [Act.put, List.setIfInBounds_toArray, List.set_cons_zero, List.set_cons_succ]
  refine wpAnyH_take (i := 22) (oi := { dst := some 84, op := Op.load 28 (Operand.tmp 13), type := 28, pos := "law.go:70", after := #[{ on := 17, ground := Ground.guard }], guard := some (17, true) }) (v := ?v22) rfl (by kernel_rfl) (by kernel_rfl) (by kernel_rfl) (fun _ _ _ h => h) (Or.inl ⟨by rfl, ?hy22⟩) (by assumption) ?rest22
  case hy22 => (intro w hSw; (try dsimp only at hSw); go_simp; try with_reducible rfl)
  try simp only [Act.put, List.setIfInBounds_toArray, List.set_cons_zero, List.set_cons_succ]
  refine wpAnyH_ready (rs := [20]) (by kernel_rfl) (by simp) ?_
  refine AllReadyH.cons (o := { dst := some 82, op := Op.call { callee := Callee.value (Operand.func 19), args := #[Operand.tmp 80, Operand.tmp 81], argTypes := #[28, 28] }, type := 3, pos := "law.go:70", after := #[{ on := 18, ground := Ground.data }, { on := 19, ground := Ground.data }, { on := 17, ground := Ground.chain }, { on := 17, ground := Ground.guard }], guard := some (17, true) }) rfl (fun K hK => ?_) AllReadyH.nil
  go_simp
  refine (HYX.out _).mono ?_; rintro e t3 ⟨rfl, hbq⟩
  have Bt3 : Below wb.heap.size wb t3 := below_step (by (repeat' (first | with_reducible assumption | with_reducible exact Below.refl _ _ | with_reducible refine below_drew1 ?_))) hbq
  go_wp2_with fail
  refine hK.out _ _ ?_ (fun hHeldt3 => ?_)
  · (try dsimp only)
    (go_split_ands; (repeat' apply And.intro) <;> (repeat' (first | with_reducible assumption | (refine cell_later hbq ?_; assumption))))
  clear hK K
  try simp only [Act.put, List.setIfInBounds_toArray, List.set_cons_zero, List.set_cons_succ]
  refine wpAnyH_ready (rs := [23]) (by kernel_rfl) (by simp) ?_
  refine AllReadyH.cons (o := { dst := some 85, op := Op.call { callee := Callee.value (Operand.func 19), args := #[Operand.tmp 83, Operand.tmp 84], argTypes := #[28, 28] }, type := 3, pos := "law.go:70", after := #[{ on := 21, ground := Ground.data }, { on := 22, ground := Ground.data }, { on := 20, ground := Ground.chain }, { on := 17, ground := Ground.guard }], guard := some (17, true) }) rfl (fun K hK => ?_) AllReadyH.nil
  go_simp
  refine (HXY.out _).mono ?_; rintro e t4 ⟨rfl, hbq⟩
  have Bt4 : Below wb.heap.size wb t4 := below_step (by (repeat' (first | with_reducible assumption | with_reducible exact Below.refl _ _ | with_reducible refine below_drew1 ?_))) hbq
  go_wp2_with fail
  refine hK.out _ _ ?_ (fun hHeldt4 => ?_)
  · (try dsimp only)
    (go_split_ands; (repeat' apply And.intro) <;> (repeat' (first | with_reducible assumption | (refine cell_later hbq ?_; assumption))))
  clear hK K
  try simp only [Act.put, List.setIfInBounds_toArray, List.set_cons_zero, List.set_cons_succ]
  refine wpAnyH_take (i := 24) (oi := { dst := some 86, op := Op.unOp UnOp.neg 3 (Operand.tmp 85), type := 3, pos := "law.go:70", after := #[{ on := 23, ground := Ground.data }, { on := 17, ground := Ground.guard }], guard := some (17, true) }) (v := ?v24) rfl (by kernel_rfl) (by kernel_rfl) (by kernel_rfl) (fun _ _ _ h => h) (Or.inl ⟨by rfl, ?hy24⟩) (by assumption) ?rest24
  case hy24 => (intro w hSw; (try dsimp only at hSw); go_simp; try with_reducible rfl)
  try simp only [Act.put, List.setIfInBounds_toArray, List.set_cons_zero, List.set_cons_succ]
  refine wpAnyH_take (i := 25) (oi := { dst := some 87, op := Op.binOp BinOp.eql 3 (Operand.tmp 82) (Operand.tmp 86) 3, type := 4, pos := "law.go:70", after := #[{ on := 20, ground := Ground.data }, { on := 24, ground := Ground.data }, { on := 17, ground := Ground.guard }], guard := some (17, true) }) (v := ?v25) rfl (by kernel_rfl) (by kernel_rfl) (by kernel_rfl) (fun _ _ _ h => h) (Or.inl ⟨by rfl, ?hy25⟩) (by assumption) ?rest25
  case hy25 => (intro w hSw; (try dsimp only at hSw); go_simp; try with_reducible rfl)
  try simp only [Act.put, List.setIfInBounds_toArray, List.set_cons_zero, List.set_cons_succ]
  refine wpAnyH_take (i := 26) (oi := { dst := some 88, op := Op.pick (Operand.tmp 79) (Operand.tmp 87) (Operand.const (Value.bool false)), type := 4, pos := "law.go:70", after := #[{ on := 17, ground := Ground.data }, { on := 25, ground := Ground.data }], guard := none }) (v := ?v26) rfl (by kernel_rfl) (by kernel_rfl) (by kernel_rfl) (fun _ _ _ h => h) (Or.inl ⟨by rfl, ?hy26⟩) (by assumption) ?rest26
  case hy26 => (intro w hSw; (try dsimp only at hSw); go_simp; try with_reducible rfl)
  try simp only [Act.put, List.setIfInBounds_toArray, List.set_cons_zero, List.set_cons_succ]
  refine wpAnyH_take (i := 27) (oi := { dst := some 89, op := Op.move (Operand.tmp 88), type := 4, pos := "law.go:70", after := #[{ on := 26, ground := Ground.data }, { on := 23, ground := Ground.chain }], guard := none }) (v := ?v27) rfl (by kernel_rfl) (by kernel_rfl) (by kernel_rfl) (fun _ _ _ h => h) (Or.inl ⟨by rfl, ?hy27⟩) (by assumption) ?rest27
  case hy27 => (intro w hSw; (try dsimp only at hSw); go_simp; try with_reducible rfl)
  try simp only [Act.put, List.setIfInBounds_toArray, List.set_cons_zero, List.set_cons_succ]
  refine wpAnyH_take (i := 28) (oi := { dst := some 90, op := Op.move (Operand.tmp 4), type := 5, pos := "law.go:70", after := #[{ on := 27, ground := Ground.guard }], guard := some (27, true) }) (v := ?v28) rfl (by kernel_rfl) (by kernel_rfl) (by kernel_rfl) (fun _ _ _ h => h) (Or.inl ⟨by rfl, ?hy28⟩) (by assumption) ?rest28
  case hy28 => (intro w hSw; (try dsimp only at hSw); go_simp; try with_reducible rfl)
  try simp only [Act.put, List.setIfInBounds_toArray, List.set_cons_zero, List.set_cons_succ]
  refine wpAnyH_take (i := 29) (oi := { dst := some 91, op := Op.binOp BinOp.eql 5 (Operand.tmp 90) (Operand.const (Value.int IntKind.u8 0)) 5, type := 4, pos := "law.go:70", after := #[{ on := 28, ground := Ground.data }, { on := 27, ground := Ground.guard }], guard := some (27, true) }) (v := ?v29) rfl (by kernel_rfl) (by kernel_rfl) (by kernel_rfl) (fun _ _ _ h => h) (Or.inl ⟨by rfl, ?hy29⟩) (by assumption) ?rest29
  case hy29 => (intro w hSw; (try dsimp only at hSw); go_simp; try with_reducible rfl)
  try simp only [Act.put, List.setIfInBounds_toArray, List.set_cons_zero, List.set_cons_succ]
  refine wpAnyH_take (i := 30) (oi := { dst := some 92, op := Op.move (Operand.tmp 91), type := 4, pos := "law.go:70", after := #[{ on := 29, ground := Ground.data }, { on := 27, ground := Ground.chain }, { on := 27, ground := Ground.guard }], guard := some (27, true) }) (v := ?v30) rfl (by kernel_rfl) (by kernel_rfl) (by kernel_rfl) (fun _ _ _ h => h) (Or.inl ⟨by rfl, ?hy30⟩) (by assumption) ?rest30
  case hy30 => (intro w hSw; (try dsimp only at hSw); go_simp; try with_reducible rfl)
  try simp only [Act.put, List.setIfInBounds_toArray, List.set_cons_zero, List.set_cons_succ]
  refine wpAnyH_take (i := 31) (oi := { dst := some 93, op := Op.load 28 (Operand.tmp 15), type := 28, pos := "law.go:70", after := #[{ on := 30, ground := Ground.guard }], guard := some (30, false) }) (v := undef) rfl (by kernel_rfl) (by kernel_rfl) (by kernel_rfl) (fun _ _ _ h => h) (Or.inr ⟨by rfl, rfl⟩) (by assumption) ?_
  try simp only [Act.put, List.setIfInBounds_toArray, List.set_cons_zero, List.set_cons_succ]
  refine wpAnyH_take (i := 32) (oi := { dst := some 94, op := Op.load 28 (Operand.tmp 16), type := 28, pos := "law.go:70", after := #[{ on := 30, ground := Ground.guard }], guard := some (30, false) }) (v := undef) rfl (by kernel_rfl) (by kernel_rfl) (by kernel_rfl) (fun _ _ _ h => h) (Or.inr ⟨by rfl, rfl⟩) (by assumption) ?_
  try simp only [Act.put, List.setIfInBounds_toArray, List.set_cons_zero, List.set_cons_succ]
  refine wpAnyH_take (i := 33) (oi := { dst := some 95, op := Op.call { callee := Callee.value (Operand.func 19), args := #[Operand.tmp 93, Operand.tmp 94], argTypes := #[28, 28] }, type := 3, pos := "law.go:70", after := #[{ on := 31, ground := Ground.data }, { on := 32, ground := Ground.data }, { on := 30, ground := Ground.chain }, { on := 30, ground := Ground.guard }], guard := some (30, false) }) (v := undef) rfl (by kernel_rfl) (by kernel_rfl) (by kernel_rfl) (fun _ _ _ h => h) (Or.inr ⟨by rfl, rfl⟩) (by assumption) ?_
  try simp only [Act.put, List.setIfInBounds_toArray, List.set_cons_zero, List.set_cons_succ]
  refine wpAnyH_take (i := 34) (oi := { dst := some 96, op := Op.binOp BinOp.eql 3 (Operand.tmp 95) (Operand.const (Value.int IntKind.i64 0)) 3, type := 4, pos := "law.go:70", after := #[{ on := 33, ground := Ground.data }, { on := 30, ground := Ground.guard }], guard := some (30, false) }) (v := undef) rfl (by kernel_rfl) (by kernel_rfl) (by kernel_rfl) (fun _ _ _ h => h) (Or.inr ⟨by rfl, rfl⟩) (by assumption) ?_
  try simp only [Act.put, List.setIfInBounds_toArray, List.set_cons_zero, List.set_cons_succ]
  refine wpAnyH_take (i := 35) (oi := { dst := some 97, op := Op.pick (Operand.tmp 92) (Operand.const (Value.bool true)) (Operand.tmp 96), type := 4, pos := "law.go:70", after := #[{ on := 30, ground := Ground.data }, { on := 34, ground := Ground.data }, { on := 27, ground := Ground.guard }], guard := some (27, true) }) (v := ?v35) rfl (by kernel_rfl) (by kernel_rfl) (by kernel_rfl) (fun _ _ _ h => h) (Or.inl ⟨by rfl, ?hy35⟩) (by assumption) ?rest35
  case hy35 => (intro w hSw; (try dsimp only at hSw); go_simp; try with_reducible rfl)
  try simp only [Act.put, List.setIfInBounds_toArray, List.set_cons_zero, List.set_cons_succ]
  refine wpAnyH_take (i := 36) (oi := { dst := some 98, op := Op.pick (Operand.tmp 89) (Operand.tmp 97) (Operand.const (Value.bool false)), type := 4, pos := "law.go:70", after := #[{ on := 27, ground := Ground.data }, { on := 35, ground := Ground.data }], guard := none }) (v := ?v36) rfl (by kernel_rfl) (by kernel_rfl) (by kernel_rfl) (fun _ _ _ h => h) (Or.inl ⟨by rfl, ?hy36⟩) (by assumption) ?rest36
  case hy36 => (intro w hSw; (try dsimp only at hSw); go_simp; try with_reducible rfl)
  try simp only [Act.put, List.setIfInBounds_toArray, List.set_cons_zero, List.set_cons_succ]
  refine wpAnyH_take (i := 37) (oi := { dst := some 10, op := Op.assign (Operand.tmp 98), type := 4, pos := "law.go:70", after := #[{ on := 36, ground := Ground.data }, { on := 33, ground := Ground.chain }, { on := 0, ground := Ground.phase }, { on := 1, ground := Ground.phase }, { on := 2, ground := Ground.phase }, { on := 3, ground := Ground.phase }, { on := 4, ground := Ground.phase }, { on := 5, ground := Ground.phase }, { on := 6, ground := Ground.phase }, { on := 7, ground := Ground.phase }, { on := 8, ground := Ground.phase }, { on := 9, ground := Ground.phase }, { on := 10, ground := Ground.phase }, { on := 11, ground := Ground.phase }, { on := 12, ground := Ground.phase }, { on := 13, ground := Ground.phase }, { on := 14, ground := Ground.phase }, { on := 15, ground := Ground.phase }, { on := 16, ground := Ground.phase }, { on := 17, ground := Ground.phase }, { on := 18, ground := Ground.phase }, { on := 19, ground := Ground.phase }, { on := 20, ground := Ground.phase }, { on := 21, ground := Ground.phase }, { on := 22, ground := Ground.phase }, { on := 23, ground := Ground.phase }, { on := 24, ground := Ground.phase }, { on := 25, ground := Ground.phase }, { on := 26, ground := Ground.phase }, { on := 27, ground := Ground.phase }, { on := 28, ground := Ground.phase }, { on := 29, ground := Ground.phase }, { on := 30, ground := Ground.phase }, { on := 31, ground := Ground.phase }, { on := 32, ground := Ground.phase }, { on := 33, ground := Ground.phase }, { on := 34, ground := Ground.phase }, { on := 35, ground := Ground.phase }, { on := 36, ground := Ground.phase }], guard := none }) (v := ?v37) rfl (by kernel_rfl) (by kernel_rfl) (by kernel_rfl) (fun _ _ _ h => h) (Or.inl ⟨by rfl, ?hy37⟩) (by assumption) ?rest37
  case hy37 => (intro w hSw; (try dsimp only at hSw); go_simp; try with_reducible rfl)
  try simp only [Act.put, List.setIfInBounds_toArray, List.set_cons_zero, List.set_cons_succ]
  refine wpAnyH_done (by kernel_rfl) ?_ _
  go_wp2_with fail
  go_ret
  exact ⟨rfl, below_step hB Bt4⟩
set_option maxHeartbeats 4000000 in
theorem cmp1 (a b c d k A B C D S T Z0 Z1 x0 x1 y0 y1 s sm : Int) (w : World) (hk : ¬ k = 0) (hk0 : 0 ≤ k) (hk1 : k ≤ 255)
    (hA : (if 0 < a / 2 then a / 2 else 0) = A) (hB : (if 1 < b / 2 then b / 2 else 1) = B) (hC : (if 0 < c then c else 0) = C) (hD : (if 1 < d then d else 1) = D)
    (hS : A / 512 = S) (hT : (if 1 < B / 512 then B / 512 else 1) = T) (hZ0 : wrap64 (S * k) = Z0) (hZ1 : wrap64 (T * k) = Z1) (hn : wrap64 (-s) = sm) (hn2 : IntKind.i64.wrap (-s) = sm)
    (HX : Hid (∀ w, Calls Try.prog 16 #[.int .i64 A, .int .i64 B] w (Ret (.tuple #[.agg #[.int .i64 x0, .int .i64 x1], .int .i64 0]) w)))
    (HY : Hid (∀ w, Calls Try.prog 16 #[.int .i64 C, .int .i64 D] w (Ret (.tuple #[.agg #[.int .i64 y0, .int .i64 y1], .int .i64 0]) w)))
    (HXY : Hid (∀ w, Calls Try.prog 19 #[.agg #[.int .i64 x0, .int .i64 x1], .agg #[.int .i64 y0, .int .i64 y1]] w (Ret (.int .i64 s) w)))
    (HYX : Hid (∀ w, Calls Try.prog 19 #[.agg #[.int .i64 y0, .int .i64 y1], .agg #[.int .i64 x0, .int .i64 x1]] w (Ret (.int .i64 sm) w)))
    (HL : Hid (∀ w, Calls Try.prog 18 #[.int .i64 A, .int .i64 B, .int .i64 C, .int .i64 D] w (Ret (.int .i64 s) w)))
    (HZ : Hid (∀ w, Calls Try.prog 19 #[.agg #[.int .i64 Z0, .int .i64 Z1], .agg #[.int .i64 S, .int .i64 T]] w (Ret (.int .i64 0) w))) :
    Calls Try.prog 9 #[.int .i64 a, .int .i64 b, .int .i64 c, .int .i64 d, .int .u8 k] w (Ret (.bool true) w) := by
  have hkb : (k == 0) = false := beq_eq_false_iff_ne.mpr hk
  go_enter Try.func9, Try.ntmps9
  go_upto_region 6 with (first | (go_at_call 10; refine (awake_calls _).mono ?_; rintro e w1 ⟨rfl, hw1⟩) | (go_at_call_of 16 (Value.int IntKind.i64 A); refine (HX.out _).mono ?_; rintro e w2 ⟨rfl, hw2⟩) | (go_at_call_of 16 (Value.int IntKind.i64 C); refine (HY.out _).mono ?_; rintro e w3 ⟨rfl, hw3⟩))
  have kx0 : w3.cell? ⟨w2.heap.size, 0, none⟩ = some (.int .i64 x0) := cell_later hw3 (by go_simp)
  have kx1 : w3.cell? ⟨w2.heap.size, 1, none⟩ = some (.int .i64 x1) := cell_later hw3 (by go_simp)
  have kz : w2.heap.size < w3.heap.size := by have := hw3.size; simp [Nat.add_one_le_iff] at this; exact this
  go_upto_region 10 with fail
  have bb : Below w3.heap.size w3 (((w3.alloc (.cells #[.int .i64 y0, .int .i64 y1] 28)).alloc (.cells #[.int .i64 Z0, .int .i64 Z1] 28)).alloc (.cells #[.int .i64 S, .int .i64 T] 28)) := below_alloc (below_alloc (below_alloc (Below.refl _ _) _) _) _
  have hB : Below w.heap.size w (((w3.alloc (.cells #[.int .i64 y0, .int .i64 y1] 28)).alloc (.cells #[.int .i64 Z0, .int .i64 Z1] 28)).alloc (.cells #[.int .i64 S, .int .i64 T] 28)) := below_step (below_step (below_alloc (below_step hw1 hw2) _) hw3) bb
  have q0 := cell_later bb kx0
  have q1 := cell_later bb kx1
  have q2 : (((w3.alloc (.cells #[.int .i64 y0, .int .i64 y1] 28)).alloc (.cells #[.int .i64 Z0, .int .i64 Z1] 28)).alloc (.cells #[.int .i64 S, .int .i64 T] 28)).cell? ⟨w3.heap.size, 0, none⟩ = some (.int .i64 y0) := by go_simp
  have q3 : (((w3.alloc (.cells #[.int .i64 y0, .int .i64 y1] 28)).alloc (.cells #[.int .i64 Z0, .int .i64 Z1] 28)).alloc (.cells #[.int .i64 S, .int .i64 T] 28)).cell? ⟨w3.heap.size, 1, none⟩ = some (.int .i64 y1) := by go_simp
  have q4 : (((w3.alloc (.cells #[.int .i64 y0, .int .i64 y1] 28)).alloc (.cells #[.int .i64 Z0, .int .i64 Z1] 28)).alloc (.cells #[.int .i64 S, .int .i64 T] 28)).cell? ⟨w3.heap.size + 1, 0, none⟩ = some (.int .i64 Z0) := by go_simp
  have q5 : (((w3.alloc (.cells #[.int .i64 y0, .int .i64 y1] 28)).alloc (.cells #[.int .i64 Z0, .int .i64 Z1] 28)).alloc (.cells #[.int .i64 S, .int .i64 T] 28)).cell? ⟨w3.heap.size + 1, 1, none⟩ = some (.int .i64 Z1) := by go_simp
  have q6 : (((w3.alloc (.cells #[.int .i64 y0, .int .i64 y1] 28)).alloc (.cells #[.int .i64 Z0, .int .i64 Z1] 28)).alloc (.cells #[.int .i64 S, .int .i64 T] 28)).cell? ⟨w3.heap.size + 1 + 1, 0, none⟩ = some (.int .i64 S) := by go_simp
  have q7 : (((w3.alloc (.cells #[.int .i64 y0, .int .i64 y1] 28)).alloc (.cells #[.int .i64 Z0, .int .i64 Z1] 28)).alloc (.cells #[.int .i64 S, .int .i64 T] 28)).cell? ⟨w3.heap.size + 1 + 1, 1, none⟩ = some (.int .i64 T) := by go_simp
  clear bb kx0 kx1
  generalize (((w3.alloc (.cells #[.int .i64 y0, .int .i64 y1] 28)).alloc (.cells #[.int .i64 Z0, .int .i64 Z1] 28)).alloc (.cells #[.int .i64 S, .int .i64 T] 28)) = wb at q0 q1 q2 q3 q4 q5 q6 q7 hB ⊢
  go_region_held3 (fun w' => w'.cell? ⟨w2.heap.size, 0, none⟩ = some (.int .i64 x0) ∧ w'.cell? ⟨w2.heap.size, 1, none⟩ = some (.int .i64 x1) ∧ w'.cell? ⟨w3.heap.size, 0, none⟩ = some (.int .i64 y0) ∧ w'.cell? ⟨w3.heap.size, 1, none⟩ = some (.int .i64 y1) ∧ w'.cell? ⟨w3.heap.size + 1, 0, none⟩ = some (.int .i64 Z0) ∧ w'.cell? ⟨w3.heap.size + 1, 1, none⟩ = some (.int .i64 Z1) ∧ w'.cell? ⟨w3.heap.size + 1 + 1, 0, none⟩ = some (.int .i64 S) ∧ w'.cell? ⟨w3.heap.size + 1 + 1, 1, none⟩ = some (.int .i64 T))
    (first | go_keep | (go_split_ands; (refine ⟨?_, ?_, ?_, ?_, ?_, ?_, ?_, ?_⟩ <;> (refine cell_later hbq ?_; assumption))) | (go_split_ands; (refine ⟨?_, ?_, ?_, ?_, ?_, ?_, ?_, ?_⟩ <;> (refine cell_later hbq ?_; go_simp; done))))
    (first
      | (go_at_call_of 19 (#[Value.agg #[Value.int IntKind.i64 x0, Value.int IntKind.i64 x1], Value.agg #[Value.int IntKind.i64 y0, Value.int IntKind.i64 y1]] : Array Value); refine (HXY.out _).mono ?_; rintro e wq ⟨rfl, hbq⟩; have Bwq : Below wb.heap.size wb wq := below_step (by (repeat' (first | with_reducible assumption | with_reducible exact Below.refl _ _ | with_reducible refine below_drew1 ?_))) hbq)
      | (go_at_call_of 19 (#[Value.agg #[Value.int IntKind.i64 y0, Value.int IntKind.i64 y1], Value.agg #[Value.int IntKind.i64 x0, Value.int IntKind.i64 x1]] : Array Value); refine (HYX.out _).mono ?_; rintro e wq ⟨rfl, hbq⟩; have Bwq : Below wb.heap.size wb wq := below_step (by (repeat' (first | with_reducible assumption | with_reducible exact Below.refl _ _ | with_reducible refine below_drew1 ?_))) hbq)
      | (go_at_call 18; refine (HL.out _).mono ?_; rintro e wq ⟨rfl, hbq⟩; have Bwq : Below wb.heap.size wb wq := below_step (by (repeat' (first | with_reducible assumption | with_reducible exact Below.refl _ _ | with_reducible refine below_drew1 ?_))) hbq)
      | (go_at_call_of 19 (#[Value.agg #[Value.int IntKind.i64 Z0, Value.int IntKind.i64 Z1], Value.agg #[Value.int IntKind.i64 S, Value.int IntKind.i64 T]] : Array Value); refine (HZ.out _).mono ?_; rintro e wq ⟨rfl, hbq⟩; have Bwq : Below wb.heap.size wb wq := below_step (by (repeat' (first | with_reducible assumption | with_reducible exact Below.refl _ _ | with_reducible refine below_drew1 ?_))) hbq))
  go_wp2_with fail
  go_ret
  exact ⟨rfl, below_step hB (by assumption)⟩
end Go.Proofs.Ytccpcojknfnhpaa.WalkCompare
