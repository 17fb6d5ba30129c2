/- The law FrameWrong, for every input: its row, over the walk in YtfbnaicnmkkohaaWrongAll. Conditions: none. -/
import Derived.Test.YtfbnaicnmkkohaaRows
import Derived.Test.YtfbnaicnmkkohaaWrongAll
import Derived.Test.YtfbnaicnmkkohaaOpen
import Derived.WalkKit
import Derived.ProofKit
import Derived.OpenShut
import Derived.ShutString
import Derived.ChangeOld
import Derived.Below
import Derived.SizedLaws
import Derived.Carry
import Derived.Lib.SmallJoins
namespace Go.Proofs.Ytfbnaicnmkkohaa.rowFrameWrong
open Go.ChangeShapes Go.WideShapes Go.ChangeAt Go.RowKit Go.Joins Go.Proofs.Ytfbnaicnmkkohaa.Open
open Go.ChangeMaps (open_string shut_string)
set_option linter.unusedVariables false
theorem own : ownKnob Try.prog.godebug = none := by kernel_rfl
theorem laidOut : laidOutB Try.prog = true := by kernel_rfl
theorem cells35 : Try.prog.cellsOf 35 = 5 := by kernel_rfl
theorem cells41 : Try.prog.cellsOf 41 = 7 := by kernel_rfl
theorem cells30 : Try.prog.cellsOf 30 = 3 := by kernel_rfl
set_option maxRecDepth 100000 in
theorem lifted (os : Os) (started : os.Started) (H : Type) (enc : TypeId × Value → H) :
    ReturnsInHanded {} Try.checked os 4 .any (Rows.frameWrongSpec.pre6 enc Try.prog Try.f4 Rows.frameWrongRow.domain false) (Rows.frameWrongSpec.post enc Try.prog Try.f4 false true false false) := by
  refine returnsInHanded_of_change_sized (C := Try.checked) own started (by kernel_rfl) Try.func4
    (ChangeSpec.witness6 (enc := enc) (C := Try.checked) false ⟨#[], #[.agg #[.int .i64 0, .int .i64 0, .slice none 0 0], .agg #[.int .i64 0, .int .i64 0, .int .i64 0, .int .i64 0, .int .i64 0, .int .i64 0, .int .u8 0], .agg #[.int .u8 0, .int .u8 0, .int .u8 0, .int .u8 0, .int .u8 0], .agg #[.int .u8 0, .int .u8 0, .int .u8 0, .int .u8 0, .int .u8 0, .int .u8 0, .int .u8 0], .int .u8 0, .int .i64 0], []⟩ 8 (by kernel_rfl) (by kernel_rfl) (by kernel_rfl) (by kernel_rfl)) ?_
  intro W base args ds gs before hval0 hW hcnd hsz0 _
  have hval : ∀ (j : Nat) t v, Try.f4.params[j]? = some t → args[j]? = some v → Value.okWide Try.prog W .any base t v := hval0
  have hW' := hW
  obtain ⟨p, q, hA0, hV, rfl, hfz, hnd⟩ := hW
  have hA : DataW.TrodAll enc Try.prog W 0 (fun _ => true) true Try.f4.params.toList args.toList ds p := hA0
  rw [Try.params4] at hA hval
  obtain ⟨v0, vs0, d0, ds0, p0, q0, hargs, rfl, rfl, h0, r0⟩ := trodAll_cons hA
  obtain ⟨v1, vs1, d1, ds1, p1, q1, rfl, rfl, rfl, h1, r1⟩ := trodAll_cons r0
  obtain ⟨v2, vs2, d2, ds2, p2, q2, rfl, rfl, rfl, h2, r2⟩ := trodAll_cons r1
  obtain ⟨v3, vs3, d3, ds3, p3, q3, rfl, rfl, rfl, h3, r3⟩ := trodAll_cons r2
  obtain ⟨v4, vs4, d4, ds4, p4, q4, rfl, rfl, rfl, h4, r4⟩ := trodAll_cons r3
  obtain ⟨v5, vs5, d5, ds5, p5, q5, rfl, rfl, rfl, h5, r5⟩ := trodAll_cons r4
  obtain ⟨rfl, rfl, rfl⟩ := trodAll_nil r5
  obtain rfl : args = #[v0, v1, v2, v3, v4, v5] := by cases args; simp_all
  obtain ⟨rfl, rfl⟩ := trodVars_none hV
  have hlt : ∀ x ∈ p0 ++ p1 ++ p2 ++ p3 ++ p4 ++ p5, x.block < W.heap.size := fun x hx => by simpa using hW'.lt x (by simpa using hx)
  have g0 : ∀ W', Below W.heap.size W W' → DataW.Trod enc Try.prog W' 0 (fun b => decide (b < W.heap.size)) true 30 v0 d0 p0 := fun W' hn => Below.trod laidOut (by kernel_rfl) (of_decide_eq_true (by kernel_rfl)) h0 hn (fun x hx => hlt x (by simp [hx]))
  have g1 : ∀ W', Below W.heap.size W W' → DataW.Trod enc Try.prog W' 0 (fun b => decide (b < W.heap.size)) true 39 v1 d1 p1 := fun W' hn => Below.trod laidOut (by kernel_rfl) (of_decide_eq_true (by kernel_rfl)) h1 hn (fun x hx => hlt x (by simp [hx]))
  have g2 : ∀ W', Below W.heap.size W W' → DataW.Trod enc Try.prog W' 0 (fun b => decide (b < W.heap.size)) true 35 v2 d2 p2 := fun W' hn => Below.trod laidOut (by kernel_rfl) (of_decide_eq_true (by kernel_rfl)) h2 hn (fun x hx => hlt x (by simp [hx]))
  have g3 : ∀ W', Below W.heap.size W W' → DataW.Trod enc Try.prog W' 0 (fun b => decide (b < W.heap.size)) true 41 v3 d3 p3 := fun W' hn => Below.trod laidOut (by kernel_rfl) (of_decide_eq_true (by kernel_rfl)) h3 hn (fun x hx => hlt x (by simp [hx]))
  have g4 : ∀ W', Below W.heap.size W W' → DataW.Trod enc Try.prog W' 0 (fun b => decide (b < W.heap.size)) true 5 v4 d4 p4 := fun W' hn => Below.trod laidOut (by kernel_rfl) (of_decide_eq_true (by kernel_rfl)) h4 hn (fun x hx => hlt x (by simp [hx]))
  have g5 : ∀ W', Below W.heap.size W W' → DataW.Trod enc Try.prog W' 0 (fun b => decide (b < W.heap.size)) true 3 v5 d5 p5 := fun W' hn => Below.trod laidOut (by kernel_rfl) (of_decide_eq_true (by kernel_rfl)) h5 hn (fun x hx => hlt x (by simp [hx]))
  obtain ⟨c0_0, c0_1, c0_2, y0_0, y0_1, y0_2, m0, rfl, rfl, rfl, hy0_0, hy0_1, hy0_2⟩ := open_agg3 Try.underlying30 (by kernel_rfl) cells30 (hval 0 30 v0 rfl rfl) h0
  obtain ⟨a0_0, e0_0, rfl, w0_0⟩ := DataW.trod_int Try.underlying3 hy0_0
  simp at e0_0
  subst e0_0
  obtain ⟨a0_1, e0_1, rfl, w0_1⟩ := DataW.trod_int Try.underlying3 hy0_1
  simp at e0_1
  subst e0_1
  obtain ⟨A0, n0, k0, l0, rfl, r0_0, r0_1, r0_2, r0_3, r0_4⟩ := Go.Proofs.Ytfbnaicnmkkohaa.PenOpen.trod_bytes Try.underlying28 Try.underlying5 (by kernel_rfl) hy0_2
  obtain ⟨b1_0, b1_1, b1_2, b1_3, b1_4, b1_5, b1_6, rfl, f1_0, f1_1, f1_2, f1_3, f1_4, f1_5, f1_6⟩ := Go.Proofs.Ytfbnaicnmkkohaa.PenOpen.open_pen (hval 1 39 v1 rfl rfl) h1
  obtain ⟨c2_0, c2_1, c2_2, c2_3, c2_4, y2_0, y2_1, y2_2, y2_3, y2_4, m2, rfl, rfl, rfl, hy2_0, hy2_1, hy2_2, hy2_3, hy2_4⟩ := open_agg5 Try.underlying35 (by kernel_rfl) cells35 (hval 2 35 v2 rfl rfl) h2
  obtain ⟨a2_0, e2_0, rfl, w2_0⟩ := DataW.trod_int Try.underlying5 hy2_0
  simp at e2_0
  subst e2_0
  obtain ⟨a2_1, e2_1, rfl, w2_1⟩ := DataW.trod_int Try.underlying5 hy2_1
  simp at e2_1
  subst e2_1
  obtain ⟨a2_2, e2_2, rfl, w2_2⟩ := DataW.trod_int Try.underlying5 hy2_2
  simp at e2_2
  subst e2_2
  obtain ⟨a2_3, e2_3, rfl, w2_3⟩ := DataW.trod_int Try.underlying5 hy2_3
  simp at e2_3
  subst e2_3
  obtain ⟨a2_4, e2_4, rfl, w2_4⟩ := DataW.trod_int Try.underlying5 hy2_4
  simp at e2_4
  subst e2_4
  obtain ⟨c3_0, c3_1, c3_2, c3_3, c3_4, c3_5, c3_6, y3_0, y3_1, y3_2, y3_3, y3_4, y3_5, y3_6, m3, rfl, rfl, rfl, hy3_0, hy3_1, hy3_2, hy3_3, hy3_4, hy3_5, hy3_6⟩ := open_agg7 Try.underlying41 (by kernel_rfl) cells41 (hval 3 41 v3 rfl rfl) h3
  obtain ⟨a3_0, e3_0, rfl, w3_0⟩ := DataW.trod_int Try.underlying5 hy3_0
  simp at e3_0
  subst e3_0
  obtain ⟨a3_1, e3_1, rfl, w3_1⟩ := DataW.trod_int Try.underlying5 hy3_1
  simp at e3_1
  subst e3_1
  obtain ⟨a3_2, e3_2, rfl, w3_2⟩ := DataW.trod_int Try.underlying5 hy3_2
  simp at e3_2
  subst e3_2
  obtain ⟨a3_3, e3_3, rfl, w3_3⟩ := DataW.trod_int Try.underlying5 hy3_3
  simp at e3_3
  subst e3_3
  obtain ⟨a3_4, e3_4, rfl, w3_4⟩ := DataW.trod_int Try.underlying5 hy3_4
  simp at e3_4
  subst e3_4
  obtain ⟨a3_5, e3_5, rfl, w3_5⟩ := DataW.trod_int Try.underlying5 hy3_5
  simp at e3_5
  subst e3_5
  obtain ⟨a3_6, e3_6, rfl, w3_6⟩ := DataW.trod_int Try.underlying5 hy3_6
  simp at e3_6
  subst e3_6
  obtain ⟨a4, rfl, rfl, rfl, w4⟩ := open_int Try.underlying5 (hval 4 5 v4 rfl rfl) h4
  obtain ⟨a5, rfl, rfl, rfl, w5⟩ := open_int Try.underlying3 (hval 5 3 v5 rfl rfl) h5
  clear hA0 hval0 hsz0
  refine (Go.Proofs.Ytfbnaicnmkkohaa.WrongAll.walk a0_0 a0_1 A0 n0 k0 l0 b1_0 b1_1 b1_2 b1_3 b1_4 b1_5 b1_6 a2_0 a2_1 a2_2 a2_3 a2_4 a3_0 a3_1 a3_2 a3_3 a3_4 a3_5 a3_6 a4 a5 W r0_0 r0_1 r0_2 r0_3 r0_4 f1_0 f1_1 f1_2 f1_3 f1_4 f1_5 f1_6 w2_0 w2_1 w2_2 w2_3 w2_4 w3_0 w3_1 w3_2 w3_3 w3_4 w3_5 w3_6 w4 w5).mono fun e W' ⟨he, bel⟩ => ?_
  subst he
  exact ⟨_, rfl, _, _, _, [], _, [], hW', trodAll_mk1 (shut_bool Try.underlying4 _), (trodAll_cons_mk (g0 _ bel) (trodAll_cons_mk (g1 _ bel) (trodAll_cons_mk (g2 _ bel) (trodAll_cons_mk (g3 _ bel) (trodAll_cons_mk (g4 _ bel) (trodAll_cons_mk (g5 _ bel) trodAll_mk0)))))), rfl, bel.frame _, fun h => by cases h⟩
theorem over : Rows.frameWrongRow.holds Try.pinned (OpenSpec.ofChange Rows.frameWrongSpec) :=
  OpenClaim.holds_of_wide 4 Try.f4 rfl rfl rfl rfl rfl rfl rfl ⟨rfl, rfl, rfl, rfl, rfl⟩ rfl rfl rfl rfl rfl (by kernel_rfl) Try.func4 (by kernel_rfl)
    (of_decide_eq_true (by kernel_rfl)) (by unfold Func.isWrapper; first | (rw [if_pos (by decide +kernel)]; kernel_rfl) | (rw [if_neg (by decide +kernel)]; exact ⟨rfl, rfl⟩))
    (fun os started H enc _ => lifted os started H enc)
end Go.Proofs.Ytfbnaicnmkkohaa.rowFrameWrong
namespace Go.Proofs.Ytfbnaicnmkkohaa
/-- The row. -/
theorem frameWrong_holds : Rows.FrameWrongSaid := rowFrameWrong.over
end Go.Proofs.Ytfbnaicnmkkohaa
