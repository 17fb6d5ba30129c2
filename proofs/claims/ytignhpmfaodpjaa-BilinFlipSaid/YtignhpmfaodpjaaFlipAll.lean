/- BilinFlip: a field that is turned round at its middle has the same, turned round. Conditions: none. -/
import Derived.Test.YtignhpmfaodpjaaWalkFlip
import Derived.Test.YtignhpmfaodpjaaTurned
namespace Go.Proofs.Ytignhpmfaodpjaa.FlipAll
open Go Go.RowKit Go.Lib Go.Proofs.YtignhpmfaodpjaaW.PrintWords Go.Proofs.YtignhpmfaodpjaaW.PrintLast Go.Proofs.YtignhpmfaodpjaaW.PrintMore Go.Proofs.Ytignhpmfaodpjaa.Core Go.Proofs.Ytignhpmfaodpjaa.PBilinFlat Go.Proofs.Ytignhpmfaodpjaa.WalkField Go.Proofs.Ytignhpmfaodpjaa.WalkSome Go.Proofs.Ytignhpmfaodpjaa.Glue Go.Proofs.Ytignhpmfaodpjaa.Base Go.Proofs.Ytignhpmfaodpjaa.Turned
set_option linter.unusedVariables false
theorem same_calls {W H : Int} {l : List Int} (w : World) (A : Option Addr) (cap : Nat) (hr : Kd.C (Kd.int .u8) w A l.length l) (hc : l.length ≤ cap) :
    Calls Try.prog 15 #[.agg #[.int .i64 W, .int .i64 H, .slice A l.length cap], .agg #[.int .i64 W, .int .i64 H, .slice A l.length cap]] w (Ret (.bool true) w) :=
  WalkSame.punchcutlaw10_Same.calls W H A cap l W H A cap l true w hr hc hr hc (by unfold WalkSame.punchcutlaw10_Same.f; rw [if_pos rfl, if_pos rfl, beq_self_eq_true])
theorem walk (op key aw ah ink x y t : Int) (w : World) (w0 : (Lit.int .u8 op).wf = true) (w1 : (Lit.int .u8 key).wf = true) (w2 : (Lit.int .u8 aw).wf = true) (w3 : (Lit.int .u8 ah).wf = true) (w4 : (Lit.int .u8 ink).wf = true)
    (w5 : (Lit.int .i16 x).wf = true) (w6 : (Lit.int .i16 y).wf = true) (w7 : (Lit.int .u8 t).wf = true) :
    Calls Try.prog 7 #[.agg #[.int .u8 op, .int .u8 key, .int .u8 aw, .int .u8 ah, .int .u8 ink], .int .i16 x, .int .i16 y, .int .u8 t] w fun e w' => e = .returned (.bool true) ∧ Below w.heap.size w w' := by
  have hw := bounds_u8 w2
  have hh := bounds_u8 w3
  have hx := bounds_i16 w5
  have hy := bounds_i16 w6
  have ht := bounds_u8 w7
  have hS := fun w => some_calls op key aw ah ink x y t w hw.1 hw.2 hh.1 hh.2 ht.1 ht.2 hx.1 hx.2 hy.1 hy.2
  have hW : 1 ≤ 1 + aw % 12 ∧ 1 + aw % 12 ≤ 12 := by omega
  have hH : 1 ≤ 1 + ah % 12 ∧ 1 + ah % 12 ≤ 12 := by omega
  generalize 1 + aw % 12 = W at *
  generalize 1 + ah % 12 = H at *
  have ha := area_bd hW.1 hW.2 hH.1 hH.2
  have hm := tmod_bd (x := x) (d := 20 * (1 + t)) (by omega)
  have hn := tmod_bd (x := y) (d := 20 * (1 + t)) (by omega)
  generalize Int.tmod x (20 * (1 + t)) = m at *
  generalize Int.tmod y (20 * (1 + t)) = n at *
  have hlen : ((texels ink (W * H).toNat).length : Int) = W * H := by rw [texels_length]; omega
  have hl := texels_bd ink (W * H).toNat
  generalize texels ink (W * H).toNat = l at *
  have b1 : 0 ≤ W * (1 + t) := Int.mul_nonneg (by omega) (by omega)
  have b2 : W * (1 + t) ≤ 12 * 256 := Int.mul_le_mul hW.2 (by omega) (by omega) (by omega)
  have b3 : 0 ≤ H * (1 + t) := Int.mul_nonneg (by omega) (by omega)
  have b4 : H * (1 + t) ≤ 12 * 256 := Int.mul_le_mul hH.2 (by omega) (by omega) (by omega)
  have hA := at_calls (x := m) (y := n) (d := 1 + t) hW.1 (by omega) hH.1 (by omega) hlen hl (by omega) (by omega) (by omega) (by omega) (by omega) (by omega) rfl rfl
  have hlr : (l.reverse.length : Int) = W * H := by rw [List.length_reverse]; exact hlen
  have hv := val_turn (x := m) (y := n) (d := 1 + t) (by omega) hW.1 (by omega) hH.1 (by omega) hlen
  have hA2 := at_calls (x := W * (1 + t) - m) (y := H * (1 + t) - n) (d := 1 + t) hW.1 (by omega) hH.1 (by omega) hlr (fun z hz => hl z (List.mem_reverse.mp hz)) (by omega) (by omega) (by omega) (by omega) (by omega) (by omega) rfl rfl
  rw [hv] at hA2
  simp only [List.length_reverse] at hA2
  exact WalkFlip.flip op key aw ah ink x y t W H m n (1 + t) (W * (1 + t) - m) (H * (1 + t) - n) _ _ l w (by omega) (by omega) (W * (1 + t)) (H * (1 + t)) (by rw [IntKind.wrap_i64]; omega) (by rw [IntKind.wrap_i64]; omega) (by rw [IntKind.wrap_i64]; omega) (by rw [IntKind.wrap_i64]; omega) (hid hA) (hid hA2) (hid same_calls) (hid hS)
end Go.Proofs.Ytignhpmfaodpjaa.FlipAll
