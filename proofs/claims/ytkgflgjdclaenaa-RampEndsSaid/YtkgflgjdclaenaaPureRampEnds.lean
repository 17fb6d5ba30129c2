/- Nothing changes without ink, and all is ink where it covers; for every three bytes. -/
import Derived.Test.YtkgflgjdclaenaaPRampEndsx2
import Derived.Test.YtkgflgjdclaenaaCore
import Derived.OpenShut
namespace Go.Proofs.Ytkgflgjdclaenaa.Pure
open Go Go.RowKit Go.Proofs.Ytkgflgjdclaenaa.PRampEnds Go.Proofs.YtkgflgjdclaenaaW.PrintWords Go.Proofs.YtkgflgjdclaenaaW.PrintLast Go.Proofs.YtkgflgjdclaenaaW.PrintMore Go.Proofs.Ytkgflgjdclaenaa.Core

namespace RampEnds
theorem blend_f {a b c : Int} (ha : 0 ≤ a) (ha2 : a ≤ 255) (hb : 0 ≤ b) (hb2 : b ≤ 255) (hc : 0 ≤ c) (hc2 : c ≤ 255) : ramp_Blend.f a b c = some (blend a b c) := by
  unfold ramp_Blend.f
  rw [blend_go ha ha2 hb hb2 hc hc2]
  have h := blend_between (m := 0) (M := 255) hc hc2 ha hb ha2 hb2
  congr 1
  omega
theorem awake_f {k : Nat} (hk : 200 ≤ k) : punchcutlaw18_awake.f k = some true := at_rounds (fun k => punchcutlaw18_awake.mono k) hk (by decide +kernel)
end RampEnds
open RampEnds in
theorem RampEnds : punchcutlaw18_RampEnds.Pure := by
  intro a b c wa wb wc
  have ha := bounds_u8 wa
  have hb := bounds_u8 wb
  have hc := bounds_u8 wc
  refine ⟨200, ?_⟩
  unfold punchcutlaw18_RampEnds.f
  rw [awake_f (Nat.le_refl _)]
  simp only [Option.bind_some, if_true]
  rw [blend_f ha.1 ha.2 hb.1 hb.2 (c := 0) (by omega) (by omega), blend_f ha.1 ha.2 hb.1 hb.2 (c := 255) (by omega) (by omega), blend_f ha.1 ha.2 ha.1 ha.2 hc.1 hc.2]
  simp only [Option.bind_some, blend_zero, blend_full, blend_self, if_true]
  simp

end Go.Proofs.Ytkgflgjdclaenaa.Pure
