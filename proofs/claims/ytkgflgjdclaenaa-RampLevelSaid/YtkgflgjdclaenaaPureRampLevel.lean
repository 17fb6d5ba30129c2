/- Ink over ink goes no farther than the ink; for every four bytes. -/
import Derived.Test.YtkgflgjdclaenaaPRampLevelx2
import Derived.Test.YtkgflgjdclaenaaCore
import Derived.OpenShut
namespace Go.Proofs.Ytkgflgjdclaenaa.Pure
open Go Go.RowKit Go.Proofs.Ytkgflgjdclaenaa.PRampLevel Go.Proofs.YtkgflgjdclaenaaW.PrintWords Go.Proofs.YtkgflgjdclaenaaW.PrintLast Go.Proofs.YtkgflgjdclaenaaW.PrintMore Go.Proofs.Ytkgflgjdclaenaa.Core

namespace RampLevel
theorem blend_f {a b c : Int} (ha : 0 ≤ a) (ha2 : a ≤ 255) (hb : 0 ≤ b) (hb2 : b ≤ 255) (hc : 0 ≤ c) (hc2 : c ≤ 255) : ramp_Blend.f a b c = some (blend a b c) := by
  unfold ramp_Blend.f
  rw [blend_go ha ha2 hb hb2 hc hc2]
  have h := blend_between (m := 0) (M := 255) hc hc2 ha hb ha2 hb2
  congr 1
  omega
theorem awake_f {k : Nat} (hk : 200 ≤ k) : punchcutlaw18_awake.f k = some true := at_rounds (fun k => punchcutlaw18_awake.mono k) hk (by decide +kernel)
end RampLevel
open RampLevel in
theorem RampLevel : punchcutlaw18_RampLevel.Pure := by
  intro a b c d wa wb wc wd
  have ha := bounds_u8 wa
  have hb := bounds_u8 wb
  have hc := bounds_u8 wc
  have hd := bounds_u8 wd
  refine ⟨200, ?_⟩
  unfold punchcutlaw18_RampLevel.f
  rw [awake_f (Nat.le_refl _)]
  simp only [Option.bind_some, if_true]
  have h0 := blend_between (m := 0) (M := 255) hc.1 hc.2 ha.1 hb.1 ha.2 hb.2
  have h1 := blend_between (m := mn a b) (M := mx a b) hc.1 hc.2 (mn_le_left _ _) (mn_le_right _ _) (le_mx_left _ _) (le_mx_right _ _)
  rw [blend_f ha.1 ha.2 hb.1 hb.2 hc.1 hc.2]
  simp only [Option.bind_some]
  rw [blend_f h0.1 h0.2 hb.1 hb.2 hd.1 hd.2]
  simp only [Option.bind_some]
  generalize blend a b c = x at *
  have h2 := blend_between (m := mn x b) (M := mx x b) hd.1 hd.2 (mn_le_left _ _) (mn_le_right _ _) (le_mx_left _ _) (le_mx_right _ _)
  have h3 : mn a b ≤ blend x b d := Int.le_trans (le_mn h1.1 (mn_le_right _ _)) h2.1
  have h4 : blend x b d ≤ mx a b := Int.le_trans h2.2 (mx_le h1.2 (le_mx_right _ _))
  rw [if_pos h2.1, if_pos h2.2, if_pos h3, decide_eq_true h4]

end Go.Proofs.Ytkgflgjdclaenaa.Pure
