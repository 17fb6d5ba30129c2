/- FrameDraw: what is drawn is what the document says, pixel by pixel. Conditions: the rows read as acts and tips. -/
import Derived.Test.YtfbnaicnmkkohaaWalkDraw
import Derived.Test.YtfbnaicnmkkohaaActs
namespace Go.Proofs.Ytfbnaicnmkkohaa.DrawAll
open Go Go.RowKit Go.Lib Go.Proofs.YtfbnaicnmkkohaaW.PrintWords Go.Proofs.YtfbnaicnmkkohaaW.PrintMore Go.Proofs.Ytfbnaicnmkkohaa.Core Go.Proofs.Ytfbnaicnmkkohaa.WalkDraw
theorem walk (wi hi : Int) (A1 : Option Addr) (n1 c1 : Nat) (A2 : Option Addr) (n2 c2 : Nat) (w : World) (v0 : (Lit.int .i8 wi).wf = true) (v1 : (Lit.int .i8 hi).wf = true) (h1 : n1 ≤ c1) (m1 : c1 ≤ maxLen) (HA : ∀ i, i < n1 → ActAt w A1 i) (h2 : n2 ≤ c2) (m2 : c2 ≤ maxLen) (HT : ∀ i, i < n2 → TipAt w A2 i) :
    Calls Try.prog 3 #[.int .i8 wi, .int .i8 hi, .slice A1 n1 c1, .slice A2 n2 c2] w fun e w' => e = .returned (.bool true) ∧ Below w.heap.size w w' := by
  have b0 := bounds_i8 v0
  have b1 := bounds_i8 v1
  unfold maxLen at m1 m2
  have cl : ∀ x : Int, -128 ≤ x → x ≤ 127 → ∃ W : Nat, mx 1 (mn x 96) = W ∧ 1 ≤ W ∧ W ≤ 96 := fun x h1 h2 => ⟨(mx 1 (mn x 96)).toNat, by unfold mx mn; split <;> split <;> omega, by unfold mx mn; split <;> split <;> omega, by unfold mx mn; split <;> split <;> omega⟩
  obtain ⟨W, hW, hW1, hW2⟩ := cl wi (by omega) (by omega)
  obtain ⟨H, hH, hH1, hH2⟩ := cl hi (by omega) (by omega)
  exact WalkDraw.walk wi hi A1 A2 n1 c1 n2 c2 W H w (by omega) (by omega) (by omega) (by omega) hW hH hW1 hW2 hH1 hH2 h1 h2 (by omega) (by omega) (hid HA) (hid HT)
end Go.Proofs.Ytfbnaicnmkkohaa.DrawAll
