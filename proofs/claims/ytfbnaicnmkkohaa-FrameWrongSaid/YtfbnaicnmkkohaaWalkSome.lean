/- What punchcutlaw19.some answers: a field in new memory. Conditions: the act's parts are bytes. -/
import Derived.Test.YtfbnaicnmkkohaaWalkField
import Derived.Deep.RegionHeld3
import Derived.Deep.DrawnRows
namespace Go.Proofs.Ytfbnaicnmkkohaa.WalkSome
open Go Go.RowKit Go.Proofs.YtfbnaicnmkkohaaW.PrintWords Go.Proofs.YtfbnaicnmkkohaaW.PrintLast Go.Proofs.YtfbnaicnmkkohaaW.PrintMore Go.Proofs.Ytfbnaicnmkkohaa.Core Go.Proofs.Ytfbnaicnmkkohaa.PFramePlace Go.Proofs.Ytfbnaicnmkkohaa.WalkField
set_option linter.unusedVariables false
set_option linter.unusedSimpArgs false
attribute [local go_sem ↓] Go.wp_at_zero Go.wp_at_succ
theorem bcell {W w1 : World} (hb : Below W.heap.size W w1) : (∀ b o, b < W.heap.size → w1.cell? ⟨b, o, none⟩ = W.cell? ⟨b, o, none⟩) ∧ (∀ b o, b < W.heap.size → w1.frozen? ⟨b, o, none⟩ = W.frozen? ⟨b, o, none⟩) :=
  ⟨fun b o h => hb.cell (p := ⟨b, o, none⟩) h, fun b o h => hb.frozen (p := ⟨b, o, none⟩) h⟩
set_option maxHeartbeats 1000000 in
theorem made (op key aw ah ink W H : Int) (l : List Int) (w : World) (h1 : 0 ≤ aw) (h2 : aw ≤ 255) (h3 : 0 ≤ ah) (h4 : ah ≤ 255)
    (HF : Hid (∀ w, Calls Try.prog 25 #[.agg #[.int .u8 op, .int .u8 key, .int .u8 (1 + aw % 12), .int .u8 (1 + ah % 12), .int .u8 ink]] w (Made w W H l))) :
    Calls Try.prog 13 #[.agg #[.int .u8 op, .int .u8 key, .int .u8 aw, .int .u8 ah, .int .u8 ink]] w (Made w W H l) := by
  go_enter Try.func13, Try.ntmps13
  go_wp2_with (go_at_call 25; refine (HF.out _).mono ?_; rintro e w1 ⟨g, cap, rfl, ho1, hb1⟩; obtain ⟨hc1, hf1⟩ := bcell hb1; have hz1 := hb1.size; (try simp [Nat.add_one_le_iff] at hz1))
  have hb2 : Below w.heap.size w w1 := below_step (below_alloc (below_alloc (Below.refl _ _) _) _) hb1
  have ho2 : w1.ownsRow (w.heap.size + 1 + 1) 5 1 (.slice (some ⟨g, 0, none⟩) l.length cap) l.length (l.map (Value.int .u8)) := own_less ho1 (by simp)
  refine bodyPost_ret (v := .agg #[.int .i64 W, .int .i64 H, .slice (some ⟨g, 0, none⟩) l.length cap]) (by simp [results, Try.results13, go_sem, hc1, hz1]) rfl ⟨g, cap, rfl, ?_, below_set (below_set (below_set hb2 (by omega)) (by omega)) (by omega)⟩
  exact own_less (ownsRow_setCell_below (ownsRow_setCell_below (ownsRow_setCell_below ho2 (a := ⟨w.heap.size + 1, 0, none⟩) (by show w.heap.size + 1 < _; omega) _) (a := ⟨w.heap.size + 1, 1, none⟩) (by show w.heap.size + 1 < _; omega) _) (a := ⟨w.heap.size + 1, 2, none⟩) (by show w.heap.size + 1 < _; omega) _) (by omega)
theorem some_calls (op key aw ah ink : Int) (w : World) (h1 : 0 ≤ aw) (h2 : aw ≤ 255) (h3 : 0 ≤ ah) (h4 : ah ≤ 255) :
    Calls Try.prog 13 #[.agg #[.int .u8 op, .int .u8 key, .int .u8 aw, .int .u8 ah, .int .u8 ink]] w (Made w (1 + aw % 12) (1 + ah % 12) (texels ink ((1 + aw % 12) * (1 + ah % 12)).toNat)) := by
  refine made op key aw ah ink (1 + aw % 12) (1 + ah % 12) _ w h1 h2 h3 h4 ?_
  exact fun w => field op key (1 + aw % 12) (1 + ah % 12) ink w (by omega) (by omega) (by omega) (by omega) (1 + aw % 12) (1 + ah % 12) (by omega) (by omega) (by omega) (by omega) (by omega) (by omega)
end Go.Proofs.Ytfbnaicnmkkohaa.WalkSome
