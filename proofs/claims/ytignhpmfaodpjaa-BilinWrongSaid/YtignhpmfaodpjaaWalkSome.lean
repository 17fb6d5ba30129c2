/- What punchcutlaw17.some answers: a field in new memory, and a place. Conditions: the arguments are of their kinds. -/
import Derived.Test.YtignhpmfaodpjaaWalkField
import Derived.Deep.RegionHeld3
import Derived.Deep.DrawnRows
namespace Go.Proofs.Ytignhpmfaodpjaa.WalkSome
open Go Go.RowKit Go.Proofs.YtignhpmfaodpjaaW.PrintWords Go.Proofs.YtignhpmfaodpjaaW.PrintLast Go.Proofs.YtignhpmfaodpjaaW.PrintMore Go.Proofs.Ytignhpmfaodpjaa.Core Go.Proofs.Ytignhpmfaodpjaa.PBilinFlat Go.Proofs.Ytignhpmfaodpjaa.WalkField
set_option linter.unusedVariables false
set_option linter.unusedSimpArgs false
attribute [local go_sem ↓] Go.wp_at_zero Go.wp_at_succ
theorem bcell {W w1 : World} (hb : Below W.heap.size W w1) : (∀ b o, b < W.heap.size → w1.cell? ⟨b, o, none⟩ = W.cell? ⟨b, o, none⟩) ∧ (∀ b o, b < W.heap.size → w1.frozen? ⟨b, o, none⟩ = W.frozen? ⟨b, o, none⟩) :=
  ⟨fun b o h => hb.cell (p := ⟨b, o, none⟩) h, fun b o h => hb.frozen (p := ⟨b, o, none⟩) h⟩
def SomeMade (w : World) (W H m n d : Int) (l : List Int) (e : Ending) (w' : World) : Prop :=
  ∃ (g cap : Nat), e = .returned (.tuple #[.agg #[.int .i64 W, .int .i64 H, .slice (some ⟨g, 0, none⟩) l.length cap], .int .i64 m, .int .i64 n, .int .i64 d]) ∧
    w'.ownsRow w.heap.size 5 1 (.slice (some ⟨g, 0, none⟩) l.length cap) l.length (l.map (Value.int .u8)) ∧ Below w.heap.size w w'
set_option maxHeartbeats 1000000 in
theorem made (op key aw ah ink x y den W H m n : Int) (l : List Int) (w : World) (h1 : 0 ≤ aw) (h2 : aw ≤ 255) (h3 : 0 ≤ ah) (h4 : ah ≤ 255) (h5 : 0 ≤ den) (h6 : den ≤ 255)
    (e1 : IntKind.i64.wrap (20 * (1 + den)) = 20 * (1 + den)) (e2 : ¬ 20 * (1 + den) = 0) (e3 : Int.tmod x (20 * (1 + den)) = m) (e4 : Int.tmod y (20 * (1 + den)) = n) (e5 : IntKind.i64.wrap x = x) (e6 : IntKind.i64.wrap y = y)
    (HF : Hid (∀ w, Calls Try.prog 17 #[.agg #[.int .u8 op, .int .u8 key, .int .u8 (1 + aw % 12), .int .u8 (1 + ah % 12), .int .u8 ink]] w (Made w W H l))) :
    Calls Try.prog 11 #[.agg #[.int .u8 op, .int .u8 key, .int .u8 aw, .int .u8 ah, .int .u8 ink], .int .i16 x, .int .i16 y, .int .u8 den] w (SomeMade w W H m n (1 + den) l) := by
  go_enter Try.func11, Try.ntmps11
  go_wp2
  go_region_held3 (fun w' => w'.cell? ⟨w.heap.size, 0, none⟩ = some (.int .u8 op) ∧ w'.cell? ⟨w.heap.size, 1, none⟩ = some (.int .u8 key) ∧ w'.cell? ⟨w.heap.size, 2, none⟩ = some (.int .u8 (1 + aw % 12)) ∧ w'.cell? ⟨w.heap.size, 3, none⟩ = some (.int .u8 (1 + ah % 12)) ∧ w'.cell? ⟨w.heap.size, 4, none⟩ = some (.int .u8 ink)) (first | go_keep | (go_split_ands; (refine ⟨?_, ?_, ?_, ?_, ?_⟩ <;> (refine cell_later hb1 ?_; assumption))) | (go_split_ands; (refine ⟨?_, ?_, ?_, ?_, ?_⟩ <;> (refine cell_later hb1 ?_; go_simp; done))))
    (first | (go_at_call 17; refine (HF.out _).mono ?_; rintro e w1 ⟨g, cap, rfl, ho1, hb1⟩; obtain ⟨hc1, hf1⟩ := bcell hb1; have hz1 := hb1.size; (try simp [Nat.add_one_le_iff] at hz1)))
  go_wp2_with fail
  have hb2 : Below w.heap.size w w1 := below_step (below_drew1 (below_alloc (below_alloc (Below.refl _ _) _) _)) hb1
  have hz0 : w.heap.size + 1 + 1 ≤ w1.heap.size := by omega
  have ho2 : w1.ownsRow (w.heap.size + 1 + 1) 5 1 (.slice (some ⟨g, 0, none⟩) l.length cap) l.length (l.map (Value.int .u8)) := own_less ho1 (by simp)
  refine bodyPost_ret (v := .tuple #[.agg #[.int .i64 W, .int .i64 H, .slice (some ⟨g, 0, none⟩) l.length cap], .int .i64 m, .int .i64 n, .int .i64 (1 + den)]) (by simp [results, Try.results11, go_sem, hc1, hz1]) rfl ⟨g, cap, rfl, ?_, below_set (below_set (below_set hb2 (by omega)) (by omega)) (by omega)⟩
  exact own_less (ownsRow_setCell_below (ownsRow_setCell_below (ownsRow_setCell_below ho2 (a := ⟨w.heap.size + 1, 0, none⟩) (by show w.heap.size + 1 < _; omega) _) (a := ⟨w.heap.size + 1, 1, none⟩) (by show w.heap.size + 1 < _; omega) _) (a := ⟨w.heap.size + 1, 2, none⟩) (by show w.heap.size + 1 < _; omega) _) (by omega)
theorem some_calls (op key aw ah ink x y den : Int) (w : World) (h1 : 0 ≤ aw) (h2 : aw ≤ 255) (h3 : 0 ≤ ah) (h4 : ah ≤ 255) (h5 : 0 ≤ den) (h6 : den ≤ 255) (hx : -32768 ≤ x) (hx2 : x ≤ 32767) (hy : -32768 ≤ y) (hy2 : y ≤ 32767) :
    Calls Try.prog 11 #[.agg #[.int .u8 op, .int .u8 key, .int .u8 aw, .int .u8 ah, .int .u8 ink], .int .i16 x, .int .i16 y, .int .u8 den] w
      (SomeMade w (1 + aw % 12) (1 + ah % 12) (Int.tmod x (20 * (1 + den))) (Int.tmod y (20 * (1 + den))) (1 + den) (texels ink ((1 + aw % 12) * (1 + ah % 12)).toNat)) := by
  refine made op key aw ah ink x y den (1 + aw % 12) (1 + ah % 12) _ _ _ w h1 h2 h3 h4 h5 h6 (by rw [IntKind.wrap_i64]; omega) (by omega) rfl rfl (by rw [IntKind.wrap_i64]; omega) (by rw [IntKind.wrap_i64]; omega) ?_
  exact fun w => field op key (1 + aw % 12) (1 + ah % 12) ink w (by omega) (by omega) (by omega) (by omega) (1 + aw % 12) (1 + ah % 12) (by omega) (by omega) (by omega) (by omega) (by omega) (by omega)
end Go.Proofs.Ytignhpmfaodpjaa.WalkSome
