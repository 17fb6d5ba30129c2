/- What (punchcutlaw16.Act).Field answers: a field of so many texels, each by its number, in new memory. Conditions: the act's parts are bytes. -/
import Derived.Test.YtfbnaicnmkkohaaPFramePlacex4
import Derived.Test.YtfbnaicnmkkohaaCore
import Derived.Lib.Hide
import Derived.WalkSpells
import Derived.OpenShut
import Derived.Deep.AppendLies
namespace Go.Proofs.Ytfbnaicnmkkohaa.WalkField
open Go Go.RowKit Go.Proofs.YtfbnaicnmkkohaaW.PrintWords Go.Proofs.YtfbnaicnmkkohaaW.PrintLast Go.Proofs.YtfbnaicnmkkohaaW.PrintMore Go.Proofs.Ytfbnaicnmkkohaa.Core Go.Proofs.Ytfbnaicnmkkohaa.PFramePlace
set_option linter.unusedVariables false
set_option linter.unusedSimpArgs false
theorem byte_info : (Try.prog.info? 5).map (fun i => (i.zero, i.size, i.bytes)) = some (some (.int .u8 0), 1, 1) := by kernel_rfl
/-- texel k of an act's field -/
def tx (ink : Int) (k : Nat) : Int := Go.bits .or .u8 ((ink + (k : Int)) % 256) 1
def texels (ink : Int) (n : Nat) : List Int := (List.range n).map (tx ink)
theorem texels_snoc (ink : Int) (n : Nat) : texels ink (n + 1) = texels ink n ++ [tx ink n] := by unfold texels; rw [List.range_succ, List.map_append]; rfl
theorem texels_length (ink : Int) (n : Nat) : (texels ink n).length = n := by simp [texels]
def Inv (w : World) (op key aw ah ink W H : Int) (s4 : Value) (wr : World) : Prop :=
  ∃ (k : Nat) (v : Value), s4 = .int .i64 k ∧ (k : Int) ≤ W * H ∧ wr.heap[w.heap.size]? = some (.cells #[.int .u8 op, .int .u8 key, .int .u8 aw, .int .u8 ah, .int .u8 ink] 35 (0, 0)) ∧
    wr.heap[w.heap.size + 1]? = some (.cells #[.int .i64 0, .int .i64 0, .slice none 0 0] 30 (0, 0)) ∧ wr.heap[w.heap.size + 1 + 1]? = some (.cells #[.int .i64 W, .int .i64 H, v] 30 (0, 0)) ∧
    wr.ownsRow (w.heap.size + 1 + 1 + 1) 5 1 v k ((texels ink k).map (Value.int .u8)) ∧ Below w.heap.size w wr
theorem own_apart {w : World} {b : Nat} {e : TypeId} {size n : Nat} {v : Value} {xs : List Value} (h : w.ownsRow (b + 1) e size v n xs) : some b ≠ v.ownBlock := by
  rcases h.2 with ⟨rfl, _⟩ | ⟨g, cap, cur, rfl, hg, _⟩
  · simp [Value.ownBlock]
  · simp [Value.ownBlock]; omega
theorem own_apart2 {w : World} {b c : Nat} {e : TypeId} {size n : Nat} {v : Value} {xs : List Value} (h : w.ownsRow b e size v n xs) (hc : c < b) : some c ≠ v.ownBlock := by
  rcases h.2 with ⟨rfl, _⟩ | ⟨g, cap, cur, rfl, hg, _⟩
  · simp [Value.ownBlock]
  · simp [Value.ownBlock]; omega
/-- what a round leaves -/
theorem Inv.next {w wr w1 : World} {op key aw ah ink W H : Int} {k g cap : Nat} {v : Value} (hk : (k : Int) < W * H) (hA : wr.heap[w.heap.size]? = some (.cells #[.int .u8 op, .int .u8 key, .int .u8 aw, .int .u8 ah, .int .u8 ink] 35 (0, 0)))
    (hR : wr.heap[w.heap.size + 1]? = some (.cells #[.int .i64 0, .int .i64 0, .slice none 0 0] 30 (0, 0))) (hF : w1.heap[w.heap.size + 1 + 1]? = some (.cells #[.int .i64 W, .int .i64 H, v] 30 (0, 0)))
    (hown : wr.ownsRow (w.heap.size + 1 + 1 + 1) 5 1 v k ((texels ink k).map (Value.int .u8))) (hbel : Below w.heap.size w wr) (o : Obj) (hgrow : (wr.alloc o).grownBy w1 v.ownBlock)
    (hown1 : w1.ownsRow (w.heap.size + 1 + 1 + 1) 5 1 (.slice (some ⟨g, 0, none⟩) (k + 1) cap) (k + 1) ((texels ink k).map (Value.int .u8) ++ [.int .u8 (tx ink k)])) :
    Inv w op key aw ah ink W H (.int .i64 ((k : Int) + 1)) (w1.setCell ⟨w.heap.size + 1 + 1, 2, none⟩ (.slice (some ⟨g, 0, none⟩) (k + 1) cap)) := by
  refine ⟨k + 1, .slice (some ⟨g, 0, none⟩) (k + 1) cap, by congr 1, by omega, ?_, ?_, blk_put hF 2 _ rfl, ?_, ?_⟩
  · exact blk_far (blk_grown (blk_alloc hA _) hgrow (own_apart2 hown (by omega))) (by simp; omega) _
  · exact blk_far (blk_grown (blk_alloc hR _) hgrow (own_apart2 hown (by omega))) (by simp) _
  · have := ownsRow_setCell_below hown1 (a := ⟨w.heap.size + 1 + 1, 2, none⟩) (by show w.heap.size + 1 + 1 < _; omega) (.slice (some ⟨g, 0, none⟩) (k + 1) cap)
    rw [texels_snoc, List.map_append]
    exact this
  · refine below_set ?_ (by omega)
    refine (below_alloc hbel o).grown hgrow (below_alloc hbel o).size fun b hb => ?_
    rcases hown.2 with ⟨rfl, _⟩ | ⟨g', cap', cur', rfl, hg', _⟩
    · simp [Value.ownBlock] at hb
    · simp [Value.ownBlock] at hb; omega
/-- a field in new memory -/
def Made (w : World) (W H : Int) (l : List Int) (e : Ending) (w' : World) : Prop :=
  ∃ (g cap : Nat), e = .returned (.agg #[.int .i64 W, .int .i64 H, .slice (some ⟨g, 0, none⟩) l.length cap]) ∧ w'.ownsRow w.heap.size 5 1 (.slice (some ⟨g, 0, none⟩) l.length cap) l.length (l.map (Value.int .u8)) ∧ Below w.heap.size w w'
set_option maxHeartbeats 1000000 in
theorem field (op key aw ah ink : Int) (w : World) (h1 : 0 ≤ aw) (h2 : aw ≤ 255) (h3 : 0 ≤ ah) (h4 : ah ≤ 255) (W H : Int) (hW0 : 1 ≤ W) (hW1 : W ≤ 13) (hH0 : 1 ≤ H) (hH1 : H ≤ 13) (hW : aw % 14 = W) (hH : ah % 14 = H) :
    Calls Try.prog 25 #[.agg #[.int .u8 op, .int .u8 key, .int .u8 aw, .int .u8 ah, .int .u8 ink]] w (Made w W H (texels ink (W * H).toNat)) := by
  subst hW hH
  obtain ⟨i0, hi, hz0, hz1, hz2⟩ := info_parts byte_info
  have hWH : aw % 14 * (ah % 14) ≤ 13 * 13 := Int.mul_le_mul hW1 hH1 (by omega) (by omega)
  have hWH0 : 0 < aw % 14 * (ah % 14) := Int.mul_pos (by omega) (by omega)
  go_enter Try.func25, Try.ntmps25
  go_wp2
  go_loopw [4] (Inv w op key aw ah ink (aw % 14) (ah % 14)) (fun i _ => (aw % 14 * (ah % 14)).toNat - (intOf i).toNat)
  case atStart =>
    refine ⟨0, .slice none 0 0, rfl, by omega, blk_alloc (blk_alloc (blk_new _ _) _) _, blk_alloc ?_ _, ?_, ⟨rfl, .inl ⟨rfl, rfl⟩⟩, below_alloc (below_alloc (below_alloc (Below.refl _ _) _) _) _⟩
    · have := blk_new (w.alloc (.cells #[.int .u8 op, .int .u8 key, .int .u8 aw, .int .u8 ah, .int .u8 ink] 35)) (.cells #[.int .i64 0, .int .i64 0, .slice none 0 0] 30)
      rw [World.size_alloc] at this; exact this
    · have := blk_new ((w.alloc (.cells #[.int .u8 op, .int .u8 key, .int .u8 aw, .int .u8 ah, .int .u8 ink] 35)).alloc (.cells #[.int .i64 0, .int .i64 0, .slice none 0 0] 30)) (.cells #[.int .i64 (aw % 14), .int .i64 (ah % 14), .slice none 0 0] 30)
      rw [World.size_alloc, World.size_alloc] at this; exact this
  case round =>
    obtain ⟨k, v, rfl, hk, hA, hR, hF, hown, hbel⟩ := hrel
    have hA4 : wr.cell? ⟨w.heap.size, 4, none⟩ = some (.int .u8 ink) := blk_cell hA 4
    have hF0 : wr.cell? ⟨w.heap.size + 1 + 1, 0, none⟩ = some (.int .i64 (aw % 14)) := blk_cell hF 0
    have hF1 : wr.cell? ⟨w.heap.size + 1 + 1, 1, none⟩ = some (.int .i64 (ah % 14)) := blk_cell hF 1
    have hF2 : wr.cell? ⟨w.heap.size + 1 + 1, 2, none⟩ = some v := blk_cell hF 2
    have hFf := blk_frozen hF 2
    have hsz := blk_lt hF
    by_cases hlt : (k : Int) < aw % 14 * (ah % 14)
    · have HA := Lib.hid hA
      have HR := Lib.hid hR
      have HF := Lib.hid hF
      clear hA hR hF
      go_wp2_with (at_builtin; go_loud (refine wpList_append_lies _ (by rfl) _ _ 28 (by rfl) (w.heap.size + 1 + 1 + 1) 5 i0 (.int .u8 0) 1 1 Try.underlying28 hi hz0 hz1 hz2 rfl (by omega) v k _ (by rfl) (hown.alloc _) ⟨wr.heap.size, 0, none⟩ 1 1 [.int .u8 (bits BinOp.or IntKind.u8 ((ink + (k : Int)) % 256) 1)] (by rfl) (by rfl) (cell_one_new _ _ _) (by simp [Value.oneCell']) (by omega) (by unfold maxLen; omega) (by omega) (by simp; omega) (wr.heap.size + 1) (by simp) ?_); intro g cap w1 hown1 hgrow hat hlt1; have hF1' := blk_grown (blk_alloc HF.out (.cells #[.int .u8 (bits BinOp.or IntKind.u8 ((ink + (k : Int)) % 256) 1)] 5)) hgrow (own_apart hown); have hc2 := blk_cell hF1' 2; have hfz2 := blk_frozen hF1' 2; have HF1 := Lib.hid hF1'; clear hF1'; simp at hc2)
      refine ⟨?_, by simp [intOf]; omega⟩
      have hn := Inv.next hlt HA.out HR.out HF1.out hown hbel _ hgrow hown1
      exact hn
    · obtain rfl : k = (aw % 14 * (ah % 14)).toNat := by omega
      obtain ⟨g, cap, rfl, hg, hgl⟩ := hown.form (by omega)
      have hR0 := blk_cell hR 0
      have hR1 := blk_cell hR 1
      have hR2 := blk_cell hR 2
      have hRf0 := blk_frozen hR 0
      have hRf1 := blk_frozen hR 1
      have hRf2 := blk_frozen hR 2
      simp at hR0 hR1 hR2
      have HA := Lib.hid hA
      have HR := Lib.hid hR
      have HF := Lib.hid hF
      clear hA hR hF
      go_wp2
      have ho := own_less (base := w.heap.size) hown (by omega)
      have ho1 := ownsRow_setCell_below hown (a := ⟨w.heap.size + 1, 0, none⟩) (by show w.heap.size + 1 < _; omega) (.int .i64 (aw % 14))
      have ho2 := ownsRow_setCell_below ho1 (a := ⟨w.heap.size + 1, 1, none⟩) (by show w.heap.size + 1 < _; omega) (.int .i64 (ah % 14))
      have ho3 := own_less (base := w.heap.size) (ownsRow_setCell_below ho2 (a := ⟨w.heap.size + 1, 2, none⟩) (by show w.heap.size + 1 < _; omega) (.slice (some ⟨g, 0, none⟩) (aw % 14 * (ah % 14)).toNat cap)) (by omega)
      refine bodyPost_ret (v := .agg #[.int .i64 (aw % 14), .int .i64 (ah % 14), .slice (some ⟨g, 0, none⟩) (aw % 14 * (ah % 14)).toNat cap]) (by simp [results, Try.results25, go_sem, hR0, hR1, hR2]) rfl ⟨g, cap, ?_, ?_, ?_⟩
      · rw [texels_length]
      · rw [texels_length]; exact ho3
      · exact below_set (below_set (below_set hbel (by omega)) (by omega)) (by omega)
end Go.Proofs.Ytfbnaicnmkkohaa.WalkField
