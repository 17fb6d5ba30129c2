/- FrameOne's walk: at a ratio of one each pixel has its own texel. Conditions: as each states. -/
import Derived.Test.YtfbnaicnmkkohaaAwake
import Derived.Test.YtfbnaicnmkkohaaWalkSome
import Derived.Test.YtfbnaicnmkkohaaOneLaw
namespace Go.Proofs.Ytfbnaicnmkkohaa.WalkOne
open Go Go.RowKit Go.Lib Go.Proofs.YtfbnaicnmkkohaaW.PrintWords Go.Proofs.YtfbnaicnmkkohaaW.PrintLast Go.Proofs.YtfbnaicnmkkohaaW.PrintMore Go.Proofs.Ytfbnaicnmkkohaa.Core Go.Proofs.Ytfbnaicnmkkohaa.PFramePlace Go.Proofs.Ytfbnaicnmkkohaa.Repeat Go.Proofs.Ytfbnaicnmkkohaa.Frames Go.Proofs.Ytfbnaicnmkkohaa.Draw Go.Proofs.Ytfbnaicnmkkohaa.Drawn Go.Proofs.Ytfbnaicnmkkohaa.Awake
set_option linter.unusedVariables false
set_option linter.unusedSimpArgs false
attribute [local go_sem ↓] Go.wp_at_zero Go.wp_at_succ
theorem own_reads {w : World} {base g cap : Nat} {l : List Int} (h : w.ownsRow base 5 1 (.slice (some ⟨g, 0, none⟩) l.length cap) l.length (l.map (Value.int .u8))) : (∀ j, j < l.length → w.cell? ⟨g, j, none⟩ = some (.int .u8 (l.getD j 0))) ∧ l.length ≤ cap ∧ base ≤ g ∧ g < w.heap.size := by
  have hc := h.cellAt
  refine ⟨fun j hj => ?_, ?_⟩
  · have := hc j (by omega)
    rw [this, List.getElem?_map, List.getD_eq_getElem?_getD, List.getElem?_eq_getElem hj]; rfl
  · rcases h.2 with ⟨h0, _⟩ | ⟨g', cap', cur, hv, hg, hh, hn, hm, _⟩
    · simp at h0
    · simp only [Value.slice.injEq, Option.some.injEq, Addr.mk.injEq, and_true, true_and] at hv
      obtain ⟨rfl, rfl⟩ := hv
      exact ⟨hn, hg, blk_lt hh⟩
def LoopI (wb : World) (n : Nat) (s36 : Value) (w' : World) : Prop := ∃ k : Nat, s36 = .int .i64 k ∧ k ≤ n ∧ Below wb.heap.size wb w'
set_option maxRecDepth 100000 in
set_option maxHeartbeats 4000000 in
theorem one (op key aw ah ink tone pen : Int) (W H : Nat) (l : List Int) (D : Nat → Int) (w : World) (hn : l.length ≤ 1000) (hl : ∀ z ∈ l, 0 ≤ z ∧ z ≤ 255)
    (HS : Hid (∀ w, Calls Try.prog 13 #[.agg #[.int .u8 op, .int .u8 key, .int .u8 aw, .int .u8 ah, .int .u8 ink]] w (WalkField.Made w W H l)))
    (HO : Hid (∀ w, Calls Try.prog 10 #[.int .i64 W, .int .i64 H, .int .u8 tone] w (Frames.Made w W H (List.replicate l.length tone))))
    (HD : Hid (∀ (g cap F T : Nat) (w' : World), l.length ≤ cap → g ≠ T → Frm w' F T W H (List.replicate l.length tone) → (∀ j, j < l.length → w'.cell? ⟨g, j, none⟩ = some (.int .u8 (l.getD j 0))) →
      Calls Try.prog 15 #[.pointer (some ⟨F, 0, none⟩), .agg #[.int .i64 W, .int .i64 H, .slice (some ⟨g, 0, none⟩) l.length cap], .agg #[.int .i64 0, .int .i64 0, .int .i64 1, .int .i64 1, .int .i64 50, .int .i64 200, .int .u8 pen]] w' (fun e w2 => e = .returned (.int .i64 0) ∧ Frm w2 F T W H ((List.range l.length).map D) ∧ Sv T w' w2)))
    (HX : Hid (∀ (F T : Nat) (w' : World), Frm w' F T W H ((List.range l.length).map D) → Calls Try.prog 12 #[.pointer (some ⟨F, 0, none⟩)] w' (Shown w' W H ((List.range l.length).map D))))
    (HC : Hid (∀ (k : Nat) (w' : World), k < l.length → Calls Try.prog 22 #[.agg #[.int .i64 (l.getD k 0), .int .i64 1], .int .i64 50, .int .i64 200] w' (Ret (.int .u8 (cov (l.getD k 0) 1 50 200)) w')))
    (HB : Hid (∀ (k : Nat) (w' : World), k < l.length → Calls Try.prog 21 #[.int .u8 tone, .int .u8 pen, .int .u8 (cov (l.getD k 0) 1 50 200)] w' (Ret (.int .u8 (D k)) w'))) :
    Calls Try.prog 7 #[.agg #[.int .u8 op, .int .u8 key, .int .u8 aw, .int .u8 ah, .int .u8 ink], .int .u8 tone, .int .u8 pen] w (Ret (.bool true) w) := by
  have hlH := Lib.hid hl
  clear hl
  have hfd : ∀ (a b : Int) (v : Value) (w : World), (Instr.field 30 (.agg #[.int .i64 a, .int .i64 b, v]) 2).run Try.prog w = .ok v w := fun _ _ _ _ => by kernel_rfl
  go_enter Try.func7, Try.ntmps7
  go_upto_region 8 with (first
    | (go_at_call 9; refine (awake_calls _).mono ?_; rintro e w1 ⟨rfl, hw1⟩; obtain ⟨hc1, hf1⟩ := WalkSome.bcell hw1)
    | (go_at_call 13; refine (HS.out _).mono ?_; rintro e w2 ⟨g, cap, rfl, ho2, hw2⟩)
    | (go_at_call 10; refine (HO.out _).mono ?_; rintro e w3 ⟨F, T, rfl, hzF, hzT, hF, hw3⟩; have hr2 := own_reads ho2; have f0 := cell_later hw3 (show (w2.alloc (.cells #[.int .i64 W, .int .i64 H, .slice (some ⟨g, 0, none⟩) l.length cap] 30)).cell? ⟨w2.heap.size, 0, none⟩ = some (.int .i64 W) by go_simp); have f1 := cell_later hw3 (show (w2.alloc (.cells #[.int .i64 W, .int .i64 H, .slice (some ⟨g, 0, none⟩) l.length cap] 30)).cell? ⟨w2.heap.size, 1, none⟩ = some (.int .i64 H) by go_simp); have f2 := cell_later hw3 (show (w2.alloc (.cells #[.int .i64 W, .int .i64 H, .slice (some ⟨g, 0, none⟩) l.length cap] 30)).cell? ⟨w2.heap.size, 2, none⟩ = some (.slice (some ⟨g, 0, none⟩) l.length cap) by go_simp); have hs2 : (w2.alloc (.cells #[.int .i64 W, .int .i64 H, .slice (some ⟨g, 0, none⟩) l.length cap] 30)).heap.size = w2.heap.size + 1 := (by simp); rw [hs2] at hzF hzT)
    | (go_at_call 15; refine (HD.out g cap F T _ hr2.2.1 (by omega) hF (fun j hj => cell_later hw3 (cell_later (below_alloc (Below.refl _ _) _) (hr2.1 j hj)))).mono ?_; rintro e w4 ⟨rfl, hF4, hS4⟩; have e0 := hS4.cell (a := ⟨w2.heap.size, 0, none⟩) (by show w2.heap.size ≠ T; omega) f0; have e1 := hS4.cell (a := ⟨w2.heap.size, 1, none⟩) (by show w2.heap.size ≠ T; omega) f1; have e2 := hS4.cell (a := ⟨w2.heap.size, 2, none⟩) (by show w2.heap.size ≠ T; omega) f2)
    | (go_at_call 12; refine (HX.out F T _ hF4).mono ?_; rintro e w5 ⟨g5, cap5, rfl, ho5, hw5⟩))
  have d0 := cell_later hw5 e0
  have d2 := cell_later hw5 e2
  have dg : ∀ j, j < l.length → w5.cell? ⟨g, j, none⟩ = some (.int .u8 (l.getD j 0)) := fun j hj => cell_later hw5 (hS4.cell (a := ⟨g, j, none⟩) (by show g ≠ T; omega) (cell_later hw3 (cell_later (below_alloc (Below.refl _ _) _) (hr2.1 j hj))))
  have dp : ∀ j, j < l.length → w5.cell? ⟨g5, j, none⟩ = some (.int .u8 (D j)) := fun j hj => by
    have := (own_reads ho5).1 j (by simpa using hj)
    rw [this, List.getD_eq_getElem?_getD, List.getElem?_map, List.getElem?_range hj]; rfl
  have hcp5 := (own_reads ho5).2.1
  have hcp := hr2.2.1
  have z1 := hw1.size
  have z2 := hw2.size
  have z3 := hw3.size
  rw [hs2] at z3
  simp only [World.size_alloc] at z1
  have hB5 : Below w.heap.size w w5 := below_step (sv_below (below_step (below_step (below_step (below_alloc (Below.refl _ _) _) hw1) hw2) (below_step (below_alloc (Below.refl _ _) _) hw3)) hS4 (by omega) (by omega)) hw5
  clear hw1 hw2 hw3 hw5 hS4 hF hF4 e0 e1 e2 f0 f1 f2 ho2 ho5 hr2 HS HO HD HX z1 z2 z3 hzF hzT hs2
  go_loopw [36] (LoopI w5 l.length) (fun i _ => (l.length - intOf i).toNat)
  case atStart => exact ⟨0, rfl, Nat.zero_le _, Below.refl _ _⟩
  case round =>
    obtain ⟨k, rfl, hk, hbr⟩ := hrel
    have r0 := cell_later hbr d0
    have r2 := cell_later hbr d2
    by_cases hlt : k < l.length
    · have rg := cell_later hbr (dg k hlt)
      have rp := cell_later hbr (dp k hlt)
      have hlt' : (k : Int) < l.length := by omega
      have hzb : 0 ≤ l.getD k 0 ∧ l.getD k 0 ≤ 255 := hlH.out _ (by rw [List.getD_eq_getElem?_getD, List.getElem?_eq_getElem hlt]; exact List.getElem_mem hlt)
      have C1 := Lib.hid fun w' => HC.out k w' hlt
      have C2 := Lib.hid fun w' => HB.out k w' hlt
      generalize l.getD k 0 = z at rg hzb C1 C2
      have hzw : IntKind.i64.wrap z = z := by rw [i64_w]; exact w64 (by omega) (by omega)
      generalize cov z 1 50 200 = cz at C1 C2
      generalize D k = dk at rp C2
      go_wp2_with (first
        | (go_at_call 22; with_reducible refine (C1.out _).mono ?_; rintro e w6 ⟨rfl, hw6⟩)
        | (go_at_call 21; with_reducible refine (C2.out _).mono ?_; rintro e w7 ⟨rfl, hw7⟩))
      refine ⟨⟨k + 1, by congr 1, by omega, below_step (below_step hbr hw6) hw7⟩, by simp [intOf]; omega⟩
    · obtain rfl : k = l.length := by omega
      go_wp2_with fail
      go_ret
      exact ⟨rfl, below_step hB5 hbr⟩
end Go.Proofs.Ytfbnaicnmkkohaa.WalkOne
