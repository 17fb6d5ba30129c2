/- BilinWrong's walk: what may not be is told. Conditions: as each states. -/
import Derived.Test.YtignhpmfaodpjaaBase
import Derived.Deep.DeepCutAuto
import Derived.Lib.Hide
import Derived.WalkSpells
namespace Go.Proofs.Ytignhpmfaodpjaa.WalkWrong
open Go Go.RowKit Go.Lib Go.Proofs.YtignhpmfaodpjaaW.PrintWords Go.Proofs.YtignhpmfaodpjaaW.PrintLast Go.Proofs.YtignhpmfaodpjaaW.PrintMore Go.Proofs.Ytignhpmfaodpjaa.Core Go.Proofs.Ytignhpmfaodpjaa.PBilinFlat Go.Proofs.Ytignhpmfaodpjaa.WalkField Go.Proofs.Ytignhpmfaodpjaa.WalkSome Go.Proofs.Ytignhpmfaodpjaa.Glue Go.Proofs.Ytignhpmfaodpjaa.Base
set_option linter.unusedVariables false
set_option linter.unusedSimpArgs false
attribute [local go_sem ↓] Go.wp_at_zero Go.wp_at_succ
attribute [local go_sem] max2_int min2_int
theorem reads_cells {w : World} {g : Nat} {l : List Int} (hk : ∀ k, k < l.length → w.cell? ⟨g, k, none⟩ = some (.int .u8 (l.getD k 0))) (hm : l.length ≤ 1000) : Kd.C (Kd.int .u8) w (some ⟨g, 0, none⟩) l.length l := by
  refine ⟨rfl, by omega, fun _ => ⟨⟨g, 0, none⟩, rfl, fun j p hp => ?_⟩⟩
  refine ⟨[.int .u8 p], rfl, rfl, fun i u hi => ?_⟩
  have hj : j < l.length := (List.getElem?_eq_some_iff.1 hp).1
  have hi0 : i = 0 := by
    rcases i with _ | i
    · rfl
    · simp at hi
  subst hi0
  simp at hi
  subst hi
  have := hk j hj
  rw [List.getD_eq_getElem?_getD, hp] at this
  show w.cell? ((⟨g, 0, none⟩ : Addr).add (j * 1 + 0)) = _
  by_cases h0 : j = 0 <;> simpa [Addr.add, h0] using this
set_option maxRecDepth 100000 in
set_option maxHeartbeats 4000000 in
theorem wrong (W H x y d op key aw ah ink GW GH e1 e2 num den num2 den2 X I m : Int) (A : Option Addr) (len cap k : Nat) (l gl : List Int) (c1 c2 c3 c4 c5 c6 c7 c8 c9 R M : Bool) (w : World)
    (hlen : len ≤ cap) (hcap : cap ≤ 9223372036854775807) (hnil : A = none → len = 0 ∧ cap = 0) (hk : (if (300 : Int) < (len : Int) then 300 else (len : Int)) = (k : Int)) (hk2 : k ≤ cap)
    (hx : (if x < y then y else x) = X) (hi : (if y < x then y else x) = I) (hm : wrap64 (W * H) = m)
    (h1 : decide (0 < W) = c1) (h2 : decide (0 < H) = c2) (h3 : decide (W < 65) = c3) (h4 : decide (H < 65) = c4) (h5 : ((k : Int) == m) = c5)
    (h6 : decide (0 < d) = c6) (h7 : decide (d ≤ 1024) = c7) (h8 : decide (X ≤ 1048576) = c8) (h9 : decide (-1048576 ≤ I) = c9)
    (hR : (c1 && c2 && c3 && c4 && c5) = R) (hM : (c6 && c7 && c8 && c9) = M)
    (HA : Hid (∀ w' : World, Below w.heap.size w w' → Calls Try.prog 12 #[.agg #[.int .i64 W, .int .i64 H, .slice A k cap], .int .i64 x, .int .i64 y, .int .i64 d] w' (Ret (.tuple #[.agg #[.int .i64 num, .int .i64 den], .int .i64 e1]) w')))
    (HT : Hid (∀ w' : World, Below w.heap.size w w' → Calls Try.prog 14 #[.agg #[.int .i64 W, .int .i64 H, .slice A k cap]] w' (Ret (.bool R) w')))
    (HS : Hid (∀ w, Calls Try.prog 11 #[.agg #[.int .u8 op, .int .u8 key, .int .u8 aw, .int .u8 ah, .int .u8 ink], .int .i16 0, .int .i16 0, .int .u8 0] w (SomeMade w GW GH 0 0 1 gl)))
    (HG : Hid (∀ (w : World) (A : Option Addr) (cap : Nat), Kd.C (Kd.int .u8) w A gl.length gl → gl.length ≤ cap → Calls Try.prog 12 #[.agg #[.int .i64 GW, .int .i64 GH, .slice A gl.length cap], .int .i64 x, .int .i64 y, .int .i64 d] w (Ret (.tuple #[.agg #[.int .i64 num2, .int .i64 den2], .int .i64 e2]) w)))
    (HGT : Hid (∀ (w : World) (A : Option Addr) (cap : Nat), Kd.C (Kd.int .u8) w A gl.length gl → gl.length ≤ cap → Calls Try.prog 14 #[.agg #[.int .i64 GW, .int .i64 GH, .slice A gl.length cap]] w (Ret (.bool true) w)))
    (hgl : gl.length ≤ 1000) (hE : ((R && M) = true ∧ e1 = 0) ∨ ((R && M) = false ∧ e1 = 4 ∧ num = 0 ∧ den = 0)) (hE2 : (M = true ∧ e2 = 0) ∨ (M = false ∧ e2 = 4 ∧ num2 = 0 ∧ den2 = 0)) :
    Calls Try.prog 4 #[.agg #[.int .i64 W, .int .i64 H, .slice A len cap], .int .i64 x, .int .i64 y, .int .i64 d, .agg #[.int .u8 op, .int .u8 key, .int .u8 aw, .int .u8 ah, .int .u8 ink]] w (Ret (.bool true) w) := by
  go_enter Try.func4, Try.ntmps4
  go_upto_region 3 with (go_at_call 10; refine (awake_calls _).mono ?_; rintro e w1 ⟨rfl, hw1⟩; obtain ⟨hc1, hf1⟩ := bcell hw1)
  go_upto_region 4 with fail
  have k0 := cell_later hw1 (show ((w.alloc (.cells #[.int .i64 W, .int .i64 H, .slice A len cap] 28)).alloc (.cells #[.int .u8 op, .int .u8 key, .int .u8 aw, .int .u8 ah, .int .u8 ink] 23)).cell? ⟨w.heap.size, 0, none⟩ = some (.int .i64 W) by go_simp)
  have k1 := cell_later hw1 (show ((w.alloc (.cells #[.int .i64 W, .int .i64 H, .slice A len cap] 28)).alloc (.cells #[.int .u8 op, .int .u8 key, .int .u8 aw, .int .u8 ah, .int .u8 ink] 23)).cell? ⟨w.heap.size, 1, none⟩ = some (.int .i64 H) by go_simp)
  have k2 := cell_later hw1 (show ((w.alloc (.cells #[.int .i64 W, .int .i64 H, .slice A len cap] 28)).alloc (.cells #[.int .u8 op, .int .u8 key, .int .u8 aw, .int .u8 ah, .int .u8 ink] 23)).cell? ⟨w.heap.size, 2, none⟩ = some (.slice A len cap) by go_simp)
  have b0 : (w1.setCell ⟨w.heap.size, 2, none⟩ (.slice A k cap)).cell? ⟨w.heap.size + 1, 0, none⟩ = some (.int .u8 op) := (World.cell?_setCell_far _ _ _ _ (by show w.heap.size ≠ w.heap.size + 1; omega)).trans (cell_later hw1 (show ((w.alloc (.cells #[.int .i64 W, .int .i64 H, .slice A len cap] 28)).alloc (.cells #[.int .u8 op, .int .u8 key, .int .u8 aw, .int .u8 ah, .int .u8 ink] 23)).cell? ⟨w.heap.size + 1, 0, none⟩ = some (.int .u8 op) by go_simp))
  have b1 : (w1.setCell ⟨w.heap.size, 2, none⟩ (.slice A k cap)).cell? ⟨w.heap.size + 1, 1, none⟩ = some (.int .u8 key) := (World.cell?_setCell_far _ _ _ _ (by show w.heap.size ≠ w.heap.size + 1; omega)).trans (cell_later hw1 (show ((w.alloc (.cells #[.int .i64 W, .int .i64 H, .slice A len cap] 28)).alloc (.cells #[.int .u8 op, .int .u8 key, .int .u8 aw, .int .u8 ah, .int .u8 ink] 23)).cell? ⟨w.heap.size + 1, 1, none⟩ = some (.int .u8 key) by go_simp))
  have b2 : (w1.setCell ⟨w.heap.size, 2, none⟩ (.slice A k cap)).cell? ⟨w.heap.size + 1, 2, none⟩ = some (.int .u8 aw) := (World.cell?_setCell_far _ _ _ _ (by show w.heap.size ≠ w.heap.size + 1; omega)).trans (cell_later hw1 (show ((w.alloc (.cells #[.int .i64 W, .int .i64 H, .slice A len cap] 28)).alloc (.cells #[.int .u8 op, .int .u8 key, .int .u8 aw, .int .u8 ah, .int .u8 ink] 23)).cell? ⟨w.heap.size + 1, 2, none⟩ = some (.int .u8 aw) by go_simp))
  have b3 : (w1.setCell ⟨w.heap.size, 2, none⟩ (.slice A k cap)).cell? ⟨w.heap.size + 1, 3, none⟩ = some (.int .u8 ah) := (World.cell?_setCell_far _ _ _ _ (by show w.heap.size ≠ w.heap.size + 1; omega)).trans (cell_later hw1 (show ((w.alloc (.cells #[.int .i64 W, .int .i64 H, .slice A len cap] 28)).alloc (.cells #[.int .u8 op, .int .u8 key, .int .u8 aw, .int .u8 ah, .int .u8 ink] 23)).cell? ⟨w.heap.size + 1, 3, none⟩ = some (.int .u8 ah) by go_simp))
  have b4 : (w1.setCell ⟨w.heap.size, 2, none⟩ (.slice A k cap)).cell? ⟨w.heap.size + 1, 4, none⟩ = some (.int .u8 ink) := (World.cell?_setCell_far _ _ _ _ (by show w.heap.size ≠ w.heap.size + 1; omega)).trans (cell_later hw1 (show ((w.alloc (.cells #[.int .i64 W, .int .i64 H, .slice A len cap] 28)).alloc (.cells #[.int .u8 op, .int .u8 key, .int .u8 aw, .int .u8 ah, .int .u8 ink] 23)).cell? ⟨w.heap.size + 1, 4, none⟩ = some (.int .u8 ink) by go_simp))
  have f0 : (w1.setCell ⟨w.heap.size, 2, none⟩ (.slice A k cap)).cell? ⟨w.heap.size, 0, none⟩ = some (.int .i64 W) := (World.cell?_setCell_other _ _ _ _ (by intro e; injection e with _ e2; cases e2)).trans k0
  have f1 : (w1.setCell ⟨w.heap.size, 2, none⟩ (.slice A k cap)).cell? ⟨w.heap.size, 1, none⟩ = some (.int .i64 H) := (World.cell?_setCell_other _ _ _ _ (by intro e; injection e with _ e2; cases e2)).trans k1
  have f2 : (w1.setCell ⟨w.heap.size, 2, none⟩ (.slice A k cap)).cell? ⟨w.heap.size, 2, none⟩ = some (.slice A k cap) := World.cell?_setCell_same _ _ _ k2
  have hB : Below w.heap.size w (w1.setCell ⟨w.heap.size, 2, none⟩ (.slice A k cap)) := (below_step (below_alloc (below_alloc (Below.refl _ _) _) _) hw1).setCell (Nat.le_refl _) _
  clear k0 k1 k2 hw1 hc1 hf1
  generalize (w1.setCell ⟨w.heap.size, 2, none⟩ (.slice A k cap)) = wb at *
  have lb : w.heap.size < wb.heap.size := World.block_lt_of_cell? _ _ f0
  have lb1 : w.heap.size + 1 < wb.heap.size := World.block_lt_of_cell? _ _ b0
  go_cut [11] (fun s11 wr => s11 = .bool R ∧ wr = wb)
  case first =>
    have h5b : ((k : Int) == wrap64 (W * H)) = c5 := by rw [hm]; exact h5
    cases c1 <;> cases c2 <;> cases c3 <;> cases c4 <;> cases c5 <;> subst hR
    all_goals (go_wp2_with fail; go_meet)
    all_goals exact ⟨rfl, rfl⟩
  case rest =>
    obtain ⟨rfl, rfl⟩ := hcut
    go_upto_region 5 with fail
    go_cut [12] (fun s12 wr => s12 = .bool M ∧ wr = wc)
    case first =>
      cases c6 <;> cases c7 <;> cases c8 <;> cases c9 <;> subst hM
      all_goals (go_wp2_with fail; go_meet)
      all_goals exact ⟨rfl, rfl⟩
    case rest =>
      obtain ⟨rfl, rfl⟩ := hcut
      clear h1 h2 h3 h4 h5 h6 h7 h8 h9 hR hM hk hx hi hm hnil
      go_upto_region 9 with (first
        | (go_at_call_of 12 (Value.agg #[Value.int IntKind.i64 W, Value.int IntKind.i64 H, Value.slice A k cap]); refine (HA.out _ hB).mono ?_; rintro e w3 ⟨rfl, hw3⟩; have x0 := cell_later hw3 f0; have x1 := cell_later hw3 f1; have x2 := cell_later hw3 f2; have y0 := cell_later hw3 b0; have y1 := cell_later hw3 b1; have y2 := cell_later hw3 b2; have y3 := cell_later hw3 b3; have y4 := cell_later hw3 b4; have lx : w.heap.size < w3.heap.size := World.block_lt_of_cell? _ _ x0; have lx1 : w.heap.size + 1 < w3.heap.size := World.block_lt_of_cell? _ _ y0; have hB3 := below_step hB hw3)
        | (go_at_call 11; refine (HS.out _).mono ?_; rintro e w4 ⟨g, gcap, rfl, ho4, hw4⟩; have z0 := cell_later hw4 (cell_later (below_alloc (Below.refl _ _) (.cells #[.int .i64 num, .int .i64 den] 32)) x0); have z1 := cell_later hw4 (cell_later (below_alloc (Below.refl _ _) (.cells #[.int .i64 num, .int .i64 den] 32)) x1); have z2 := cell_later hw4 (cell_later (below_alloc (Below.refl _ _) (.cells #[.int .i64 num, .int .i64 den] 32)) x2); have v0 := cell_later hw4 (show (w3.alloc (.cells #[.int .i64 num, .int .i64 den] 32)).cell? ⟨w3.heap.size, 0, none⟩ = some (.int .i64 num) by go_simp); have v1 := cell_later hw4 (show (w3.alloc (.cells #[.int .i64 num, .int .i64 den] 32)).cell? ⟨w3.heap.size, 1, none⟩ = some (.int .i64 den) by go_simp); have lz : w.heap.size < w4.heap.size := World.block_lt_of_cell? _ _ z0; have lv : w3.heap.size < w4.heap.size := World.block_lt_of_cell? _ _ v0; have hB4 := below_step (below_alloc hB3 (.cells #[.int .i64 num, .int .i64 den] 32)) hw4)
        | (go_at_call 12; refine (HG.out _ _ _ (reads_own (ho4.alloc _)).1 (reads_own ho4).2.1).mono ?_; rintro e w5 ⟨rfl, hw5⟩))
      have kgl : gl.length ≤ gcap := (reads_own ho4).2.1
      have haf : Below w5.heap.size w5 (w5.alloc (.cells #[.int .i64 num2, .int .i64 den2] 32)) := below_alloc (Below.refl _ _) _
      have hg4 : Below w4.heap.size w4 (w4.alloc (.cells #[.int .i64 GW, .int .i64 GH, .slice (some ⟨g, 0, none⟩) gl.length gcap] 28)) := below_alloc (Below.refl _ _) _
      have KG : Hid (∀ j : Nat, j < gl.length → (w5.alloc (.cells #[.int .i64 num2, .int .i64 den2] 32)).cell? ⟨g, j, none⟩ = some (.int .u8 (gl.getD j 0))) := fun j hj => by
        refine cell_later haf (cell_later hw5 (cell_later hg4 ?_))
        have := ho4.cellAt j (by omega)
        rw [this, List.getElem?_map, List.getD_eq_getElem?_getD, List.getElem?_eq_getElem hj]; rfl
      have p0 := cell_later haf (cell_later hw5 (cell_later hg4 z0))
      have p1 := cell_later haf (cell_later hw5 (cell_later hg4 z1))
      have p2 := cell_later haf (cell_later hw5 (cell_later hg4 z2))
      have q0 := cell_later haf (cell_later hw5 (cell_later hg4 v0))
      have q1 := cell_later haf (cell_later hw5 (cell_later hg4 v1))
      have r0 := cell_later haf (cell_later hw5 (show (w4.alloc (.cells #[.int .i64 GW, .int .i64 GH, .slice (some ⟨g, 0, none⟩) gl.length gcap] 28)).cell? ⟨w4.heap.size, 0, none⟩ = some (.int .i64 GW) by go_simp))
      have r1 := cell_later haf (cell_later hw5 (show (w4.alloc (.cells #[.int .i64 GW, .int .i64 GH, .slice (some ⟨g, 0, none⟩) gl.length gcap] 28)).cell? ⟨w4.heap.size, 1, none⟩ = some (.int .i64 GH) by go_simp))
      have r2 := cell_later haf (cell_later hw5 (show (w4.alloc (.cells #[.int .i64 GW, .int .i64 GH, .slice (some ⟨g, 0, none⟩) gl.length gcap] 28)).cell? ⟨w4.heap.size, 2, none⟩ = some (.slice (some ⟨g, 0, none⟩) gl.length gcap) by go_simp))
      have s0 : (w5.alloc (.cells #[.int .i64 num2, .int .i64 den2] 32)).cell? ⟨w5.heap.size, 0, none⟩ = some (.int .i64 num2) := by go_simp
      have s1 : (w5.alloc (.cells #[.int .i64 num2, .int .i64 den2] 32)).cell? ⟨w5.heap.size, 1, none⟩ = some (.int .i64 den2) := by go_simp
      have hBf : Below w.heap.size w (w5.alloc (.cells #[.int .i64 num2, .int .i64 den2] 32)) := below_alloc (below_step (below_alloc hB4 _) hw5) _
      clear haf hg4 hw5 hw4 hw3 ho4 hB4 hB3 hB z0 z1 z2 v0 v1 x0 x1 x2 y0 y1 y2 y3 y4 f0 f1 f2 b0 b1 b2 b3 b4 lx lx1 lz lv
      generalize (w5.alloc (.cells #[.int .i64 num2, .int .i64 den2] 32)) = wf at *
      cases R <;> cases M <;> rcases hE with ⟨qa, rfl⟩ | ⟨qa, rfl, rfl, rfl⟩ <;> rcases hE2 with ⟨qb, rfl⟩ | ⟨qb, rfl, rfl, rfl⟩
      all_goals first | (exact absurd qa (by decide)) | (exact absurd qb (by decide)) | skip
      all_goals
        go_wp2_with (first
          | (go_at_call_of 14 (Value.agg #[Value.int IntKind.i64 W, Value.int IntKind.i64 H, Value.slice A k cap]); refine (HT.out _ hBf).mono ?_; rintro e w6 ⟨rfl, hw6⟩; have a0 := cell_later hw6 r0; have a1 := cell_later hw6 r1; have a2 := cell_later hw6 r2; have c0 := cell_later hw6 q0; have c1 := cell_later hw6 q1; have d0 := cell_later hw6 s0; have d1 := cell_later hw6 s1)
          | (go_at_call 14; refine (HGT.out _ _ _ (reads_cells (fun j hj => cell_later hw6 (KG.out j hj)) hgl) kgl).mono ?_; rintro e w7 ⟨rfl, hw7⟩; have g0 := cell_later hw7 c0; have g1 := cell_later hw7 c1; have h0 := cell_later hw7 d0; have h1 := cell_later hw7 d1))
        go_ret
        exact ⟨rfl, below_step (below_step hBf hw6) (by assumption)⟩
end Go.Proofs.Ytignhpmfaodpjaa.WalkWrong
