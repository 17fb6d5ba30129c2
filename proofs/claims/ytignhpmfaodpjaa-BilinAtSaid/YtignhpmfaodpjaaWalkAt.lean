/- BilinAt's walk: what is between texels is what the document says. Conditions: as each states. -/
import Derived.Test.YtignhpmfaodpjaaWalkWin
import Derived.Deep.RegionHeld3
import Derived.Deep.DrawnRows
namespace Go.Proofs.Ytignhpmfaodpjaa.WalkAt
open Go Go.RowKit Go.Lib Go.Proofs.YtignhpmfaodpjaaW.PrintWords Go.Proofs.YtignhpmfaodpjaaW.PrintLast Go.Proofs.YtignhpmfaodpjaaW.PrintMore Go.Proofs.Ytignhpmfaodpjaa.Core Go.Proofs.Ytignhpmfaodpjaa.PBilinFlat Go.Proofs.Ytignhpmfaodpjaa.WalkField Go.Proofs.Ytignhpmfaodpjaa.WalkSome Go.Proofs.Ytignhpmfaodpjaa.Glue Go.Proofs.Ytignhpmfaodpjaa.Base Go.Proofs.Ytignhpmfaodpjaa.WalkWin
set_option linter.unusedVariables false
set_option linter.unusedSimpArgs false
attribute [local go_sem ↓] Go.wp_at_zero Go.wp_at_succ
set_option maxHeartbeats 1000000 in
theorem between (op key aw ah ink x y t W H m n d num den : Int) (l : List Int) (w : World)
    (HA : Hid (∀ (w : World) (A : Option Addr) (cap : Nat), Kd.C (Kd.int .u8) w A l.length l → l.length ≤ cap → Calls Try.prog 12 #[.agg #[.int .i64 W, .int .i64 H, .slice A l.length cap], .int .i64 m, .int .i64 n, .int .i64 d] w (Ret (.tuple #[.agg #[.int .i64 num, .int .i64 den], .int .i64 0]) w)))
    (HW : Hid (∀ (w : World) (g cap : Nat), (∀ j, j < l.length → w.cell? ⟨g, j, none⟩ = some (.int .u8 (l.getD j 0))) → Calls Try.prog 13 #[.agg #[.int .i64 W, .int .i64 H, .slice (some ⟨g, 0, none⟩) l.length cap], .int .i64 m, .int .i64 n, .int .i64 d] w (Ret (.agg #[.int .i64 num, .int .i64 den]) w)))
    (HS : Hid (∀ w, Calls Try.prog 11 #[.agg #[.int .u8 op, .int .u8 key, .int .u8 aw, .int .u8 ah, .int .u8 ink], .int .i16 x, .int .i16 y, .int .u8 t] w (SomeMade w W H m n d l))) :
    Calls Try.prog 3 #[.agg #[.int .u8 op, .int .u8 key, .int .u8 aw, .int .u8 ah, .int .u8 ink], .int .i16 x, .int .i16 y, .int .u8 t] w (Ret (.bool true) w) := by
  go_enter Try.func3, Try.ntmps3
  go_upto_region 5 with (first | (go_at_call 10; refine (awake_calls _).mono ?_; rintro e w1 ⟨rfl, hw1⟩; obtain ⟨hc1, hf1⟩ := bcell hw1) | (go_at_call 11; refine (HS.out _).mono ?_; rintro e w2 ⟨g, cap, rfl, ho2, hw2⟩) | (go_at_call 12; refine (HA.out _ _ _ (reads_own (ho2.alloc _)).1 (reads_own ho2).2.1).mono ?_; rintro e w3 ⟨rfl, hw3⟩))
  have kg : g < w2.heap.size := (reads_own ho2).2.2.2
  have kc : ∀ k : Nat, k < l.length → w2.cell? ⟨g, k, none⟩ = some (.int .u8 (l.getD k 0)) := by
    intro k hk
    have := ho2.cellAt k (by omega)
    rw [this, List.getElem?_map, List.getD_eq_getElem?_getD, List.getElem?_eq_getElem hk]; rfl
  have ha1 : Below w2.heap.size w2 (w2.alloc (.cells #[.int .i64 W, .int .i64 H, .slice (some ⟨g, 0, none⟩) l.length cap] 28)) := below_alloc (Below.refl _ _) _
  have ha2 : Below w3.heap.size w3 (w3.alloc (.cells #[.int .i64 num, .int .i64 den] 32)) := below_alloc (Below.refl _ _) _
  have KC : Hid (∀ k : Nat, k < l.length → (w3.alloc (.cells #[.int .i64 num, .int .i64 den] 32)).cell? ⟨g, k, none⟩ = some (.int .u8 (l.getD k 0))) := fun k hk => cell_later ha2 (cell_later hw3 (cell_later ha1 (kc k hk)))
  have f0 := cell_later ha2 (cell_later hw3 (show (w2.alloc (.cells #[.int .i64 W, .int .i64 H, .slice (some ⟨g, 0, none⟩) l.length cap] 28)).cell? ⟨w2.heap.size, 0, none⟩ = some (.int .i64 W) by go_simp))
  have f1 := cell_later ha2 (cell_later hw3 (show (w2.alloc (.cells #[.int .i64 W, .int .i64 H, .slice (some ⟨g, 0, none⟩) l.length cap] 28)).cell? ⟨w2.heap.size, 1, none⟩ = some (.int .i64 H) by go_simp))
  have f2 := cell_later ha2 (cell_later hw3 (show (w2.alloc (.cells #[.int .i64 W, .int .i64 H, .slice (some ⟨g, 0, none⟩) l.length cap] 28)).cell? ⟨w2.heap.size, 2, none⟩ = some (.slice (some ⟨g, 0, none⟩) l.length cap) by go_simp))
  have v0 : (w3.alloc (.cells #[.int .i64 num, .int .i64 den] 32)).cell? ⟨w3.heap.size, 0, none⟩ = some (.int .i64 num) := by go_simp
  have v1 : (w3.alloc (.cells #[.int .i64 num, .int .i64 den] 32)).cell? ⟨w3.heap.size, 1, none⟩ = some (.int .i64 den) := by go_simp
  have hB : Below w.heap.size w (w3.alloc (.cells #[.int .i64 num, .int .i64 den] 32)) := below_alloc (below_step (below_alloc (below_step (below_step (below_alloc (Below.refl _ _) _) hw1) hw2) _) hw3) _
  clear kc ha1 ha2 ho2 hw1 hw2 hw3 hc1 hf1
  generalize (w3.alloc (.cells #[.int .i64 num, .int .i64 den] 32)) = wf at *
  go_region_held3 (fun w' => w'.cell? ⟨w2.heap.size, 0, none⟩ = some (.int .i64 W) ∧ w'.cell? ⟨w2.heap.size, 1, none⟩ = some (.int .i64 H) ∧ w'.cell? ⟨w2.heap.size, 2, none⟩ = some (.slice (some ⟨g, 0, none⟩) l.length cap) ∧ w'.cell? ⟨w3.heap.size, 0, none⟩ = some (.int .i64 num) ∧ w'.cell? ⟨w3.heap.size, 1, none⟩ = some (.int .i64 den))
    ((go_split_ands; (repeat' apply And.intro) <;> (repeat' (first | with_reducible assumption | with_reducible refine keepD ?_ | (refine cell_later hbq ?_; assumption)))))
    (first | (go_at_call 13; refine (HW.out wf.drew g cap (fun j hj => KC.out j hj)).mono ?_; rintro e w4 ⟨rfl, hbq⟩; have B4 : Below wf.heap.size wf w4 := below_step (by (repeat' (first | with_reducible assumption | with_reducible exact Below.refl _ _ | with_reducible refine below_drew1 ?_))) hbq))
  go_wp2_with fail
  go_ret
  exact ⟨rfl, below_step hB B4⟩
theorem walk (op key aw ah ink x y t : Int) (w : World) (w0 : (Lit.int .u8 op).wf = true) (w1 : (Lit.int .u8 key).wf = true) (w2 : (Lit.int .u8 aw).wf = true) (w3 : (Lit.int .u8 ah).wf = true) (w4 : (Lit.int .u8 ink).wf = true)
    (w5 : (Lit.int .i16 x).wf = true) (w6 : (Lit.int .i16 y).wf = true) (w7 : (Lit.int .u8 t).wf = true) :
    Calls Try.prog 3 #[.agg #[.int .u8 op, .int .u8 key, .int .u8 aw, .int .u8 ah, .int .u8 ink], .int .i16 x, .int .i16 y, .int .u8 t] w fun e w' => e = .returned (.bool true) ∧ Below w.heap.size w w' := by
  have hw := bounds_u8 w2
  have hh := bounds_u8 w3
  have hx := bounds_i16 w5
  have hy := bounds_i16 w6
  have ht := bounds_u8 w7
  have hS := fun w => some_calls op key aw ah ink x y t w hw.1 hw.2 hh.1 hh.2 ht.1 ht.2 hx.1 hx.2 hy.1 hy.2
  have hW : 1 ≤ 1 + aw % 12 ∧ 1 + aw % 12 ≤ 12 := by omega
  have hH : 1 ≤ 1 + ah % 12 ∧ 1 + ah % 12 ≤ 12 := by omega
  generalize 1 + aw % 12 = W at *
  generalize 1 + ah % 12 = H at *
  have ha := area_bd hW.1 hW.2 hH.1 hH.2
  have hm := tmod_bd (x := x) (d := 20 * (1 + t)) (by omega)
  have hn := tmod_bd (x := y) (d := 20 * (1 + t)) (by omega)
  generalize Int.tmod x (20 * (1 + t)) = m at *
  generalize Int.tmod y (20 * (1 + t)) = n at *
  have hlen : ((texels ink (W * H).toNat).length : Int) = W * H := by rw [texels_length]; omega
  have hl := texels_bd ink (W * H).toNat
  generalize texels ink (W * H).toNat = l at *
  have hA := at_calls (x := m) (y := n) (d := 1 + t) hW.1 (by omega) hH.1 (by omega) hlen hl (by omega) (by omega) (by omega) (by omega) (by omega) (by omega) rfl rfl
  have hC := win_calls (x := m) (y := n) (d := 1 + t) hW.1 (by omega) hH.1 (by omega) hlen hl (by omega) (by omega) (by omega) (by omega) (by omega) (by omega) rfl rfl
  exact between op key aw ah ink x y t W H m n (1 + t) _ _ l w (hid hA) (hid hC) (hid hS)
end Go.Proofs.Ytignhpmfaodpjaa.WalkAt
