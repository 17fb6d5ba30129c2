/- WideCompare's walk: pairs are compared by their values. Conditions: as each states. -/
import Derived.Test.YtdnflmnlbcjnlaaWalkMul
import Derived.Deep.RegionHeld3
import Derived.Deep.DrawnRows
namespace Go.Proofs.Ytdnflmnlbcjnlaa.WalkComp
open Go Go.RowKit Go.Lib Go.Proofs.Ytdnflmnlbcjnlaa.Glue Go.Proofs.YtdnflmnlbcjnlaaW.PrintWords Go.Proofs.YtdnflmnlbcjnlaaW.PrintLast Go.Proofs.YtdnflmnlbcjnlaaW.PrintMore Go.Proofs.Ytdnflmnlbcjnlaa.Core Go.Proofs.Ytdnflmnlbcjnlaa.PWideMul Go.Proofs.Ytdnflmnlbcjnlaa.Arr Go.Proofs.Ytdnflmnlbcjnlaa.Bits Go.Proofs.Ytdnflmnlbcjnlaa.Arr2 Go.Proofs.Ytdnflmnlbcjnlaa.Arr3 Go.Proofs.Ytdnflmnlbcjnlaa.Arr4 Go.Proofs.Ytdnflmnlbcjnlaa.WalkMul
set_option linter.unusedVariables false
set_option linter.unusedSimpArgs false
attribute [local go_sem ↓] Go.wp_at_zero Go.wp_at_succ
set_option maxHeartbeats 4000000 in
theorem pairs (ph pl qz qh ql s sm : Int) (same : Bool) (x y : BitVec 128) (w : World) (hq : (if same then ph else qz) = qh) (hn : wrap64 (-sm) = s) (hn2 : IntKind.i64.wrap (-sm) = s)
    (HX : Hid (∀ w, Calls Try.prog 11 #[.agg #[.int .u64 ph, .int .u64 pl]] w (Ret (.agg (bl x).toArray) w)))
    (HY : Hid (∀ w, Calls Try.prog 11 #[.agg #[.int .u64 qh, .int .u64 ql]] w (Ret (.agg (bl y).toArray) w)))
    (HC : Hid (∀ w, Calls Try.prog 15 #[.agg (bl x).toArray, .agg (bl y).toArray] w (Ret (.int .i64 s) w)))
    (HPQ : Hid (∀ w, Calls Try.prog 14 #[.agg #[.int .u64 ph, .int .u64 pl], .agg #[.int .u64 qh, .int .u64 ql]] w (Ret (.int .i64 s) w)))
    (HQP : Hid (∀ w, Calls Try.prog 14 #[.agg #[.int .u64 qh, .int .u64 ql], .agg #[.int .u64 ph, .int .u64 pl]] w (Ret (.int .i64 sm) w)))
    (HPP : Hid (∀ w, Calls Try.prog 14 #[.agg #[.int .u64 ph, .int .u64 pl], .agg #[.int .u64 ph, .int .u64 pl]] w (Ret (.int .i64 0) w))) :
    Calls Try.prog 4 #[.agg #[.int .u64 ph, .int .u64 pl], .agg #[.int .u64 qz, .int .u64 ql], .bool same] w (Ret (.bool true) w) := by
  cases same
  · simp only [if_true, if_false, Bool.false_eq_true] at hq
    subst hq
    go_enter Try.func4, Try.ntmps4
    go_upto_region 5 with (go_at_call 10; refine (awake_calls _).mono ?_; rintro e w1 ⟨rfl, hw1⟩; have k0 := cell_later hw1 (show ((w.alloc (.cells #[.int .u64 ph, .int .u64 pl] 27)).alloc (.cells #[.int .u64 qz, .int .u64 ql] 27)).cell? ⟨w.heap.size, 0, none⟩ = some (.int .u64 ph) by go_simp); have k1 := cell_later hw1 (show ((w.alloc (.cells #[.int .u64 ph, .int .u64 pl] 27)).alloc (.cells #[.int .u64 qz, .int .u64 ql] 27)).cell? ⟨w.heap.size, 1, none⟩ = some (.int .u64 pl) by go_simp); have k2 := cell_later hw1 (show ((w.alloc (.cells #[.int .u64 ph, .int .u64 pl] 27)).alloc (.cells #[.int .u64 qz, .int .u64 ql] 27)).cell? ⟨w.heap.size + 1, 0, none⟩ = some (.int .u64 qz) by go_simp); have k3 := cell_later hw1 (show ((w.alloc (.cells #[.int .u64 ph, .int .u64 pl] 27)).alloc (.cells #[.int .u64 qz, .int .u64 ql] 27)).cell? ⟨w.heap.size + 1, 1, none⟩ = some (.int .u64 ql) by go_simp); have f2 := (hw1.frozen (p := ⟨w.heap.size + 1, 0, none⟩) (by simp)).trans (show ((w.alloc (.cells #[.int .u64 ph, .int .u64 pl] 27)).alloc (.cells #[.int .u64 qz, .int .u64 ql] 27)).frozen? ⟨w.heap.size + 1, 0, none⟩ = false by go_simp); have hB : Below w.heap.size w w1 := below_step (below_alloc (below_alloc (Below.refl _ _) _) _) hw1; clear hw1)
    generalize w1 = wb at *
    go_region_held3 (fun w' => w'.cell? ⟨w.heap.size, 0, none⟩ = some (.int .u64 ph) ∧ w'.cell? ⟨w.heap.size, 1, none⟩ = some (.int .u64 pl) ∧ w'.cell? ⟨w.heap.size + 1, 0, none⟩ = some (.int .u64 qz) ∧ w'.cell? ⟨w.heap.size + 1, 1, none⟩ = some (.int .u64 ql))
        ((go_split_ands; (repeat' apply And.intro) <;> (repeat' (first | with_reducible assumption | with_reducible refine keepD ?_ | (refine cell_later hbq ?_; assumption)))))
        (first
          | (go_at_call_of 11 (#[Value.agg #[Value.int IntKind.u64 ph, Value.int IntKind.u64 pl]] : Array Value); refine (HX.out _).mono ?_; rintro e t0 ⟨rfl, hbq⟩; have B0 : Below wb.heap.size wb t0 := below_step (by (repeat' (first | with_reducible assumption | with_reducible exact Below.refl _ _ | with_reducible refine below_drew1 ?_))) hbq)
          | (go_at_call_of 11 (#[Value.agg #[Value.int IntKind.u64 qz, Value.int IntKind.u64 ql]] : Array Value); refine (HY.out _).mono ?_; rintro e t1 ⟨rfl, hbq⟩; have B1 : Below wb.heap.size wb t1 := below_step (by (repeat' (first | with_reducible assumption | with_reducible exact Below.refl _ _ | with_reducible refine below_drew1 ?_))) hbq)
          | (go_at_call_of 14 (#[Value.agg #[Value.int IntKind.u64 ph, Value.int IntKind.u64 pl], Value.agg #[Value.int IntKind.u64 qz, Value.int IntKind.u64 ql]] : Array Value); refine (HPQ.out _).mono ?_; rintro e t2 ⟨rfl, hbq⟩; have B2 : Below wb.heap.size wb t2 := below_step (by (repeat' (first | with_reducible assumption | with_reducible exact Below.refl _ _ | with_reducible refine below_drew1 ?_))) hbq)
          | (go_at_call_of 14 (#[Value.agg #[Value.int IntKind.u64 qz, Value.int IntKind.u64 ql], Value.agg #[Value.int IntKind.u64 ph, Value.int IntKind.u64 pl]] : Array Value); refine (HQP.out _).mono ?_; rintro e t3 ⟨rfl, hbq⟩; have B3 : Below wb.heap.size wb t3 := below_step (by (repeat' (first | with_reducible assumption | with_reducible exact Below.refl _ _ | with_reducible refine below_drew1 ?_))) hbq)
          | (go_at_call_of 14 (#[Value.agg #[Value.int IntKind.u64 ph, Value.int IntKind.u64 pl], Value.agg #[Value.int IntKind.u64 ph, Value.int IntKind.u64 pl]] : Array Value); refine (HPP.out _).mono ?_; rintro e t4 ⟨rfl, hbq⟩; have B4 : Below wb.heap.size wb t4 := below_step (by (repeat' (first | with_reducible assumption | with_reducible exact Below.refl _ _ | with_reducible refine below_drew1 ?_))) hbq)
          | (go_at_call_of 15 (#[Value.agg (bl x).toArray, Value.agg (bl y).toArray] : Array Value); refine (HC.out _).mono ?_; rintro e t5 ⟨rfl, hbq⟩; have B5 : Below wb.heap.size wb t5 := below_step (by (repeat' (first | with_reducible assumption | with_reducible exact Below.refl _ _ | with_reducible refine below_drew1 ?_))) hbq))
    go_wp2_with fail
    go_ret
    exact ⟨rfl, below_step hB (by assumption)⟩
  · simp only [if_true, if_false, Bool.false_eq_true] at hq
    subst hq
    go_enter Try.func4, Try.ntmps4
    go_upto_region 5 with (go_at_call 10; refine (awake_calls _).mono ?_; rintro e w1 ⟨rfl, hw1⟩; have k0 := cell_later hw1 (show ((w.alloc (.cells #[.int .u64 ph, .int .u64 pl] 27)).alloc (.cells #[.int .u64 qz, .int .u64 ql] 27)).cell? ⟨w.heap.size, 0, none⟩ = some (.int .u64 ph) by go_simp); have k1 := cell_later hw1 (show ((w.alloc (.cells #[.int .u64 ph, .int .u64 pl] 27)).alloc (.cells #[.int .u64 qz, .int .u64 ql] 27)).cell? ⟨w.heap.size, 1, none⟩ = some (.int .u64 pl) by go_simp); have k2 := cell_later hw1 (show ((w.alloc (.cells #[.int .u64 ph, .int .u64 pl] 27)).alloc (.cells #[.int .u64 qz, .int .u64 ql] 27)).cell? ⟨w.heap.size + 1, 0, none⟩ = some (.int .u64 qz) by go_simp); have k3 := cell_later hw1 (show ((w.alloc (.cells #[.int .u64 ph, .int .u64 pl] 27)).alloc (.cells #[.int .u64 qz, .int .u64 ql] 27)).cell? ⟨w.heap.size + 1, 1, none⟩ = some (.int .u64 ql) by go_simp); have f2 := (hw1.frozen (p := ⟨w.heap.size + 1, 0, none⟩) (by simp)).trans (show ((w.alloc (.cells #[.int .u64 ph, .int .u64 pl] 27)).alloc (.cells #[.int .u64 qz, .int .u64 ql] 27)).frozen? ⟨w.heap.size + 1, 0, none⟩ = false by go_simp); have hB : Below w.heap.size w w1 := below_step (below_alloc (below_alloc (Below.refl _ _) _) _) hw1; clear hw1)
    have r0 : (w1.setCell ⟨w.heap.size + 1, 0, none⟩ (.int .u64 ph)).cell? ⟨w.heap.size, 0, none⟩ = some (.int .u64 ph) := keepS (by dsimp only; omega) k0
    have r1 : (w1.setCell ⟨w.heap.size + 1, 0, none⟩ (.int .u64 ph)).cell? ⟨w.heap.size, 1, none⟩ = some (.int .u64 pl) := keepS (by dsimp only; omega) k1
    have r2 : (w1.setCell ⟨w.heap.size + 1, 0, none⟩ (.int .u64 ph)).cell? ⟨w.heap.size + 1, 0, none⟩ = some (.int .u64 ph) := World.cell?_setCell_same _ _ _ k2
    have r3 : (w1.setCell ⟨w.heap.size + 1, 0, none⟩ (.int .u64 ph)).cell? ⟨w.heap.size + 1, 1, none⟩ = some (.int .u64 ql) := (World.cell?_setCell_other _ _ _ _ (by intro e; injection e with _ e2; cases e2)).trans k3
    have hB2 : Below w.heap.size w (w1.setCell ⟨w.heap.size + 1, 0, none⟩ (.int .u64 ph)) := hB.setCell (by show w.heap.size ≤ w.heap.size + 1; omega) _
    clear k0 k1 k2 k3 f2 hB
    generalize w1.setCell ⟨w.heap.size + 1, 0, none⟩ (.int .u64 ph) = wb at *
    go_region_held3 (fun w' => w'.cell? ⟨w.heap.size, 0, none⟩ = some (.int .u64 ph) ∧ w'.cell? ⟨w.heap.size, 1, none⟩ = some (.int .u64 pl) ∧ w'.cell? ⟨w.heap.size + 1, 0, none⟩ = some (.int .u64 ph) ∧ w'.cell? ⟨w.heap.size + 1, 1, none⟩ = some (.int .u64 ql))
        ((go_split_ands; (repeat' apply And.intro) <;> (repeat' (first | with_reducible assumption | with_reducible refine keepD ?_ | (refine cell_later hbq ?_; assumption)))))
        (first
          | (go_at_call_of 11 (#[Value.agg #[Value.int IntKind.u64 ph, Value.int IntKind.u64 pl]] : Array Value); refine (HX.out _).mono ?_; rintro e t0 ⟨rfl, hbq⟩; have B0 : Below wb.heap.size wb t0 := below_step (by (repeat' (first | with_reducible assumption | with_reducible exact Below.refl _ _ | with_reducible refine below_drew1 ?_))) hbq)
          | (go_at_call_of 11 (#[Value.agg #[Value.int IntKind.u64 ph, Value.int IntKind.u64 ql]] : Array Value); refine (HY.out _).mono ?_; rintro e t1 ⟨rfl, hbq⟩; have B1 : Below wb.heap.size wb t1 := below_step (by (repeat' (first | with_reducible assumption | with_reducible exact Below.refl _ _ | with_reducible refine below_drew1 ?_))) hbq)
          | (go_at_call_of 14 (#[Value.agg #[Value.int IntKind.u64 ph, Value.int IntKind.u64 pl], Value.agg #[Value.int IntKind.u64 ph, Value.int IntKind.u64 ql]] : Array Value); refine (HPQ.out _).mono ?_; rintro e t2 ⟨rfl, hbq⟩; have B2 : Below wb.heap.size wb t2 := below_step (by (repeat' (first | with_reducible assumption | with_reducible exact Below.refl _ _ | with_reducible refine below_drew1 ?_))) hbq)
          | (go_at_call_of 14 (#[Value.agg #[Value.int IntKind.u64 ph, Value.int IntKind.u64 ql], Value.agg #[Value.int IntKind.u64 ph, Value.int IntKind.u64 pl]] : Array Value); refine (HQP.out _).mono ?_; rintro e t3 ⟨rfl, hbq⟩; have B3 : Below wb.heap.size wb t3 := below_step (by (repeat' (first | with_reducible assumption | with_reducible exact Below.refl _ _ | with_reducible refine below_drew1 ?_))) hbq)
          | (go_at_call_of 14 (#[Value.agg #[Value.int IntKind.u64 ph, Value.int IntKind.u64 pl], Value.agg #[Value.int IntKind.u64 ph, Value.int IntKind.u64 pl]] : Array Value); refine (HPP.out _).mono ?_; rintro e t4 ⟨rfl, hbq⟩; have B4 : Below wb.heap.size wb t4 := below_step (by (repeat' (first | with_reducible assumption | with_reducible exact Below.refl _ _ | with_reducible refine below_drew1 ?_))) hbq)
          | (go_at_call_of 15 (#[Value.agg (bl x).toArray, Value.agg (bl y).toArray] : Array Value); refine (HC.out _).mono ?_; rintro e t5 ⟨rfl, hbq⟩; have B5 : Below wb.heap.size wb t5 := below_step (by (repeat' (first | with_reducible assumption | with_reducible exact Below.refl _ _ | with_reducible refine below_drew1 ?_))) hbq))
    go_wp2_with fail
    go_ret
    exact ⟨rfl, below_step hB2 (by assumption)⟩
/-- how two pairs compare -/
def c2 (p q r s : Int) : Int := if p < r ∨ (p = r ∧ q < s) then (-1 : Int) else if p = r ∧ q = s then 0 else 1
theorem c2_swap (p q r s : Int) : -c2 r s p q = c2 p q r s := by
  unfold c2
  by_cases h1 : p < r
  · rw [if_neg (by omega), if_neg (by omega), if_pos (by omega)]
  · by_cases h2 : r < p
    · rw [if_pos (by omega), if_neg (by omega), if_neg (by omega)]; rfl
    · by_cases h3 : q < s
      · rw [if_neg (by omega), if_neg (by omega), if_pos (by omega)]
      · by_cases h4 : s < q
        · rw [if_pos (by omega), if_neg (by omega), if_neg (by omega)]; rfl
        · rw [if_neg (by omega), if_pos (by omega), if_neg (by omega), if_pos (by omega)]; rfl
theorem c2_small (p q r s : Int) : -1 ≤ c2 p q r s ∧ c2 p q r s ≤ 1 := by
  unfold c2; split
  · omega
  · split <;> omega
theorem pv_toNat {hi lo : Int} (h0 : 0 ≤ hi) (h1 : hi < 18446744073709551616) (l0 : 0 ≤ lo) (l1 : lo < 18446744073709551616) : (pv hi lo).toNat = 2 ^ 64 * hi.toNat + lo.toNat := by
  unfold pv; rw [BitVec.toNat_ofNat]; exact Nat.mod_eq_of_lt (by omega)
theorem pair_calls {p q r s : Int} (w : World) : Calls Try.prog 14 #[.agg #[.int .u64 p, .int .u64 q], .agg #[.int .u64 r, .int .u64 s]] w (Ret (.int .i64 (c2 p q r s)) w) :=
  wide_Pair_Compare.calls 1 p q r s _ w (cmp_f (Nat.le_refl _) p q r s)
theorem walk (ph pl qz ql : Int) (same : Bool) (w : World) (wa : (Lit.int .u64 ph).wf = true) (wb : (Lit.int .u64 pl).wf = true) (wc : (Lit.int .u64 qz).wf = true) (wd : (Lit.int .u64 ql).wf = true) :
    Calls Try.prog 4 #[.agg #[.int .u64 ph, .int .u64 pl], .agg #[.int .u64 qz, .int .u64 ql], .bool same] w (Ret (.bool true) w) := by
  have ha := bounds_u64 wa
  have hb := bounds_u64 wb
  have hc := bounds_u64 wc
  have hd := bounds_u64 wd
  obtain ⟨qh, hq⟩ : ∃ qh, (if same then ph else qz) = qh := ⟨_, rfl⟩
  have he : 0 ≤ qh ∧ qh ≤ 18446744073709551615 := by rw [← hq]; split <;> assumption
  have hn := c2_small qh ql ph pl
  refine pairs ph pl qz qh ql (c2 ph pl qh ql) (c2 qh ql ph pl) same (pv ph pl) (pv qh ql) w hq ?_ ?_ (hid fun w => Arr3.bits ph pl w (by omega) (by omega) (by omega) (by omega)) (hid fun w => Arr3.bits qh ql w (by omega) (by omega) (by omega) (by omega)) (hid fun w => cmp _ _ w _ ?_ ?_ ?_) (hid pair_calls) (hid pair_calls) (hid fun w => ?_)
  · rw [w64 (by omega) (by omega)]; exact c2_swap _ _ _ _
  · rw [IntKind.wrap_i64, c2_swap]; have := c2_small ph pl qh ql; omega
  · intro e
    have e1 := congrArg BitVec.toNat e
    rw [pv_toNat (by omega) (by omega) (by omega) (by omega), pv_toNat (by omega) (by omega) (by omega) (by omega)] at e1
    unfold c2; rw [if_neg (by omega), if_pos (by omega)]
  · rw [pv_toNat (by omega) (by omega) (by omega) (by omega), pv_toNat (by omega) (by omega) (by omega) (by omega)]
    intro e
    unfold c2; rw [if_neg (by omega), if_neg (by omega)]
  · rw [pv_toNat (by omega) (by omega) (by omega) (by omega), pv_toNat (by omega) (by omega) (by omega) (by omega)]
    intro e
    unfold c2; rw [if_pos (by omega)]
  · have := pair_calls (p := ph) (q := pl) (r := ph) (s := pl) w
    have e : c2 ph pl ph pl = 0 := by unfold c2; rw [if_neg (by omega), if_pos ⟨rfl, rfl⟩]
    rwa [e] at this
end Go.Proofs.Ytdnflmnlbcjnlaa.WalkComp
