-- PRINTED BY print.sh 35421559b90ae4d0a3588c463048766b98c2df88dd9212a6774a882060cdf62d: not written by this session
import Derived.Test.YtfjgamiiddcffaaPPlaneZerox0
import Derived.Test.YtfjgamiiddcffaaPPlaneZerox1
import Derived.Test.YtfjgamiiddcffaaPPlaneZerox3
namespace Go.Proofs.Ytfjgamiiddcffaa.PPlaneZero
open Go.RowKit Go.Proofs.YtfjgamiiddcffaaW.PrintWords Go.Proofs.YtfjgamiiddcffaaW.PrintLast Go.Proofs.YtfjgamiiddcffaaW.PrintMore
attribute [local go_sem] max2_int min2_int max_two min_two max_three min_three max_four min_four   -- for this text's walks alone
set_option linter.unusedVariables false
set_option linter.unusedSimpArgs false

attribute [local go_sem high] eqA51
/-! ### wide_Pair_Compare: function 23 -/
def wide_Pair_Compare.j0 : Nat → Bool → Int → Int → Int → Int → Option (Int)
  | 0, _, _, _, _, _ => none
  | k + 1, x5, x165000, x165001, x166000, x166001 => if x5 = true then (some (-1)) else (if (x165000 == x166000 && (x165001 == x166001)) = true then (some 0) else (some 1))
def wide_Pair_Compare.f (k : Nat) (a0_0 : Int) (a0_1 : Int) (a1_0 : Int) (a1_1 : Int) : Option (Int) := if a0_0 < a1_0 then (wide_Pair_Compare.j0 k true a0_0 a0_1 a1_0 a1_1) else (if a0_0 = a1_0 then (wide_Pair_Compare.j0 k (decide (a0_1 < a1_1)) a0_0 a0_1 a1_0 a1_1) else (wide_Pair_Compare.j0 k false a0_0 a0_1 a1_0 a1_1))
theorem wide_Pair_Compare.mono_l : ∀ k, (∀ y0 y1 y2 y3 y4, LeO (wide_Pair_Compare.j0 k y0 y1 y2 y3 y4) (wide_Pair_Compare.j0 (k + 1) y0 y1 y2 y3 y4))
  | 0 => fun _ _ _ _ _ r h => by simp [wide_Pair_Compare.j0] at h
  | k + 1 => by
    have ih0 := wide_Pair_Compare.mono_l k
    · intro y0 y1 y2 y3 y4
      unfold wide_Pair_Compare.j0
      repeat' first
      | (with_reducible exact ih0 _ _ _ _ _)
      | (with_reducible exact LeO.refl _)
      | (with_reducible exact LeO.none _)
      | (with_reducible refine LeO.ite ?_ ?_)
      | (with_reducible refine LeO.bind ?_ (fun _ => ?_))
      | exact ih0 _ _ _ _ _
      | exact LeO.none _
      | refine LeO.ite ?_ ?_
      | refine LeO.bind ?_ (fun _ => ?_)
theorem wide_Pair_Compare.mono : ∀ a0 a1 a2 a3 k, LeO (wide_Pair_Compare.f k a0 a1 a2 a3) (wide_Pair_Compare.f (k + 1) a0 a1 a2 a3) := by
  intro a0 a1 a2 a3 k
  have ih0 := wide_Pair_Compare.mono_l k
  unfold wide_Pair_Compare.f
  repeat' first
      | (with_reducible exact ih0 _ _ _ _ _)
      | (with_reducible exact LeO.refl _)
      | (with_reducible exact LeO.none _)
      | (with_reducible refine LeO.ite ?_ ?_)
      | (with_reducible refine LeO.bind ?_ (fun _ => ?_))
      | exact ih0 _ _ _ _ _
      | exact LeO.none _
      | refine LeO.ite ?_ ?_
      | refine LeO.bind ?_ (fun _ => ?_)
set_option maxHeartbeats 8000000 in
set_option maxRecDepth 100000 in
theorem wide_Pair_Compare.calls (k : Nat) (a0_0 : Int) (a0_1 : Int) (a1_0 : Int) (a1_1 : Int) (r : Int) (w : World) (h : wide_Pair_Compare.f k a0_0 a0_1 a1_0 a1_1 = some r) :
    Calls Try.prog 23 #[.agg #[.int .u64 a0_0, .int .u64 a0_1], .agg #[.int .u64 a1_0, .int .u64 a1_1]] w fun e w' => e = .returned (.int .i64 r) ∧ Below w.heap.size w w' := by
  have hu51 := Try.underlying51
  have HB := Aside0.mk (Below.refl w.heap.size w)
  have H : (if a0_0 < a1_0 then (wide_Pair_Compare.j0 k true a0_0 a0_1 a1_0 a1_1) else (if a0_0 = a1_0 then (wide_Pair_Compare.j0 k (decide (a0_1 < a1_1)) a0_0 a0_1 a1_0 a1_1) else (wide_Pair_Compare.j0 k false a0_0 a0_1 a1_0 a1_1))) = some r := h
  clear h
  have HC3 := Aside0.mk H
  clear H
  go_enter Try.func23, Try.ntmps23
  go_upto_region 1 with (first | ((with_reducible refine gate_dst (N := 2) rfl ?_); refine box_event ?hg (N := 2) ?hd (cs := #[.int .u64 a0_0, .int .u64 a0_1]) (t := 51) ?hr ?_; (case hd => rfl); (case hg => rfl); (case hr => first | (go_simp; done) | (go_simp; rfl)); intro gb164 hg w4 hbox hb; have n0_ := Aside0.mk (below_step (by repeat (first | (with_reducible first | exact HB.out | apply below_alloc | apply pw_below_drewN | apply below_drew1) | exact HB.out)) hb); have n1_ := Aside0.mk (hbox); have n2_ := Aside0.mk ((by rw [hg]; exact (below_size (by repeat (first | (with_reducible first | exact HB.out | apply below_alloc | apply pw_below_drewN | apply below_drew1) | exact HB.out))) : w.heap.size ≤ gb164)); have n3_ := Aside0.mk ((by rw [hg]; exact (below_size (by repeat (first | (with_reducible first | exact HB.out | apply below_alloc | apply pw_below_drewN | apply below_drew1) | exact HB.out))) : w.heap.size ≤ gb164)); clear HB; have HB := n0_; have BK164 := n1_; have GW164 := n2_; have GE164 := n3_; clear n0_ n1_ n2_ n3_; clear hb hbox hg) | ((with_reducible refine gate_dst (N := 3) rfl ?_); refine box_event ?hg (N := 3) ?hd (cs := #[.int .u64 a1_0, .int .u64 a1_1]) (t := 51) ?hr ?_; (case hd => rfl); (case hg => rfl); (case hr => first | (go_simp; done) | (go_simp; rfl)); intro gb165 hg w5 hbox hb; have n0_ := Aside0.mk (blk_below (g := gb164) (o := .cells #[.int .u64 a0_0, .int .u64 a0_1] 51 (0, 0)) (by (with_reducible repeat (first | refine blk_drewN ?_ _ | refine blk_drew ?_ | refine blk_alloc ?_ _)); exact BK164.out) hb); have n1_ := Aside0.mk (below_step (by repeat (first | (with_reducible first | exact HB.out | apply below_alloc | apply pw_below_drewN | apply below_drew1 | refine below_set ?_ GE164.out) | exact HB.out)) hb); have n2_ := Aside0.mk (hbox); have n3_ := Aside0.mk ((by rw [hg]; exact (below_size (by repeat (first | (with_reducible first | exact HB.out | apply below_alloc | apply pw_below_drewN | apply below_drew1 | refine below_set ?_ GE164.out) | exact HB.out))) : w.heap.size ≤ gb165)); have n4_ := Aside0.mk ((by rw [hg]; exact (below_size (by repeat (first | (with_reducible first | exact HB.out | apply below_alloc | apply pw_below_drewN | apply below_drew1 | refine below_set ?_ GE164.out) | exact HB.out))) : w.heap.size ≤ gb165)); have n5_ := Aside0.mk ((by rw [hg]; exact Nat.ne_of_lt (blk_lt (g := gb164) (o := .cells #[.int .u64 a0_0, .int .u64 a0_1] 51 (0, 0)) (by (with_reducible repeat (first | refine blk_drewN ?_ _ | refine blk_drew ?_ | refine blk_alloc ?_ _)); exact BK164.out)) : gb164 ≠ gb165)); have n6_ := Aside0.mk ((by rw [hg]; exact Nat.ne_of_gt (blk_lt (g := gb164) (o := .cells #[.int .u64 a0_0, .int .u64 a0_1] 51 (0, 0)) (by (with_reducible repeat (first | refine blk_drewN ?_ _ | refine blk_drew ?_ | refine blk_alloc ?_ _)); exact BK164.out)) : gb165 ≠ gb164)); clear BK164; clear HB; have BK164 := n0_; have HB := n1_; have BK165 := n2_; have GW165 := n3_; have GE165 := n4_; have NB164_165 := n5_; have NB165_164 := n6_; clear n0_ n1_ n2_ n3_ n4_ n5_ n6_; clear hb hbox hg))
  (try simp only [Act.put, List.setIfInBounds_toArray, List.set_cons_zero, List.set_cons_succ])
  go_cut [5] (fun v5 wc => ∃ (kq : Nat) (x5_2 : Bool), v5 = .bool x5_2 ∧ Aside0 (wide_Pair_Compare.j0 kq x5_2 a0_0 a0_1 a1_0 a1_1 = some r) ∧ Aside0 (kq ≤ k) ∧ Aside0 (wc.heap[gb164]? = some (.cells #[.int .u64 a0_0, .int .u64 a0_1] 51 (0, 0))) ∧ Aside0 (wc.heap[gb165]? = some (.cells #[.int .u64 a1_0, .int .u64 a1_1] 51 (0, 0))) ∧ Aside0 (Below w.heap.size w wc))
  case first =>
    have H := HC3.out
    clear HC3
    by_cases c6 : a0_0 < a1_0
    · rw [if_pos c6] at H
      have c6b0 : decide (a0_0 < a1_0) = true := decide_eq_true c6
      clear c6
      (first | rw [c6b0] | (simp only [i64_w, i32_w]; rw [c6b0]) | skip)
      have H' := Aside0.mk H
      clear H
      have hnb7 := NB164_165.out
      have hnc7 := NB165_164.out
      have hcz8_0 : w5.cell? ⟨gb164, 0, none⟩ = some (.int .u64 a0_0) := (blk_cell BK164.out 0).trans rfl
      have hcz8_1 : w5.cell? ⟨gb164, 1, none⟩ = some (.int .u64 a0_1) := (blk_cell BK164.out 1).trans rfl
      have hfz8_0 := blk_frozen BK164.out 0
      have hfz8_1 := blk_frozen BK164.out 1
      have hcz9_0 : w5.cell? ⟨gb165, 0, none⟩ = some (.int .u64 a1_0) := (blk_cell BK165.out 0).trans rfl
      have hcz9_1 : w5.cell? ⟨gb165, 1, none⟩ = some (.int .u64 a1_1) := (blk_cell BK165.out 1).trans rfl
      have hfz9_0 := blk_frozen BK165.out 0
      have hfz9_1 := blk_frozen BK165.out 1
      go_wp2
      go_meet
      case rel => exact ⟨_, (true), (by first | rfl | (simp; done) | (simp [*]; done)), H', ⟨by first | omega | exact Nat.le_refl _⟩, ⟨by (with_reducible repeat (first | refine blk_drewN ?_ _ | refine blk_drew ?_ | refine blk_alloc ?_ _)); exact BK164.out⟩, ⟨by (with_reducible repeat (first | refine blk_drewN ?_ _ | refine blk_drew ?_ | refine blk_alloc ?_ _)); exact BK165.out⟩, ⟨by repeat (first | (with_reducible first | exact HB.out | apply below_alloc | apply pw_below_drewN | apply below_drew1 | refine below_set ?_ GE164.out | refine below_set ?_ GE165.out) | exact HB.out)⟩⟩
    · rw [if_neg c6] at H
      have c6b0 : decide (a0_0 < a1_0) = false := decide_eq_false c6
      clear c6
      (first | rw [c6b0] | (simp only [i64_w, i32_w]; rw [c6b0]) | skip)
      by_cases c10 : a0_0 = a1_0
      · rw [if_pos c10] at H
        have c10b0 : (a0_0 == a1_0) = true := beq_iff_eq.mpr c10
        have c10b1 : (a0_0 != a1_0) = false := bne_eq_false_iff_eq.mpr c10
        clear c10
        have H' := Aside0.mk H
        clear H
        have hnb11 := NB164_165.out
        have hnc11 := NB165_164.out
        have hcz12_0 : w5.cell? ⟨gb164, 0, none⟩ = some (.int .u64 a0_0) := (blk_cell BK164.out 0).trans rfl
        have hcz12_1 : w5.cell? ⟨gb164, 1, none⟩ = some (.int .u64 a0_1) := (blk_cell BK164.out 1).trans rfl
        have hfz12_0 := blk_frozen BK164.out 0
        have hfz12_1 := blk_frozen BK164.out 1
        have hcz13_0 : w5.cell? ⟨gb165, 0, none⟩ = some (.int .u64 a1_0) := (blk_cell BK165.out 0).trans rfl
        have hcz13_1 : w5.cell? ⟨gb165, 1, none⟩ = some (.int .u64 a1_1) := (blk_cell BK165.out 1).trans rfl
        have hfz13_0 := blk_frozen BK165.out 0
        have hfz13_1 := blk_frozen BK165.out 1
        go_wp2
        go_meet
        case rel => exact ⟨_, (decide (a0_1 < a1_1)), (by first | rfl | (simp; done) | (simp [*]; done)), H', ⟨by first | omega | exact Nat.le_refl _⟩, ⟨by (with_reducible repeat (first | refine blk_drewN ?_ _ | refine blk_drew ?_ | refine blk_alloc ?_ _)); exact BK164.out⟩, ⟨by (with_reducible repeat (first | refine blk_drewN ?_ _ | refine blk_drew ?_ | refine blk_alloc ?_ _)); exact BK165.out⟩, ⟨by repeat (first | (with_reducible first | exact HB.out | apply below_alloc | apply pw_below_drewN | apply below_drew1 | refine below_set ?_ GE164.out | refine below_set ?_ GE165.out) | exact HB.out)⟩⟩
      · rw [if_neg c10] at H
        have c10b0 : (a0_0 == a1_0) = false := beq_eq_false_iff_ne.mpr c10
        have c10b1 : (a0_0 != a1_0) = true := bne_iff_ne.mpr c10
        have H' := Aside0.mk H
        clear H
        have hnb14 := NB164_165.out
        have hnc14 := NB165_164.out
        have hcz15_0 : w5.cell? ⟨gb164, 0, none⟩ = some (.int .u64 a0_0) := (blk_cell BK164.out 0).trans rfl
        have hcz15_1 : w5.cell? ⟨gb164, 1, none⟩ = some (.int .u64 a0_1) := (blk_cell BK164.out 1).trans rfl
        have hfz15_0 := blk_frozen BK164.out 0
        have hfz15_1 := blk_frozen BK164.out 1
        have hcz16_0 : w5.cell? ⟨gb165, 0, none⟩ = some (.int .u64 a1_0) := (blk_cell BK165.out 0).trans rfl
        have hcz16_1 : w5.cell? ⟨gb165, 1, none⟩ = some (.int .u64 a1_1) := (blk_cell BK165.out 1).trans rfl
        have hfz16_0 := blk_frozen BK165.out 0
        have hfz16_1 := blk_frozen BK165.out 1
        go_wp2
        go_meet
        case rel => exact ⟨_, (false), (by first | rfl | (simp; done) | (simp [*]; done)), H', ⟨by first | omega | exact Nat.le_refl _⟩, ⟨by (with_reducible repeat (first | refine blk_drewN ?_ _ | refine blk_drew ?_ | refine blk_alloc ?_ _)); exact BK164.out⟩, ⟨by (with_reducible repeat (first | refine blk_drewN ?_ _ | refine blk_drew ?_ | refine blk_alloc ?_ _)); exact BK165.out⟩, ⟨by repeat (first | (with_reducible first | exact HB.out | apply below_alloc | apply pw_below_drewN | apply below_drew1 | refine below_set ?_ GE164.out | refine below_set ?_ GE165.out) | exact HB.out)⟩⟩
  case rest =>
    clear HC3
    try clear c1
    try clear c2
    try clear p2
    try clear c6
    try clear c6b0
    try clear c7
    try clear c10
    try clear c10b0
    try clear c10b1
    try clear c11
    try clear c14
    try clear hcz12_0
    try clear hcz12_1
    try clear hcz13_0
    try clear hcz13_1
    try clear hcz15_0
    try clear hcz15_1
    try clear hcz16_0
    try clear hcz16_1
    try clear hcz8_0
    try clear hcz8_1
    try clear hcz9_0
    try clear hcz9_1
    try clear hfz12_0
    try clear hfz12_1
    try clear hfz13_0
    try clear hfz13_1
    try clear hfz15_0
    try clear hfz15_1
    try clear hfz16_0
    try clear hfz16_1
    try clear hfz8_0
    try clear hfz8_1
    try clear hfz9_0
    try clear hfz9_1
    obtain ⟨kq, x5_2, rfl, HA, HJ2, BK164, BK165, HB⟩ := hcut
    cases kq with
    | zero => exact absurd HA.out (by simp [wide_Pair_Compare.j0])
    | succ kj2 =>
      have H := HA.out
      clear HA
      simp only [wide_Pair_Compare.j0] at H
      by_cases c17 : x5_2 = true
      · subst c17
        have H1 : (some (-1)) = some r := by rw [if_pos rfl] at H; exact H
        clear H
        have H := H1
        clear H1
        obtain rfl := Option.some.inj H
        go_wp2
        go_ret
        exact ⟨by first | rfl | (simp [errW_none, errW_some] <;> rfl) | (simp [*, errW_none, errW_some] <;> rfl), by repeat (first | (with_reducible first | exact HB.out | apply below_alloc | apply pw_below_drewN | apply below_drew1 | refine below_set ?_ GE164.out | refine below_set ?_ GE165.out) | exact HB.out)⟩
      · replace c17 := Bool.eq_false_iff.mpr c17
        subst c17
        have H1 : (if (a0_0 == a1_0 && (a0_1 == a1_1)) = true then (some 0) else (some 1)) = some r := by rw [if_neg (show ¬ (false = true) by decide)] at H; exact H
        clear H
        have H := H1
        clear H1
        by_cases c18 : (a0_0 == a1_0 && (a0_1 == a1_1)) = true
        · rw [if_pos c18] at H
          have c18b0 : (a0_0 == a1_0 && (a0_1 == a1_1)) = true := c18
          (try (have c18b1 : decide (a0_0 = a1_0 && (a0_1 == a1_1)) = true := by simpa using c18))
          (try (have c18b2 : (a0_0 == a1_0 && (a0_1 == a1_1)) = true := by simpa using c18))
          clear c18
          obtain rfl := Option.some.inj H
          have hnb19 := NB164_165.out
          have hnc19 := NB165_164.out
          have hcz20_0 : wc.cell? ⟨gb164, 0, none⟩ = some (.int .u64 a0_0) := (blk_cell BK164.out 0).trans rfl
          have hcz20_1 : wc.cell? ⟨gb164, 1, none⟩ = some (.int .u64 a0_1) := (blk_cell BK164.out 1).trans rfl
          have hfz20_0 := blk_frozen BK164.out 0
          have hfz20_1 := blk_frozen BK164.out 1
          have hcz21_0 : wc.cell? ⟨gb165, 0, none⟩ = some (.int .u64 a1_0) := (blk_cell BK165.out 0).trans rfl
          have hcz21_1 : wc.cell? ⟨gb165, 1, none⟩ = some (.int .u64 a1_1) := (blk_cell BK165.out 1).trans rfl
          have hfz21_0 := blk_frozen BK165.out 0
          have hfz21_1 := blk_frozen BK165.out 1
          go_wp2
          go_ret
          exact ⟨by first | rfl | (simp [errW_none, errW_some] <;> rfl) | (simp [*, errW_none, errW_some] <;> rfl), by repeat (first | (with_reducible first | exact HB.out | apply below_alloc | apply pw_below_drewN | apply below_drew1 | refine below_set ?_ GE164.out | refine below_set ?_ GE165.out) | exact HB.out)⟩
        · rw [if_neg c18] at H
          have c18b0 : (a0_0 == a1_0 && (a0_1 == a1_1)) = false := by simpa using c18
          (try (have c18b1 : decide (a0_0 = a1_0 && (a0_1 == a1_1)) = false := by simpa using c18))
          (try (have c18b2 : (a0_0 == a1_0 && (a0_1 == a1_1)) = false := by simpa using c18))
          (try (have c18b3 : ¬ (a0_0 = a1_0 && (a0_1 == a1_1)) := by simpa using c18))
          clear c18
          obtain rfl := Option.some.inj H
          have hnb22 := NB164_165.out
          have hnc22 := NB165_164.out
          have hcz23_0 : wc.cell? ⟨gb164, 0, none⟩ = some (.int .u64 a0_0) := (blk_cell BK164.out 0).trans rfl
          have hcz23_1 : wc.cell? ⟨gb164, 1, none⟩ = some (.int .u64 a0_1) := (blk_cell BK164.out 1).trans rfl
          have hfz23_0 := blk_frozen BK164.out 0
          have hfz23_1 := blk_frozen BK164.out 1
          have hcz24_0 : wc.cell? ⟨gb165, 0, none⟩ = some (.int .u64 a1_0) := (blk_cell BK165.out 0).trans rfl
          have hcz24_1 : wc.cell? ⟨gb165, 1, none⟩ = some (.int .u64 a1_1) := (blk_cell BK165.out 1).trans rfl
          have hfz24_0 := blk_frozen BK165.out 0
          have hfz24_1 := blk_frozen BK165.out 1
          go_wp2
          go_ret
          exact ⟨by first | rfl | (simp [errW_none, errW_some] <;> rfl) | (simp [*, errW_none, errW_some] <;> rfl), by repeat (first | (with_reducible first | exact HB.out | apply below_alloc | apply pw_below_drewN | apply below_drew1 | refine below_set ?_ GE164.out | refine below_set ?_ GE165.out) | exact HB.out)⟩

/-! ### wide_Less: function 21 -/
def wide_Less.f (k : Nat) (a0 : Int) (a1 : Int) (a2 : Int) (a3 : Int) : Option (Int) := (wide_Mul.f (IntKind.u64.wrap (a0)) (IntKind.u64.wrap (a3))).bind fun bt166 => ((wide_Mul.f (IntKind.u64.wrap (a2)) (IntKind.u64.wrap (a1))).bind fun bt168 => ((wide_Pair_Compare.f k bt166.1 bt166.2 bt168.1 bt168.2).bind fun t170 => (some t170)))
theorem wide_Less.mono : ∀ a0 a1 a2 a3 k, LeO (wide_Less.f k a0 a1 a2 a3) (wide_Less.f (k + 1) a0 a1 a2 a3) := by
  intro a0 a1 a2 a3 k
  unfold wide_Less.f
  repeat' first
      | (with_reducible exact wide_Pair_Compare.mono _ _ _ _ _)
      | (with_reducible exact LeO.refl _)
      | (with_reducible exact LeO.none _)
      | (with_reducible refine LeO.ite ?_ ?_)
      | (with_reducible refine LeO.bind ?_ (fun _ => ?_))
      | exact wide_Pair_Compare.mono _ _ _ _ _
      | exact LeO.none _
      | refine LeO.ite ?_ ?_
      | refine LeO.bind ?_ (fun _ => ?_)
set_option maxHeartbeats 8000000 in
set_option maxRecDepth 100000 in
theorem wide_Less.calls (k : Nat) (a0 : Int) (a1 : Int) (a2 : Int) (a3 : Int) (r : Int) (w : World) (h : wide_Less.f k a0 a1 a2 a3 = some r) :
    Calls Try.prog 21 #[.int .i64 a0, .int .i64 a1, .int .i64 a2, .int .i64 a3] w fun e w' => e = .returned (.int .i64 r) ∧ Below w.heap.size w w' := by
  have HB := Aside0.mk (Below.refl w.heap.size w)
  have H : ((wide_Mul.f (IntKind.u64.wrap (a0)) (IntKind.u64.wrap (a3))).bind fun bt166 => ((wide_Mul.f (IntKind.u64.wrap (a2)) (IntKind.u64.wrap (a1))).bind fun bt168 => ((wide_Pair_Compare.f k bt166.1 bt166.2 bt168.1 bt168.2).bind fun t170 => (some t170)))) = some r := h
  clear h
  replace H := Option.bind_eq_some_iff.mp H
  obtain ⟨⟨t166, t167⟩, A50, H⟩ := H
  replace H : ((wide_Mul.f (IntKind.u64.wrap (a2)) (IntKind.u64.wrap (a1))).bind fun bt168 => ((wide_Pair_Compare.f k t166 t167 bt168.1 bt168.2).bind fun t170 => (some t170))) = some r := H
  have A5 := Aside0.mk A50
  clear A50
  replace H := Option.bind_eq_some_iff.mp H
  obtain ⟨⟨t168, t169⟩, A60, H⟩ := H
  replace H : ((wide_Pair_Compare.f k t166 t167 t168 t169).bind fun t170 => (some t170)) = some r := H
  have A6 := Aside0.mk A60
  clear A60
  replace H := Option.bind_eq_some_iff.mp H
  obtain ⟨t170, A70, H⟩ := H
  replace H : (some t170) = some r := H
  have A7 := Aside0.mk A70
  clear A70
  obtain rfl := Option.some.inj H
  go_enter Try.func21, Try.ntmps21
  go_wp2_with (first | ((with_reducible refine gate_callee (f := 22) rfl ?_); refine goesL_ (some 13) rfl rfl Try.func22 (by kernel_rfl) rfl #[.int .u64 (IntKind.u64.wrap (a0)), .int .u64 (IntKind.u64.wrap (a3))] rfl (by (try simp only [List.map_toArray, List.map_cons, List.map_nil]); first | done | rfl | (simp only [List.length_drop, List.length_take]; rfl)) ?_; (with_reducible refine (wide_Mul.calls (IntKind.u64.wrap (a0)) (IntKind.u64.wrap (a3)) t166 t167 _ A5.out).mono ?_); rintro e w8 ⟨rfl, hb⟩; refine ⟨_, rfl, ?_⟩; have n0_ := Aside0.mk (below_step (by repeat (first | (with_reducible first | exact HB.out | apply below_alloc | apply pw_below_drewN | apply below_drew1) | exact HB.out)) hb); clear HB; have HB := n0_; clear n0_; (try clear hb); (try clear hb2); (try clear hk); (try clear hi)) | ((with_reducible refine gate_callee (f := 22) rfl ?_); refine goesL_ (some 18) rfl rfl Try.func22 (by kernel_rfl) rfl #[.int .u64 (IntKind.u64.wrap (a2)), .int .u64 (IntKind.u64.wrap (a1))] rfl (by (try simp only [List.map_toArray, List.map_cons, List.map_nil]); first | done | rfl | (simp only [List.length_drop, List.length_take]; rfl)) ?_; (with_reducible refine (wide_Mul.calls (IntKind.u64.wrap (a2)) (IntKind.u64.wrap (a1)) t168 t169 _ A6.out).mono ?_); rintro e w9 ⟨rfl, hb⟩; refine ⟨_, rfl, ?_⟩; have n0_ := Aside0.mk (below_step (by repeat (first | (with_reducible first | exact HB.out | apply below_alloc | apply pw_below_drewN | apply below_drew1) | exact HB.out)) hb); clear HB; have HB := n0_; clear n0_; (try clear hb); (try clear hb2); (try clear hk); (try clear hi)) | ((with_reducible refine gate_callee (f := 23) rfl ?_); refine goesL_ (some 19) rfl rfl Try.func23 (by kernel_rfl) rfl #[.agg #[.int .u64 t166, .int .u64 t167], .agg #[.int .u64 t168, .int .u64 t169]] rfl (by (try simp only [List.map_toArray, List.map_cons, List.map_nil]); first | done | rfl | (simp only [List.length_drop, List.length_take]; rfl)) ?_; (with_reducible refine (wide_Pair_Compare.calls k t166 t167 t168 t169 t170 _ A7.out).mono ?_); rintro e w10 ⟨rfl, hb⟩; refine ⟨_, rfl, ?_⟩; have n0_ := Aside0.mk (below_step (by repeat (first | (with_reducible first | exact HB.out | apply below_alloc | apply pw_below_drewN | apply below_drew1) | exact HB.out)) hb); clear HB; have HB := n0_; clear n0_; (try clear hb); (try clear hb2); (try clear hk); (try clear hi)))
  go_ret
  exact ⟨by first | rfl | (simp [errW_none, errW_some] <;> rfl) | (simp [*, errW_none, errW_some] <;> rfl), by repeat (first | (with_reducible first | exact HB.out | apply below_alloc | apply pw_below_drewN | apply below_drew1) | exact HB.out)⟩

/-! ### root_Compare: function 16 -/
def root_Compare.f (k : Nat) (a0_0 : Int) (a0_1 : Int) (a1_0 : Int) (a1_1 : Int) : Option (Int) := (wide_Less.f k a0_0 a0_1 a1_0 a1_1).bind fun t173 => (some t173)
theorem root_Compare.mono : ∀ a0 a1 a2 a3 k, LeO (root_Compare.f k a0 a1 a2 a3) (root_Compare.f (k + 1) a0 a1 a2 a3) := by
  intro a0 a1 a2 a3 k
  unfold root_Compare.f
  repeat' first
      | (with_reducible exact wide_Less.mono _ _ _ _ _)
      | (with_reducible exact LeO.refl _)
      | (with_reducible exact LeO.none _)
      | (with_reducible refine LeO.ite ?_ ?_)
      | (with_reducible refine LeO.bind ?_ (fun _ => ?_))
      | exact wide_Less.mono _ _ _ _ _
      | exact LeO.none _
      | refine LeO.ite ?_ ?_
      | refine LeO.bind ?_ (fun _ => ?_)
set_option maxHeartbeats 8000000 in
set_option maxRecDepth 100000 in
theorem root_Compare.calls (k : Nat) (a0_0 : Int) (a0_1 : Int) (a1_0 : Int) (a1_1 : Int) (r : Int) (w : World) (h : root_Compare.f k a0_0 a0_1 a1_0 a1_1 = some r) :
    Calls Try.prog 16 #[.agg #[.int .i64 a0_0, .int .i64 a0_1], .agg #[.int .i64 a1_0, .int .i64 a1_1]] w fun e w' => e = .returned (.int .i64 r) ∧ Below w.heap.size w w' := by
  have hu30 := Try.underlying30
  have HB := Aside0.mk (Below.refl w.heap.size w)
  have H : ((wide_Less.f k a0_0 a0_1 a1_0 a1_1).bind fun t173 => (some t173)) = some r := h
  clear h
  replace H := Option.bind_eq_some_iff.mp H
  obtain ⟨t173, A30, H⟩ := H
  replace H : (some t173) = some r := H
  have A3 := Aside0.mk A30
  clear A30
  obtain rfl := Option.some.inj H
  go_enter Try.func16, Try.ntmps16
  go_wp2_with (first | ((with_reducible refine gate_dst (N := 2) rfl ?_); refine box_event ?hg (N := 2) ?hd (cs := #[.int .i64 a0_0, .int .i64 a0_1]) (t := 30) ?hr ?_; (case hd => rfl); (case hg => rfl); (case hr => first | (go_simp; done) | (go_simp; rfl)); intro gb171 hg w4 hbox hb; have n0_ := Aside0.mk (below_step (by repeat (first | (with_reducible first | exact HB.out | apply below_alloc | apply pw_below_drewN | apply below_drew1) | exact HB.out)) hb); have n1_ := Aside0.mk (hbox); have n2_ := Aside0.mk ((by rw [hg]; exact (below_size (by repeat (first | (with_reducible first | exact HB.out | apply below_alloc | apply pw_below_drewN | apply below_drew1) | exact HB.out))) : w.heap.size ≤ gb171)); have n3_ := Aside0.mk ((by rw [hg]; exact (below_size (by repeat (first | (with_reducible first | exact HB.out | apply below_alloc | apply pw_below_drewN | apply below_drew1) | exact HB.out))) : w.heap.size ≤ gb171)); clear HB; have HB := n0_; have BK171 := n1_; have GW171 := n2_; have GE171 := n3_; clear n0_ n1_ n2_ n3_; clear hb hbox hg) | ((with_reducible refine gate_dst (N := 3) rfl ?_); refine box_event ?hg (N := 3) ?hd (cs := #[.int .i64 a1_0, .int .i64 a1_1]) (t := 30) ?hr ?_; (case hd => rfl); (case hg => rfl); (case hr => first | (go_simp; done) | (go_simp; rfl)); intro gb172 hg w5 hbox hb; have n0_ := Aside0.mk (blk_below (g := gb171) (o := .cells #[.int .i64 a0_0, .int .i64 a0_1] 30 (0, 0)) (by (with_reducible repeat (first | refine blk_drewN ?_ _ | refine blk_drew ?_ | refine blk_alloc ?_ _)); exact BK171.out) hb); have n1_ := Aside0.mk (below_step (by repeat (first | (with_reducible first | exact HB.out | apply below_alloc | apply pw_below_drewN | apply below_drew1 | refine below_set ?_ GE171.out) | exact HB.out)) hb); have n2_ := Aside0.mk (hbox); have n3_ := Aside0.mk ((by rw [hg]; exact (below_size (by repeat (first | (with_reducible first | exact HB.out | apply below_alloc | apply pw_below_drewN | apply below_drew1 | refine below_set ?_ GE171.out) | exact HB.out))) : w.heap.size ≤ gb172)); have n4_ := Aside0.mk ((by rw [hg]; exact (below_size (by repeat (first | (with_reducible first | exact HB.out | apply below_alloc | apply pw_below_drewN | apply below_drew1 | refine below_set ?_ GE171.out) | exact HB.out))) : w.heap.size ≤ gb172)); have n5_ := Aside0.mk ((by rw [hg]; exact Nat.ne_of_lt (blk_lt (g := gb171) (o := .cells #[.int .i64 a0_0, .int .i64 a0_1] 30 (0, 0)) (by (with_reducible repeat (first | refine blk_drewN ?_ _ | refine blk_drew ?_ | refine blk_alloc ?_ _)); exact BK171.out)) : gb171 ≠ gb172)); have n6_ := Aside0.mk ((by rw [hg]; exact Nat.ne_of_gt (blk_lt (g := gb171) (o := .cells #[.int .i64 a0_0, .int .i64 a0_1] 30 (0, 0)) (by (with_reducible repeat (first | refine blk_drewN ?_ _ | refine blk_drew ?_ | refine blk_alloc ?_ _)); exact BK171.out)) : gb172 ≠ gb171)); clear BK171; clear HB; have BK171 := n0_; have HB := n1_; have BK172 := n2_; have GW172 := n3_; have GE172 := n4_; have NB171_172 := n5_; have NB172_171 := n6_; clear n0_ n1_ n2_ n3_ n4_ n5_ n6_; clear hb hbox hg; have hnb6 := NB171_172.out; have hnc6 := NB172_171.out; have hcz7_0 : w5.cell? ⟨gb171, 0, none⟩ = some (.int .i64 a0_0) := (blk_cell BK171.out 0).trans rfl; have hcz7_1 : w5.cell? ⟨gb171, 1, none⟩ = some (.int .i64 a0_1) := (blk_cell BK171.out 1).trans rfl; have hfz7_0 := blk_frozen BK171.out 0; have hfz7_1 := blk_frozen BK171.out 1; have hcz8_0 : w5.cell? ⟨gb172, 0, none⟩ = some (.int .i64 a1_0) := (blk_cell BK172.out 0).trans rfl; have hcz8_1 : w5.cell? ⟨gb172, 1, none⟩ = some (.int .i64 a1_1) := (blk_cell BK172.out 1).trans rfl; have hfz8_0 := blk_frozen BK172.out 0; have hfz8_1 := blk_frozen BK172.out 1) | ((with_reducible refine gate_callee (f := 21) rfl ?_); refine goesL_ (some 13) rfl rfl Try.func21 (by kernel_rfl) rfl #[.int .i64 a0_0, .int .i64 a0_1, .int .i64 a1_0, .int .i64 a1_1] rfl (by (try simp only [List.map_toArray, List.map_cons, List.map_nil]); first | done | rfl | (simp only [List.length_drop, List.length_take]; rfl)) ?_; (with_reducible refine (wide_Less.calls k a0_0 a0_1 a1_0 a1_1 t173 _ A3.out).mono ?_); rintro e w9 ⟨rfl, hb⟩; refine ⟨_, rfl, ?_⟩; have n0_ := Aside0.mk (blk_below (g := gb171) (o := .cells #[.int .i64 a0_0, .int .i64 a0_1] 30 (0, 0)) (by (with_reducible repeat (first | refine blk_drewN ?_ _ | refine blk_drew ?_ | refine blk_alloc ?_ _)); exact BK171.out) hb); have n1_ := Aside0.mk (blk_below (g := gb172) (o := .cells #[.int .i64 a1_0, .int .i64 a1_1] 30 (0, 0)) (by (with_reducible repeat (first | refine blk_drewN ?_ _ | refine blk_drew ?_ | refine blk_alloc ?_ _)); exact BK172.out) hb); have n2_ := Aside0.mk (below_step (by repeat (first | (with_reducible first | exact HB.out | apply below_alloc | apply pw_below_drewN | apply below_drew1 | refine below_set ?_ GE171.out | refine below_set ?_ GE172.out) | exact HB.out)) hb); clear BK171; clear BK172; clear HB; have BK171 := n0_; have BK172 := n1_; have HB := n2_; clear n0_ n1_ n2_; (try clear hb); (try clear hb2); (try clear hk); (try clear hi)))
  go_ret
  exact ⟨by first | rfl | (simp [errW_none, errW_some] <;> rfl) | (simp [*, errW_none, errW_some] <;> rfl), by repeat (first | (with_reducible first | exact HB.out | apply below_alloc | apply pw_below_drewN | apply below_drew1 | refine below_set ?_ GE171.out | refine below_set ?_ GE172.out) | exact HB.out)⟩

-- NOT PRINTED: function 5 (punchcutlaw03_PlaneZero)

end Go.Proofs.Ytfjgamiiddcffaa.PPlaneZero
