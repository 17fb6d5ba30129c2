-- PRINTED BY print.sh 35421559b90ae4d0a3588c463048766b98c2df88dd9212a6774a882060cdf62d: not written by this session
import Derived.Test.YtccpcojknfnhpaaPRootOfx0
import Derived.Test.YtccpcojknfnhpaaPRootOfx1
import Derived.Test.YtccpcojknfnhpaaPRootOfx5
namespace Go.Proofs.Ytccpcojknfnhpaa.PRootOf
open Go.RowKit Go.Proofs.YtccpcojknfnhpaaW.PrintWords Go.Proofs.YtccpcojknfnhpaaW.PrintLast Go.Proofs.YtccpcojknfnhpaaW.PrintMore
attribute [local go_sem] max2_int min2_int max_two min_two max_three min_three max_four min_four   -- for this text's walks alone
set_option linter.unusedVariables false
set_option linter.unusedSimpArgs false

attribute [local go_sem high] eqA28
/-! ### punchcutlaw02_RootOf: function 8 -/
def punchcutlaw02_RootOf.j0 : Nat → Int → Int → Int → Bool → Int → Int → Option (Bool)
  | 0, _, _, _, _, _, _ => none
  | k + 1, x0, x1, x6, x20, x135000, x135001 => if x20 = true then (if x6 = 4 then (some (x135000 == 0 && (x135001 == 0))) else (some false)) else (if x6 = 0 then (if x135001 ≥ 1 then ((punchcutlaw02_gcd.f k x135000 x135001).bind fun t135 => (if t135 = 1 then ((wide_Less.f k x135000 x135001 x0 x1).bind fun t136 => (some (t136 == 0))) else (some false))) else (some false)) else (some false))
def punchcutlaw02_RootOf.f (k : Nat) (a0 : Int) (a1 : Int) : Option (Bool) := (punchcutlaw02_awake.f k).bind fun t130 => (if t130 = true then ((root_Of.f k a0 a1).bind fun bt131 => (if a0 < 0 then (punchcutlaw02_RootOf.j0 k a0 a1 bt131.2.2 true bt131.1 bt131.2.1) else (punchcutlaw02_RootOf.j0 k a0 a1 bt131.2.2 (decide (a1 < 1)) bt131.1 bt131.2.1))) else (some false))
theorem punchcutlaw02_RootOf.mono_l : ∀ k, (∀ y0 y1 y2 y3 y4 y5, LeO (punchcutlaw02_RootOf.j0 k y0 y1 y2 y3 y4 y5) (punchcutlaw02_RootOf.j0 (k + 1) y0 y1 y2 y3 y4 y5))
  | 0 => fun _ _ _ _ _ _ r h => by simp [punchcutlaw02_RootOf.j0] at h
  | k + 1 => by
    have ih0 := punchcutlaw02_RootOf.mono_l k
    · intro y0 y1 y2 y3 y4 y5
      unfold punchcutlaw02_RootOf.j0
      repeat' first
      | (with_reducible exact ih0 _ _ _ _ _ _)
      | (with_reducible exact punchcutlaw02_awake.mono _)
      | (with_reducible exact punchcutlaw02_gcd.mono _ _ _)
      | (with_reducible exact root_Of.mono _ _ _)
      | (with_reducible exact wide_Less.mono _ _ _ _ _)
      | (with_reducible exact LeO.refl _)
      | (with_reducible exact LeO.none _)
      | (with_reducible refine LeO.ite ?_ ?_)
      | (with_reducible refine LeO.bind ?_ (fun _ => ?_))
      | exact ih0 _ _ _ _ _ _
      | exact punchcutlaw02_awake.mono _
      | exact punchcutlaw02_gcd.mono _ _ _
      | exact root_Of.mono _ _ _
      | exact wide_Less.mono _ _ _ _ _
      | exact LeO.none _
      | refine LeO.ite ?_ ?_
      | refine LeO.bind ?_ (fun _ => ?_)
theorem punchcutlaw02_RootOf.mono : ∀ a0 a1 k, LeO (punchcutlaw02_RootOf.f k a0 a1) (punchcutlaw02_RootOf.f (k + 1) a0 a1) := by
  intro a0 a1 k
  have ih0 := punchcutlaw02_RootOf.mono_l k
  unfold punchcutlaw02_RootOf.f
  repeat' first
      | (with_reducible exact ih0 _ _ _ _ _ _)
      | (with_reducible exact punchcutlaw02_awake.mono _)
      | (with_reducible exact punchcutlaw02_gcd.mono _ _ _)
      | (with_reducible exact root_Of.mono _ _ _)
      | (with_reducible exact wide_Less.mono _ _ _ _ _)
      | (with_reducible exact LeO.refl _)
      | (with_reducible exact LeO.none _)
      | (with_reducible refine LeO.ite ?_ ?_)
      | (with_reducible refine LeO.bind ?_ (fun _ => ?_))
      | exact ih0 _ _ _ _ _ _
      | exact punchcutlaw02_awake.mono _
      | exact punchcutlaw02_gcd.mono _ _ _
      | exact root_Of.mono _ _ _
      | exact wide_Less.mono _ _ _ _ _
      | exact LeO.none _
      | refine LeO.ite ?_ ?_
      | refine LeO.bind ?_ (fun _ => ?_)
set_option maxHeartbeats 8000000 in
set_option maxRecDepth 100000 in
theorem punchcutlaw02_RootOf.calls (k : Nat) (a0 : Int) (a1 : Int) (r : Bool) (w : World) (h : punchcutlaw02_RootOf.f k a0 a1 = some r) :
    Calls Try.prog 8 #[.int .i64 a0, .int .i64 a1] w fun e w' => e = .returned (.bool r) ∧ Below w.heap.size w w' := by
  have hu28 := Try.underlying28
  have HB := Aside0.mk (Below.refl w.heap.size w)
  have H : ((punchcutlaw02_awake.f k).bind fun t130 => (if t130 = true then ((root_Of.f k a0 a1).bind fun bt131 => (if a0 < 0 then (punchcutlaw02_RootOf.j0 k a0 a1 bt131.2.2 true bt131.1 bt131.2.1) else (punchcutlaw02_RootOf.j0 k a0 a1 bt131.2.2 (decide (a1 < 1)) bt131.1 bt131.2.1))) else (some false))) = some r := h
  clear h
  replace H := Option.bind_eq_some_iff.mp H
  obtain ⟨t130, A30, H⟩ := H
  replace H : (if t130 = true then ((root_Of.f k a0 a1).bind fun bt131 => (if a0 < 0 then (punchcutlaw02_RootOf.j0 k a0 a1 bt131.2.2 true bt131.1 bt131.2.1) else (punchcutlaw02_RootOf.j0 k a0 a1 bt131.2.2 (decide (a1 < 1)) bt131.1 bt131.2.1))) else (some false)) = some r := H
  have A3 := Aside0.mk A30
  clear A30
  by_cases c4 : t130 = true
  · subst c4
    have H1 : ((root_Of.f k a0 a1).bind fun bt131 => (if a0 < 0 then (punchcutlaw02_RootOf.j0 k a0 a1 bt131.2.2 true bt131.1 bt131.2.1) else (punchcutlaw02_RootOf.j0 k a0 a1 bt131.2.2 (decide (a1 < 1)) bt131.1 bt131.2.1))) = some r := by rw [if_pos rfl] at H; exact H
    clear H
    have H := H1
    clear H1
    replace H := Option.bind_eq_some_iff.mp H
    obtain ⟨⟨t131, t132, t133⟩, A50, H⟩ := H
    replace H : (if a0 < 0 then (punchcutlaw02_RootOf.j0 k a0 a1 t133 true t131 t132) else (punchcutlaw02_RootOf.j0 k a0 a1 t133 (decide (a1 < 1)) t131 t132)) = some r := H
    have A5 := Aside0.mk A50
    clear A50
    have HC6 := Aside0.mk H
    clear H
    go_enter Try.func8, Try.ntmps8
    go_upto_region 4 with (first | ((with_reducible refine gate_callee (f := 10) rfl ?_); refine goesL_ (some 7) rfl rfl Try.func10 (by kernel_rfl) rfl #[] rfl (by (try simp only [List.map_toArray, List.map_cons, List.map_nil]); first | done | rfl | (simp only [List.length_drop, List.length_take]; rfl)) ?_; (with_reducible refine (punchcutlaw02_awake.calls k  true _ A3.out).mono ?_); rintro e w7 ⟨rfl, hb⟩; refine ⟨_, rfl, ?_⟩; have n0_ := Aside0.mk (below_step (by repeat (first | (with_reducible first | exact HB.out | apply below_alloc | apply pw_below_drewN | apply below_drew1) | exact HB.out)) hb); clear HB; have HB := n0_; clear n0_; (try clear hb); (try clear hb2); (try clear hk); (try clear hi)) | ((with_reducible refine gate_callee (f := 16) rfl ?_); refine goesL_ (some 12) rfl rfl Try.func16 (by kernel_rfl) rfl #[.int .i64 a0, .int .i64 a1] rfl (by (try simp only [List.map_toArray, List.map_cons, List.map_nil]); first | done | rfl | (simp only [List.length_drop, List.length_take]; rfl)) ?_; (with_reducible refine (root_Of.calls k a0 a1 t131 t132 t133 _ A5.out).mono ?_); rintro e w8 ⟨rfl, hb⟩; refine ⟨_, rfl, ?_⟩; have n0_ := Aside0.mk (below_step (by repeat (first | (with_reducible first | exact HB.out | apply below_alloc | apply pw_below_drewN | apply below_drew1) | exact HB.out)) hb); clear HB; have HB := n0_; clear n0_; (try clear hb); (try clear hb2); (try clear hk); (try clear hi)) | ((with_reducible refine gate_dst (N := 5) rfl ?_); refine box_event ?hg (N := 5) ?hd (cs := #[.int .i64 0, .int .i64 0]) (t := 28) ?hr ?_; (case hd => rfl); (case hg => rfl); (case hr => first | (go_simp; done) | (go_simp; rfl)); intro gb134 hg w9 hbox hb; have n0_ := Aside0.mk (below_step (by repeat (first | (with_reducible first | exact HB.out | apply below_alloc | apply pw_below_drewN | apply below_drew1) | exact HB.out)) hb); have n1_ := Aside0.mk (hbox); have n2_ := Aside0.mk ((by rw [hg]; exact (below_size (by repeat (first | (with_reducible first | exact HB.out | apply below_alloc | apply pw_below_drewN | apply below_drew1) | exact HB.out))) : w.heap.size ≤ gb134)); have n3_ := Aside0.mk ((by rw [hg]; exact (below_size (by repeat (first | (with_reducible first | exact HB.out | apply below_alloc | apply pw_below_drewN | apply below_drew1) | exact HB.out))) : w.heap.size ≤ gb134)); clear HB; have HB := n0_; have BK134 := n1_; have GW134 := n2_; have GE134 := n3_; clear n0_ n1_ n2_ n3_; clear hb hbox hg; have hcz10_0 : w9.cell? ⟨gb134, 0, none⟩ = some (.int .i64 0) := (blk_cell BK134.out 0).trans rfl; have hcz10_1 : w9.cell? ⟨gb134, 1, none⟩ = some (.int .i64 0) := (blk_cell BK134.out 1).trans rfl; have hfz10_0 := blk_frozen BK134.out 0; have hfz10_1 := blk_frozen BK134.out 1))
    (try simp only [Act.put, List.setIfInBounds_toArray, List.set_cons_zero, List.set_cons_succ])
    go_cut [20] (fun v20 wc => ∃ (kq : Nat) (x20_5 : Bool), v20 = .bool x20_5 ∧ Aside0 (punchcutlaw02_RootOf.j0 kq a0 a1 t133 x20_5 t131 t132 = some r) ∧ Aside0 (kq ≤ k) ∧ Aside0 (wc.heap[gb134]? = some (.cells #[.int .i64 t131, .int .i64 t132] 28 (0, 0))) ∧ Aside0 (Below w.heap.size w wc))
    case first =>
      have H := HC6.out
      clear HC6
      by_cases c11 : a0 < 0
      · rw [if_pos c11] at H
        have c11b0 : decide (a0 < 0) = true := decide_eq_true c11
        clear c11
        (first | rw [c11b0] | (simp only [i64_w, i32_w]; rw [c11b0]) | skip)
        have H' := Aside0.mk H
        clear H
        go_wp2
        go_meet
        case rel => exact ⟨_, (true), (by first | rfl | (simp; done) | (simp [*]; done)), H', ⟨by first | omega | exact Nat.le_refl _⟩, ⟨by (with_reducible repeat (first | refine blk_drewN ?_ _ | refine blk_drew ?_ | refine blk_alloc ?_ _)); refine blk_put (cs := #[.int .i64 t131, .int .i64 0]) ?_ 1 _ rfl; (with_reducible repeat (first | refine blk_drewN ?_ _ | refine blk_drew ?_ | refine blk_alloc ?_ _)); refine blk_put (cs := #[.int .i64 0, .int .i64 0]) ?_ 0 _ rfl; (with_reducible repeat (first | refine blk_drewN ?_ _ | refine blk_drew ?_ | refine blk_alloc ?_ _)); exact BK134.out⟩, ⟨by repeat (first | (with_reducible first | exact HB.out | apply below_alloc | apply pw_below_drewN | apply below_drew1 | refine below_set ?_ GE134.out) | exact HB.out)⟩⟩
      · rw [if_neg c11] at H
        have c11b0 : decide (a0 < 0) = false := decide_eq_false c11
        clear c11
        (first | rw [c11b0] | (simp only [i64_w, i32_w]; rw [c11b0]) | skip)
        have H' := Aside0.mk H
        clear H
        go_wp2
        go_meet
        case rel => exact ⟨_, (decide (a1 < 1)), (by first | rfl | (simp; done) | (simp [*]; done)), H', ⟨by first | omega | exact Nat.le_refl _⟩, ⟨by (with_reducible repeat (first | refine blk_drewN ?_ _ | refine blk_drew ?_ | refine blk_alloc ?_ _)); refine blk_put (cs := #[.int .i64 t131, .int .i64 0]) ?_ 1 _ rfl; (with_reducible repeat (first | refine blk_drewN ?_ _ | refine blk_drew ?_ | refine blk_alloc ?_ _)); refine blk_put (cs := #[.int .i64 0, .int .i64 0]) ?_ 0 _ rfl; (with_reducible repeat (first | refine blk_drewN ?_ _ | refine blk_drew ?_ | refine blk_alloc ?_ _)); exact BK134.out⟩, ⟨by repeat (first | (with_reducible first | exact HB.out | apply below_alloc | apply pw_below_drewN | apply below_drew1 | refine below_set ?_ GE134.out) | exact HB.out)⟩⟩
    case rest =>
      clear HC6
      try clear c1
      try clear p2
      try clear c4
      try clear c8
      try clear c10
      try clear c11
      try clear c11b0
      try clear hcz10_0
      try clear hcz10_1
      try clear hfz10_0
      try clear hfz10_1
      obtain ⟨kq, x20_5, rfl, HA, HJ5, BK134, HB⟩ := hcut
      cases kq with
      | zero => exact absurd HA.out (by simp [punchcutlaw02_RootOf.j0])
      | succ kj5 =>
        have H := HA.out
        clear HA
        simp only [punchcutlaw02_RootOf.j0] at H
        by_cases c12 : x20_5 = true
        · subst c12
          have H1 : (if t133 = 4 then (some (t131 == 0 && (t132 == 0))) else (some false)) = some r := by rw [if_pos rfl] at H; exact H
          clear H
          have H := H1
          clear H1
          by_cases c13 : t133 = 4
          · rw [if_pos c13] at H
            have c13b0 : (t133 == 4) = true := beq_iff_eq.mpr c13
            have c13b1 : (t133 != 4) = false := bne_eq_false_iff_eq.mpr c13
            clear c13
            obtain rfl := Option.some.inj H
            have hcz14_0 : wc.cell? ⟨gb134, 0, none⟩ = some (.int .i64 t131) := (blk_cell BK134.out 0).trans rfl
            have hcz14_1 : wc.cell? ⟨gb134, 1, none⟩ = some (.int .i64 t132) := (blk_cell BK134.out 1).trans rfl
            have hfz14_0 := blk_frozen BK134.out 0
            have hfz14_1 := blk_frozen BK134.out 1
            go_wp2
            go_ret
            exact ⟨by first | rfl | (simp [errW_none, errW_some] <;> rfl) | (simp [*, errW_none, errW_some] <;> rfl), by repeat (first | (with_reducible first | exact HB.out | apply below_alloc | apply pw_below_drewN | apply below_drew1 | refine below_set ?_ GE134.out) | exact HB.out)⟩
          · rw [if_neg c13] at H
            have c13b0 : (t133 == 4) = false := beq_eq_false_iff_ne.mpr c13
            have c13b1 : (t133 != 4) = true := bne_iff_ne.mpr c13
            obtain rfl := Option.some.inj H
            go_wp2
            go_ret
            exact ⟨by first | rfl | (simp [errW_none, errW_some] <;> rfl) | (simp [*, errW_none, errW_some] <;> rfl), by repeat (first | (with_reducible first | exact HB.out | apply below_alloc | apply pw_below_drewN | apply below_drew1 | refine below_set ?_ GE134.out) | exact HB.out)⟩
        · replace c12 := Bool.eq_false_iff.mpr c12
          subst c12
          have H1 : (if t133 = 0 then (if t132 ≥ 1 then ((punchcutlaw02_gcd.f kj5 t131 t132).bind fun t135 => (if t135 = 1 then ((wide_Less.f kj5 t131 t132 a0 a1).bind fun t136 => (some (t136 == 0))) else (some false))) else (some false)) else (some false)) = some r := by rw [if_neg (show ¬ (false = true) by decide)] at H; exact H
          clear H
          have H := H1
          clear H1
          by_cases c15 : t133 = 0
          · rw [if_pos c15] at H
            have c15b0 : (t133 == 0) = true := beq_iff_eq.mpr c15
            have c15b1 : (t133 != 0) = false := bne_eq_false_iff_eq.mpr c15
            clear c15
            by_cases c16 : t132 ≥ 1
            · rw [if_pos c16] at H
              have c16b0 : decide (1 ≤ t132) = true := decide_eq_true c16
              clear c16
              replace H := Option.bind_eq_some_iff.mp H
              obtain ⟨t135, A170, H⟩ := H
              replace H : (if t135 = 1 then ((wide_Less.f kj5 t131 t132 a0 a1).bind fun t136 => (some (t136 == 0))) else (some false)) = some r := H
              have A17 := Aside0.mk A170
              clear A170
              by_cases c18 : t135 = 1
              · rw [if_pos c18] at H
                have c18b0 : (t135 == 1) = true := beq_iff_eq.mpr c18
                have c18b1 : (t135 != 1) = false := bne_eq_false_iff_eq.mpr c18
                clear c18
                replace H := Option.bind_eq_some_iff.mp H
                obtain ⟨t136, A190, H⟩ := H
                replace H : (some (t136 == 0)) = some r := H
                have A19 := Aside0.mk A190
                clear A190
                obtain rfl := Option.some.inj H
                have hcz20_0 : wc.cell? ⟨gb134, 0, none⟩ = some (.int .i64 t131) := (blk_cell BK134.out 0).trans rfl
                have hcz20_1 : wc.cell? ⟨gb134, 1, none⟩ = some (.int .i64 t132) := (blk_cell BK134.out 1).trans rfl
                have hfz20_0 := blk_frozen BK134.out 0
                have hfz20_1 := blk_frozen BK134.out 1
                go_wp2_with (first | (go_at_call 17; (with_reducible refine (punchcutlaw02_gcd.calls kj5 t131 t132 t135 _ A17.out).mono ?_); rintro e w' ⟨rfl, ⟨nd, rfl⟩⟩) | (go_at_call 18; (with_reducible refine (wide_Less.calls kj5 t131 t132 a0 a1 t136 _ A19.out).mono ?_); rintro e w21 ⟨rfl, hb⟩; have n0_ := Aside0.mk (blk_below (g := gb134) (o := .cells #[.int .i64 t131, .int .i64 t132] 28 (0, 0)) (by (with_reducible repeat (first | refine blk_drewN ?_ _ | refine blk_drew ?_ | refine blk_alloc ?_ _)); exact BK134.out) hb); have n1_ := Aside0.mk (below_step (by repeat (first | (with_reducible first | exact HB.out | apply below_alloc | apply pw_below_drewN | apply below_drew1 | refine below_set ?_ GE134.out) | exact HB.out)) hb); clear BK134; clear HB; have BK134 := n0_; have HB := n1_; clear n0_ n1_; (try clear hb); (try clear hb2); (try clear hk); (try clear hi)))
                go_ret
                exact ⟨by first | rfl | (simp [errW_none, errW_some] <;> rfl) | (simp [*, errW_none, errW_some] <;> rfl), by repeat (first | (with_reducible first | exact HB.out | apply below_alloc | apply pw_below_drewN | apply below_drew1 | refine below_set ?_ GE134.out) | exact HB.out)⟩
              · rw [if_neg c18] at H
                have c18b0 : (t135 == 1) = false := beq_eq_false_iff_ne.mpr c18
                have c18b1 : (t135 != 1) = true := bne_iff_ne.mpr c18
                obtain rfl := Option.some.inj H
                have hcz22_0 : wc.cell? ⟨gb134, 0, none⟩ = some (.int .i64 t131) := (blk_cell BK134.out 0).trans rfl
                have hcz22_1 : wc.cell? ⟨gb134, 1, none⟩ = some (.int .i64 t132) := (blk_cell BK134.out 1).trans rfl
                have hfz22_0 := blk_frozen BK134.out 0
                have hfz22_1 := blk_frozen BK134.out 1
                go_wp2_with (first | (go_at_call 17; (with_reducible refine (punchcutlaw02_gcd.calls kj5 t131 t132 t135 _ A17.out).mono ?_); rintro e w' ⟨rfl, ⟨nd, rfl⟩⟩))
                go_ret
                exact ⟨by first | rfl | (simp [errW_none, errW_some] <;> rfl) | (simp [*, errW_none, errW_some] <;> rfl), by repeat (first | (with_reducible first | exact HB.out | apply below_alloc | apply pw_below_drewN | apply below_drew1 | refine below_set ?_ GE134.out) | exact HB.out)⟩
            · rw [if_neg c16] at H
              have c16b0 : decide (1 ≤ t132) = false := decide_eq_false c16
              clear c16
              obtain rfl := Option.some.inj H
              have hcz23_0 : wc.cell? ⟨gb134, 0, none⟩ = some (.int .i64 t131) := (blk_cell BK134.out 0).trans rfl
              have hcz23_1 : wc.cell? ⟨gb134, 1, none⟩ = some (.int .i64 t132) := (blk_cell BK134.out 1).trans rfl
              have hfz23_0 := blk_frozen BK134.out 0
              have hfz23_1 := blk_frozen BK134.out 1
              go_wp2
              go_ret
              exact ⟨by first | rfl | (simp [errW_none, errW_some] <;> rfl) | (simp [*, errW_none, errW_some] <;> rfl), by repeat (first | (with_reducible first | exact HB.out | apply below_alloc | apply pw_below_drewN | apply below_drew1 | refine below_set ?_ GE134.out) | exact HB.out)⟩
          · rw [if_neg c15] at H
            have c15b0 : (t133 == 0) = false := beq_eq_false_iff_ne.mpr c15
            have c15b1 : (t133 != 0) = true := bne_iff_ne.mpr c15
            obtain rfl := Option.some.inj H
            go_wp2
            go_ret
            exact ⟨by first | rfl | (simp [errW_none, errW_some] <;> rfl) | (simp [*, errW_none, errW_some] <;> rfl), by repeat (first | (with_reducible first | exact HB.out | apply below_alloc | apply pw_below_drewN | apply below_drew1 | refine below_set ?_ GE134.out) | exact HB.out)⟩
  · replace c4 := Bool.eq_false_iff.mpr c4
    subst c4
    have H1 : (some false) = some r := by rw [if_neg (show ¬ (false = true) by decide)] at H; exact H
    clear H
    have H := H1
    clear H1
    obtain rfl := Option.some.inj H
    go_enter Try.func8, Try.ntmps8
    go_wp2_with (first | ((with_reducible refine gate_callee (f := 10) rfl ?_); refine goesL_ (some 7) rfl rfl Try.func10 (by kernel_rfl) rfl #[] rfl (by (try simp only [List.map_toArray, List.map_cons, List.map_nil]); first | done | rfl | (simp only [List.length_drop, List.length_take]; rfl)) ?_; (with_reducible refine (punchcutlaw02_awake.calls k  false _ A3.out).mono ?_); rintro e w24 ⟨rfl, hb⟩; refine ⟨_, rfl, ?_⟩; have n0_ := Aside0.mk (below_step (by repeat (first | (with_reducible first | exact HB.out | apply below_alloc | apply pw_below_drewN | apply below_drew1) | exact HB.out)) hb); clear HB; have HB := n0_; clear n0_; (try clear hb); (try clear hb2); (try clear hk); (try clear hi)))
    go_ret
    exact ⟨by first | rfl | (simp [errW_none, errW_some] <;> rfl) | (simp [*, errW_none, errW_some] <;> rfl), by repeat (first | (with_reducible first | exact HB.out | apply below_alloc | apply pw_below_drewN | apply below_drew1) | exact HB.out)⟩

/-- THE ONE PURE STATEMENT of punchcutlaw02_RootOf: yours. -/
def punchcutlaw02_RootOf.Pure : Prop := ∀ (a0 : Int) (a1 : Int), (Lit.int .i64 a0).wf = true → (Lit.int .i64 a1).wf = true → ∃ k, punchcutlaw02_RootOf.f k a0 a1 = some true
theorem punchcutlaw02_RootOf.walk (P : punchcutlaw02_RootOf.Pure) (a0 : Int) (a1 : Int) (w : World) (w0 : (Lit.int .i64 a0).wf = true) (w1 : (Lit.int .i64 a1).wf = true) :
    Calls Try.prog 8 #[.int .i64 a0, .int .i64 a1] w fun e w' => e = .returned (.bool true) ∧ Below w.heap.size w w' := by
  obtain ⟨k, h⟩ := P a0 a1 w0 w1
  refine (punchcutlaw02_RootOf.calls k a0 a1 true w h).mono ?_
  rintro e w' ⟨rfl, hd⟩
  exact ⟨rfl, hd⟩

end Go.Proofs.Ytccpcojknfnhpaa.PRootOf
