-- PRINTED BY print.sh 35421559b90ae4d0a3588c463048766b98c2df88dd9212a6774a882060cdf62d: not written by this session
import Derived.Test.YtignhpmfaodpjaaPBilinFlatx0
import Derived.Test.YtignhpmfaodpjaaPBilinFlatx1
import Derived.Test.YtignhpmfaodpjaaPBilinFlatx3
namespace Go.Proofs.Ytignhpmfaodpjaa.PBilinFlat
open Go.RowKit Go.Proofs.YtignhpmfaodpjaaW.PrintWords Go.Proofs.YtignhpmfaodpjaaW.PrintLast Go.Proofs.YtignhpmfaodpjaaW.PrintMore
attribute [local go_sem] max2_int min2_int max_two min_two max_three min_three max_four min_four   -- for this text's walks alone
set_option linter.unusedVariables false
set_option linter.unusedSimpArgs false

attribute [local go_sem high] eqA32
/-! ### punchcutlaw17_BilinFlat: function 9 -/
def punchcutlaw17_BilinFlat.l0 : Nat → Int → Int → Int → Int → Int → Int → Int → List Int → Option (Bool)
  | 0, _, _, _, _, _, _, _, _ => none
  | k + 1, x2, x3, x4, x5, x14, x136000, x136001, x136002 => if x14 < (wrap64 (x136000 * x136001)) then (if x136002.length < 140737488355328 then (punchcutlaw17_BilinFlat.l0 k x2 x3 x4 x5 (wrap64 (x14 + 1)) x136000 x136001 (x136002 ++ [x2])) else (none)) else ((bilin_At.f k x136000 x136001 x136002 (wrap64 (x3)) (wrap64 (x4)) (wrap64 (1 + (wrap64 (x5))))).bind fun bt139 => (if bt139.2.2 = 0 then (some (bt139.1 == (wrap64 (x2)) && (bt139.2.1 == 1))) else (some false)))
def punchcutlaw17_BilinFlat.f (k : Nat) (a0 : Int) (a1 : Int) (a2 : Int) (a3 : Int) (a4 : Int) (a5 : Int) : Option (Bool) := (punchcutlaw17_awake.f k).bind fun t134 => (if t134 = true then (punchcutlaw17_BilinFlat.l0 k a2 a3 a4 a5 0 (wrap64 (1 + (wrap64 (Int.tmod a0 64)))) (wrap64 (1 + (wrap64 (Int.tmod a1 64)))) ([] : List Int)) else (some false))
theorem punchcutlaw17_BilinFlat.mono_l : ∀ k, (∀ y0 y1 y2 y3 y4 y5 y6 y7, LeO (punchcutlaw17_BilinFlat.l0 k y0 y1 y2 y3 y4 y5 y6 y7) (punchcutlaw17_BilinFlat.l0 (k + 1) y0 y1 y2 y3 y4 y5 y6 y7))
  | 0 => fun _ _ _ _ _ _ _ _ r h => by simp [punchcutlaw17_BilinFlat.l0] at h
  | k + 1 => by
    have ih0 := punchcutlaw17_BilinFlat.mono_l k
    · intro y0 y1 y2 y3 y4 y5 y6 y7
      unfold punchcutlaw17_BilinFlat.l0
      repeat' first
      | (with_reducible exact ih0 _ _ _ _ _ _ _ _)
      | (with_reducible exact bilin_At.mono _ _ _ _ _ _ _)
      | (with_reducible exact punchcutlaw17_awake.mono _)
      | (with_reducible exact LeO.refl _)
      | (with_reducible exact LeO.none _)
      | (with_reducible refine LeO.ite ?_ ?_)
      | (with_reducible refine LeO.bind ?_ (fun _ => ?_))
      | exact ih0 _ _ _ _ _ _ _ _
      | exact bilin_At.mono _ _ _ _ _ _ _
      | exact punchcutlaw17_awake.mono _
      | exact LeO.none _
      | refine LeO.ite ?_ ?_
      | refine LeO.bind ?_ (fun _ => ?_)
theorem punchcutlaw17_BilinFlat.mono : ∀ a0 a1 a2 a3 a4 a5 k, LeO (punchcutlaw17_BilinFlat.f k a0 a1 a2 a3 a4 a5) (punchcutlaw17_BilinFlat.f (k + 1) a0 a1 a2 a3 a4 a5) := by
  intro a0 a1 a2 a3 a4 a5 k
  have ih0 := punchcutlaw17_BilinFlat.mono_l k
  unfold punchcutlaw17_BilinFlat.f
  repeat' first
      | (with_reducible exact ih0 _ _ _ _ _ _ _ _)
      | (with_reducible exact bilin_At.mono _ _ _ _ _ _ _)
      | (with_reducible exact punchcutlaw17_awake.mono _)
      | (with_reducible exact LeO.refl _)
      | (with_reducible exact LeO.none _)
      | (with_reducible refine LeO.ite ?_ ?_)
      | (with_reducible refine LeO.bind ?_ (fun _ => ?_))
      | exact ih0 _ _ _ _ _ _ _ _
      | exact bilin_At.mono _ _ _ _ _ _ _
      | exact punchcutlaw17_awake.mono _
      | exact LeO.none _
      | refine LeO.ite ?_ ?_
      | refine LeO.bind ?_ (fun _ => ?_)
set_option maxHeartbeats 8000000 in
set_option maxRecDepth 100000 in
theorem punchcutlaw17_BilinFlat.calls (k : Nat) (a0 : Int) (a1 : Int) (a2 : Int) (a3 : Int) (a4 : Int) (a5 : Int) (r : Bool) (w : World) (h : punchcutlaw17_BilinFlat.f k a0 a1 a2 a3 a4 a5 = some r) :
    Calls Try.prog 9 #[.int .u8 a0, .int .u8 a1, .int .u8 a2, .int .i16 a3, .int .i16 a4, .int .u8 a5] w fun e w' => e = .returned (.bool r) ∧ Below w.heap.size w w' := by
  have hu28 := Try.underlying28
  have hu32 := Try.underlying32
  have HB := Aside0.mk (Below.refl w.heap.size w)
  have H : ((punchcutlaw17_awake.f k).bind fun t134 => (if t134 = true then (punchcutlaw17_BilinFlat.l0 k a2 a3 a4 a5 0 (wrap64 (1 + (wrap64 (Int.tmod a0 64)))) (wrap64 (1 + (wrap64 (Int.tmod a1 64)))) ([] : List Int)) else (some false))) = some r := h
  clear h
  replace H := Option.bind_eq_some_iff.mp H
  obtain ⟨t134, A70, H⟩ := H
  replace H : (if t134 = true then (punchcutlaw17_BilinFlat.l0 k a2 a3 a4 a5 0 (wrap64 (1 + (wrap64 (Int.tmod a0 64)))) (wrap64 (1 + (wrap64 (Int.tmod a1 64)))) ([] : List Int)) else (some false)) = some r := H
  have A7 := Aside0.mk A70
  clear A70
  by_cases c8 : t134 = true
  · subst c8
    have H1 : (punchcutlaw17_BilinFlat.l0 k a2 a3 a4 a5 0 (wrap64 (1 + (wrap64 (Int.tmod a0 64)))) (wrap64 (1 + (wrap64 (Int.tmod a1 64)))) ([] : List Int)) = some r := by rw [if_pos rfl] at H; exact H
    clear H
    have H := H1
    clear H1
    have H' := Aside0.mk H
    clear H
    go_enter Try.func9, Try.ntmps9
    go_wp2_with (first | ((with_reducible refine gate_callee (f := 10) rfl ?_); refine goesL_ (some 17) rfl rfl Try.func10 (by kernel_rfl) rfl #[] rfl (by (try simp only [List.map_toArray, List.map_cons, List.map_nil]); first | done | rfl | (simp only [List.length_drop, List.length_take]; rfl)) ?_; (with_reducible refine (punchcutlaw17_awake.calls k  true _ A7.out).mono ?_); rintro e w9 ⟨rfl, hb⟩; refine ⟨_, rfl, ?_⟩; have n0_ := Aside0.mk (below_step (by repeat (first | (with_reducible first | exact HB.out | apply below_alloc | apply pw_below_drewN | apply below_drew1) | exact HB.out)) hb); clear HB; have HB := n0_; clear n0_; (try clear hb); (try clear hb2); (try clear hk); (try clear hi)) | ((with_reducible refine gate_dst (N := 13) rfl ?_); refine box_event ?hg (N := 13) ?hd (cs := #[.int .i64 0, .int .i64 0, .slice none 0 0]) (t := 28) ?hr ?_; (case hd => rfl); (case hg => rfl); (case hr => first | (go_simp; done) | (go_simp; rfl)); intro gb135 hg w10 hbox hb; have n0_ := Aside0.mk (below_step (by repeat (first | (with_reducible first | exact HB.out | apply below_alloc | apply pw_below_drewN | apply below_drew1) | exact HB.out)) hb); have n1_ := Aside0.mk (hbox); have n2_ := Aside0.mk ((by rw [hg]; exact (below_size (by repeat (first | (with_reducible first | exact HB.out | apply below_alloc | apply pw_below_drewN | apply below_drew1) | exact HB.out))) : w.heap.size ≤ gb135)); have n3_ := Aside0.mk ((by rw [hg]; exact (below_size (by repeat (first | (with_reducible first | exact HB.out | apply below_alloc | apply pw_below_drewN | apply below_drew1) | exact HB.out))) : w.heap.size ≤ gb135)); clear HB; have HB := n0_; have BK135 := n1_; have GW135 := n2_; have GE135 := n3_; clear n0_ n1_ n2_ n3_; clear hb hbox hg; have hcz11_0 : w10.cell? ⟨gb135, 0, none⟩ = some (.int .i64 0) := (blk_cell BK135.out 0).trans rfl; have hcz11_1 : w10.cell? ⟨gb135, 1, none⟩ = some (.int .i64 0) := (blk_cell BK135.out 1).trans rfl; have hcz11_2 : w10.cell? ⟨gb135, 2, none⟩ = some (.slice none 0 0) := (blk_cell BK135.out 2).trans rfl; have hfz11_0 := blk_frozen BK135.out 0; have hfz11_1 := blk_frozen BK135.out 1; have hfz11_2 := blk_frozen BK135.out 2))
    go_loopg [14] k (fun kq v14 w' => ∃ (x14_1 : Int) (x136002_1 : List Int) (u136002 : Value), v14 = .int .i64 x14_1 ∧ Aside0 (punchcutlaw17_BilinFlat.l0 kq a2 a3 a4 a5 x14_1 (wrap64 (1 + (wrap64 (Int.tmod a0 64)))) (wrap64 (1 + (wrap64 (Int.tmod a1 64)))) x136002_1 = some r) ∧ Aside0 (kq ≤ k) ∧ Aside0 (Kd.R (Kd.int .u8) 5 w' w.heap.size (fun _ => True) u136002 x136002_1) ∧ Aside0 (w'.heap[gb135]? = some (.cells #[.int .i64 (wrap64 (1 + (wrap64 (Int.tmod a0 64)))), .int .i64 (wrap64 (1 + (wrap64 (Int.tmod a1 64)))), u136002] 28 (0, 0))) ∧ Aside0 (Below w.heap.size w w'))
    case atStart => exact ⟨(0), (([] : List Int)), (.slice none 0 0), (by first | rfl | (simp; done) | (simp [*]; done)), H', ⟨Nat.le_refl _⟩, ⟨by first | exact Kd.R_nil _ _ _ _ _ | exact Kd.N_nil _ _ _ _ _ | exact Kd.V_nil _ _ _ _ _ | exact Kd.Q_nil _ _ _ _ _ | exact Kd.S_nil _ _ _ _ _⟩, ⟨by (with_reducible repeat (first | refine blk_drewN ?_ _ | refine blk_drew ?_ | refine blk_alloc ?_ _)); refine blk_put (cs := #[.int .i64 (wrap64 (1 + (wrap64 (Int.tmod a0 64)))), .int .i64 (wrap64 (1 + (wrap64 (Int.tmod a1 64)))), .slice none 0 0]) ?_ 2 _ rfl; (with_reducible repeat (first | refine blk_drewN ?_ _ | refine blk_drew ?_ | refine blk_alloc ?_ _)); refine blk_put (cs := #[.int .i64 (wrap64 (1 + (wrap64 (Int.tmod a0 64)))), .int .i64 0, .slice none 0 0]) ?_ 1 _ rfl; (with_reducible repeat (first | refine blk_drewN ?_ _ | refine blk_drew ?_ | refine blk_alloc ?_ _)); refine blk_put (cs := #[.int .i64 0, .int .i64 0, .slice none 0 0]) ?_ 0 _ rfl; (with_reducible repeat (first | refine blk_drewN ?_ _ | refine blk_drew ?_ | refine blk_alloc ?_ _)); exact BK135.out⟩, ⟨by repeat (first | (with_reducible first | exact HB.out | apply below_alloc | apply pw_below_drewN | apply below_drew1 | refine below_set ?_ GE135.out) | exact HB.out)⟩⟩
    case round =>
      clear H'
      try clear c1
      try clear p2
      try clear p6
      try clear c8
      try clear c9
      try clear c10
      try clear hcz11_0
      try clear hcz11_1
      try clear hcz11_2
      try clear hfz11_0
      try clear hfz11_1
      try clear hfz11_2
      obtain ⟨x14_1, x136002_1, u136002, rfl, HA, HK1, HO_136002, BK135, HB⟩ := hrel
      cases gk with
      | zero => exact absurd HA.out (by simp [punchcutlaw17_BilinFlat.l0])
      | succ k1 =>
        have H := HA.out
        clear HA
        simp only [punchcutlaw17_BilinFlat.l0] at H
        by_cases c12 : x14_1 < (wrap64 ((wrap64 (1 + (wrap64 (Int.tmod a0 64)))) * (wrap64 (1 + (wrap64 (Int.tmod a1 64))))))
        · rw [if_pos c12] at H
          have c12b0 : decide (x14_1 < (wrap64 ((wrap64 (1 + (wrap64 (Int.tmod a0 64)))) * (wrap64 (1 + (wrap64 (Int.tmod a1 64))))))) = true := decide_eq_true c12
          clear c12
          by_cases c13 : x136002_1.length < 140737488355328
          · rw [if_pos c13] at H
            have LMc13 := Aside0.mk c13
            clear c13
            obtain ⟨y136, hy136⟩ : ∃ y_ : List Int, y_ = (x136002_1 ++ [a2]) := ⟨_, rfl⟩
            replace H : (punchcutlaw17_BilinFlat.l0 k1 a2 a3 a4 a5 (wrap64 (x14_1 + 1)) (wrap64 (1 + (wrap64 (Int.tmod a0 64)))) (wrap64 (1 + (wrap64 (Int.tmod a1 64)))) y136) = some r := by first | (rw [hy136]; with_reducible exact H) | (have H2_ := (Option.bind_some _ _).symm.trans H; rw [hy136]; with_reducible exact H2_) | (have H2_ := (Option.bind_some _ _).symm.trans H; with_reducible exact H2_) | with_reducible exact H | (rw [hy136]; exact H) | exact H
            have Ny136 := Aside0.mk hy136
            clear hy136
            have H' := Aside0.mk H
            clear H
            have hcz14_0 : wr.cell? ⟨gb135, 0, none⟩ = some (.int .i64 (wrap64 (1 + (wrap64 (Int.tmod a0 64))))) := (blk_cell BK135.out 0).trans rfl
            have hcz14_1 : wr.cell? ⟨gb135, 1, none⟩ = some (.int .i64 (wrap64 (1 + (wrap64 (Int.tmod a1 64))))) := (blk_cell BK135.out 1).trans rfl
            have hcz14_2 : wr.cell? ⟨gb135, 2, none⟩ = some (u136002) := (blk_cell BK135.out 2).trans rfl
            have hfz14_0 := blk_frozen BK135.out 0
            have hfz14_1 := blk_frozen BK135.out 1
            have hfz14_2 := blk_frozen BK135.out 2
            go_wp2_with (first | ((with_reducible refine gate_builtin (b := .append) (xs := #[.tmp 38, .tmp 40]) rfl ?_); at_builtin; refine Kd.R_append (Kd.int .u8) (w0 := w) w.heap.size rfl (.tmp 38) (.tmp 40) 26 5 (.int .u8 0) 1 rfl Try.underlying26 info5 rfl (by decide) (by omega) u136002 x136002_1 a2 [.int .u8 a2] (fun _ => True) (fun _ => False) rfl rfl ?aP (fun _ hk => hk.elim) ?aF ?aO ?aB ?aS ?aL ?_; (case aP => exact rfl); (case aB => exact (by repeat (first | (with_reducible first | exact HB.out | apply below_alloc | apply pw_below_drewN | apply below_drew1 | refine below_set ?_ GE135.out) | exact HB.out))); (case aF => exact (fun _ _ => trivial)); (case aO => exact (by (with_reducible repeat (first | apply Kd.R_alloc | apply Kd.R_drewN | apply Kd.R_drew)); exact HO_136002.out)); (case aS => exact (below_size (by repeat (first | (with_reducible first | exact HB.out | apply below_alloc | apply pw_below_drewN | apply below_drew1 | refine below_set ?_ GE135.out) | exact HB.out)))); (case aL => have := LMc13.out; omega); intro v137 w15 ho hb hg hat; rw [← Ny136.out] at ho; have n0_ := Aside0.mk (blk_grown (g := gb135) (o := .cells #[.int .i64 (wrap64 (1 + (wrap64 (Int.tmod a0 64)))), .int .i64 (wrap64 (1 + (wrap64 (Int.tmod a1 64)))), u136002] 28 (0, 0)) (by (with_reducible repeat (first | refine blk_drewN ?_ _ | refine blk_drew ?_ | refine blk_alloc ?_ _)); exact BK135.out) hg (Kd.R_ne HO_136002.out BK135.out (by decide))); have n1_ := Aside0.mk (hb); have n2_ := Aside0.mk (ho); clear BK135; clear HB; clear HO_136002; have BK135 := n0_; have HB := n1_; have HO138 := n2_; clear n0_ n1_ n2_; clear ho hb hg hat; obtain ⟨Ao16, co16, eo16⟩ := Kd.R_slice HO138.out; subst eo16; have hcz17_0 : w15.cell? ⟨gb135, 0, none⟩ = some (.int .i64 (wrap64 (1 + (wrap64 (Int.tmod a0 64))))) := (blk_cell BK135.out 0).trans rfl; have hcz17_1 : w15.cell? ⟨gb135, 1, none⟩ = some (.int .i64 (wrap64 (1 + (wrap64 (Int.tmod a1 64))))) := (blk_cell BK135.out 1).trans rfl; have hcz17_2 : w15.cell? ⟨gb135, 2, none⟩ = some (u136002) := (blk_cell BK135.out 2).trans rfl; have hfz17_0 := blk_frozen BK135.out 0; have hfz17_1 := blk_frozen BK135.out 1; have hfz17_2 := blk_frozen BK135.out 2))
            go_roundg k1
            case measure => have := HK1.out; omega
            case rel => exact ⟨(wrap64 (x14_1 + 1)), (y136), (.slice Ao16 y136.length co16), (by first | rfl | (simp; done) | (simp [*]; done)), H', ⟨by have := HK1.out; omega⟩, ⟨by (with_reducible repeat (first | apply Kd.R_alloc | apply Kd.R_drewN | apply Kd.R_drew)); exact Kd.R_mono (Kd.R_far (p := ⟨gb135, 2, none⟩) (Kd.R_types HO138.out BK135.out (by decide)) (fun _ hk => hk.2) (.slice Ao16 y136.length co16)) (fun _ hk => trivial)⟩, ⟨by (with_reducible repeat (first | refine blk_drewN ?_ _ | refine blk_drew ?_ | refine blk_alloc ?_ _)); refine blk_put (cs := #[.int .i64 (wrap64 (1 + (wrap64 (Int.tmod a0 64)))), .int .i64 (wrap64 (1 + (wrap64 (Int.tmod a1 64)))), u136002]) ?_ 2 _ rfl; (with_reducible repeat (first | refine blk_drewN ?_ _ | refine blk_drew ?_ | refine blk_alloc ?_ _)); exact BK135.out⟩, ⟨by repeat (first | (with_reducible first | exact HB.out | apply below_alloc | apply pw_below_drewN | apply below_drew1 | refine below_set ?_ GE135.out) | exact HB.out)⟩⟩
          · rw [if_neg c13] at H
            exact absurd H (by simp)
        · rw [if_neg c12] at H
          have c12b0 : decide (x14_1 < (wrap64 ((wrap64 (1 + (wrap64 (Int.tmod a0 64)))) * (wrap64 (1 + (wrap64 (Int.tmod a1 64))))))) = false := decide_eq_false c12
          clear c12
          replace H := Option.bind_eq_some_iff.mp H
          obtain ⟨⟨t139, t140, t141⟩, A180, H⟩ := H
          replace H : (if t141 = 0 then (some (t139 == (wrap64 (a2)) && (t140 == 1))) else (some false)) = some r := H
          have A18 := Aside0.mk A180
          clear A180
          by_cases c19 : t141 = 0
          · rw [if_pos c19] at H
            have c19b0 : (t141 == 0) = true := beq_iff_eq.mpr c19
            have c19b1 : (t141 != 0) = false := bne_eq_false_iff_eq.mpr c19
            clear c19
            obtain rfl := Option.some.inj H
            have hcz20_0 : wr.cell? ⟨gb135, 0, none⟩ = some (.int .i64 (wrap64 (1 + (wrap64 (Int.tmod a0 64))))) := (blk_cell BK135.out 0).trans rfl
            have hcz20_1 : wr.cell? ⟨gb135, 1, none⟩ = some (.int .i64 (wrap64 (1 + (wrap64 (Int.tmod a1 64))))) := (blk_cell BK135.out 1).trans rfl
            have hcz20_2 : wr.cell? ⟨gb135, 2, none⟩ = some (u136002) := (blk_cell BK135.out 2).trans rfl
            have hfz20_0 := blk_frozen BK135.out 0
            have hfz20_1 := blk_frozen BK135.out 1
            have hfz20_2 := blk_frozen BK135.out 2
            obtain ⟨Ao21, co21, eo21⟩ := Kd.R_slice HO_136002.out
            subst eo21
            go_wp2_with (first | ((with_reducible refine gate_callee (f := 12) rfl ?_); refine goesL_ (some 52) rfl rfl Try.func12 (by kernel_rfl) rfl #[.agg #[.int .i64 (wrap64 (1 + (wrap64 (Int.tmod a0 64)))), .int .i64 (wrap64 (1 + (wrap64 (Int.tmod a1 64)))), .slice Ao21 x136002_1.length co21], .int .i64 (wrap64 (a3)), .int .i64 (wrap64 (a4)), .int .i64 (wrap64 (1 + (wrap64 (a5))))] rfl (by (try simp only [List.map_toArray, List.map_cons, List.map_nil]); first | done | rfl | (simp only [List.length_drop, List.length_take]; rfl)) ?_; (with_reducible refine (bilin_At.calls k1 (wrap64 (1 + (wrap64 (Int.tmod a0 64)))) (wrap64 (1 + (wrap64 (Int.tmod a1 64)))) _ _ x136002_1 (wrap64 (a3)) (wrap64 (a4)) (wrap64 (1 + (wrap64 (a5)))) t139 t140 t141 _ ?side1 ?side2 A18.out).mono ?_); (case side1 => repeat (first | exact (Kd.R_reads' HO_136002.out).2.2 | (with_reducible refine Kd.C_alloc ?_ _) | (with_reducible refine Kd.C_drewN ?_ _) | (with_reducible refine Kd.C_drew ?_))); (case side2 => exact (Kd.R_reads' HO_136002.out).2.1); rintro e w22 ⟨rfl, hb⟩; refine ⟨_, rfl, ?_⟩; have n0_ := Aside0.mk (Kd.R_below (by (with_reducible repeat (first | apply Kd.R_alloc | apply Kd.R_drewN | apply Kd.R_drew)); exact HO_136002.out) hb); have n1_ := Aside0.mk (blk_below (g := gb135) (o := .cells #[.int .i64 (wrap64 (1 + (wrap64 (Int.tmod a0 64)))), .int .i64 (wrap64 (1 + (wrap64 (Int.tmod a1 64)))), .slice Ao21 x136002_1.length co21] 28 (0, 0)) (by (with_reducible repeat (first | refine blk_drewN ?_ _ | refine blk_drew ?_ | refine blk_alloc ?_ _)); exact BK135.out) hb); have n2_ := Aside0.mk (below_step (by repeat (first | (with_reducible first | exact HB.out | apply below_alloc | apply pw_below_drewN | apply below_drew1 | refine below_set ?_ GE135.out) | exact HB.out)) hb); clear HO_136002; clear BK135; clear HB; have HO_136002 := n0_; have BK135 := n1_; have HB := n2_; clear n0_ n1_ n2_; (try clear hb); (try clear hb2); (try clear hk); (try clear hi)) | ((with_reducible refine gate_dst (N := 15) rfl ?_); refine box_event ?hg (N := 15) ?hd (cs := #[.int .i64 0, .int .i64 0]) (t := 32) ?hr ?_; (case hd => rfl); (case hg => rfl); (case hr => first | (go_simp; done) | (go_simp; rfl)); intro gb142 hg w23 hbox hb; have n0_ := Aside0.mk (Kd.R_below (by (with_reducible repeat (first | apply Kd.R_alloc | apply Kd.R_drewN | apply Kd.R_drew)); exact HO_136002.out) hb); have n1_ := Aside0.mk (blk_below (g := gb135) (o := .cells #[.int .i64 (wrap64 (1 + (wrap64 (Int.tmod a0 64)))), .int .i64 (wrap64 (1 + (wrap64 (Int.tmod a1 64)))), .slice Ao21 x136002_1.length co21] 28 (0, 0)) (by (with_reducible repeat (first | refine blk_drewN ?_ _ | refine blk_drew ?_ | refine blk_alloc ?_ _)); exact BK135.out) hb); have n2_ := Aside0.mk (below_step (by repeat (first | (with_reducible first | exact HB.out | apply below_alloc | apply pw_below_drewN | apply below_drew1 | refine below_set ?_ GE135.out) | exact HB.out)) hb); have n3_ := Aside0.mk (hbox); have n4_ := Aside0.mk ((by rw [hg]; exact (below_size (by repeat (first | (with_reducible first | exact HB.out | apply below_alloc | apply pw_below_drewN | apply below_drew1 | refine below_set ?_ GE135.out) | exact HB.out))) : w.heap.size ≤ gb142)); have n5_ := Aside0.mk ((by rw [hg]; exact (below_size (by repeat (first | (with_reducible first | exact HB.out | apply below_alloc | apply pw_below_drewN | apply below_drew1 | refine below_set ?_ GE135.out) | exact HB.out))) : w.heap.size ≤ gb142)); have n6_ := Aside0.mk ((by rw [hg]; exact Nat.ne_of_lt (blk_lt (g := gb135) (o := .cells #[.int .i64 (wrap64 (1 + (wrap64 (Int.tmod a0 64)))), .int .i64 (wrap64 (1 + (wrap64 (Int.tmod a1 64)))), .slice Ao21 x136002_1.length co21] 28 (0, 0)) (by (with_reducible repeat (first | refine blk_drewN ?_ _ | refine blk_drew ?_ | refine blk_alloc ?_ _)); exact BK135.out)) : gb135 ≠ gb142)); have n7_ := Aside0.mk ((by rw [hg]; exact Nat.ne_of_gt (blk_lt (g := gb135) (o := .cells #[.int .i64 (wrap64 (1 + (wrap64 (Int.tmod a0 64)))), .int .i64 (wrap64 (1 + (wrap64 (Int.tmod a1 64)))), .slice Ao21 x136002_1.length co21] 28 (0, 0)) (by (with_reducible repeat (first | refine blk_drewN ?_ _ | refine blk_drew ?_ | refine blk_alloc ?_ _)); exact BK135.out)) : gb142 ≠ gb135)); clear HO_136002; clear BK135; clear HB; have HO_136002 := n0_; have BK135 := n1_; have HB := n2_; have BK142 := n3_; have GW142 := n4_; have GE142 := n5_; have NB135_142 := n6_; have NB142_135 := n7_; clear n0_ n1_ n2_ n3_ n4_ n5_ n6_ n7_; clear hb hbox hg; have hnb24 := NB142_135.out; have hnc24 := NB135_142.out; have hcz25_0 : w23.cell? ⟨gb142, 0, none⟩ = some (.int .i64 0) := (blk_cell BK142.out 0).trans rfl; have hcz25_1 : w23.cell? ⟨gb142, 1, none⟩ = some (.int .i64 0) := (blk_cell BK142.out 1).trans rfl; have hfz25_0 := blk_frozen BK142.out 0; have hfz25_1 := blk_frozen BK142.out 1))
            go_ret
            exact ⟨by first | rfl | (simp [errW_none, errW_some] <;> rfl) | (simp [*, errW_none, errW_some] <;> rfl), by repeat (first | (with_reducible first | exact HB.out | apply below_alloc | apply pw_below_drewN | apply below_drew1 | refine below_set ?_ GE135.out | refine below_set ?_ GE142.out) | exact HB.out)⟩
          · rw [if_neg c19] at H
            have c19b0 : (t141 == 0) = false := beq_eq_false_iff_ne.mpr c19
            have c19b1 : (t141 != 0) = true := bne_iff_ne.mpr c19
            obtain rfl := Option.some.inj H
            have hcz26_0 : wr.cell? ⟨gb135, 0, none⟩ = some (.int .i64 (wrap64 (1 + (wrap64 (Int.tmod a0 64))))) := (blk_cell BK135.out 0).trans rfl
            have hcz26_1 : wr.cell? ⟨gb135, 1, none⟩ = some (.int .i64 (wrap64 (1 + (wrap64 (Int.tmod a1 64))))) := (blk_cell BK135.out 1).trans rfl
            have hcz26_2 : wr.cell? ⟨gb135, 2, none⟩ = some (u136002) := (blk_cell BK135.out 2).trans rfl
            have hfz26_0 := blk_frozen BK135.out 0
            have hfz26_1 := blk_frozen BK135.out 1
            have hfz26_2 := blk_frozen BK135.out 2
            obtain ⟨Ao27, co27, eo27⟩ := Kd.R_slice HO_136002.out
            subst eo27
            go_wp2_with (first | ((with_reducible refine gate_callee (f := 12) rfl ?_); refine goesL_ (some 52) rfl rfl Try.func12 (by kernel_rfl) rfl #[.agg #[.int .i64 (wrap64 (1 + (wrap64 (Int.tmod a0 64)))), .int .i64 (wrap64 (1 + (wrap64 (Int.tmod a1 64)))), .slice Ao27 x136002_1.length co27], .int .i64 (wrap64 (a3)), .int .i64 (wrap64 (a4)), .int .i64 (wrap64 (1 + (wrap64 (a5))))] rfl (by (try simp only [List.map_toArray, List.map_cons, List.map_nil]); first | done | rfl | (simp only [List.length_drop, List.length_take]; rfl)) ?_; (with_reducible refine (bilin_At.calls k1 (wrap64 (1 + (wrap64 (Int.tmod a0 64)))) (wrap64 (1 + (wrap64 (Int.tmod a1 64)))) _ _ x136002_1 (wrap64 (a3)) (wrap64 (a4)) (wrap64 (1 + (wrap64 (a5)))) t139 t140 t141 _ ?side1 ?side2 A18.out).mono ?_); (case side1 => repeat (first | exact (Kd.R_reads' HO_136002.out).2.2 | (with_reducible refine Kd.C_alloc ?_ _) | (with_reducible refine Kd.C_drewN ?_ _) | (with_reducible refine Kd.C_drew ?_))); (case side2 => exact (Kd.R_reads' HO_136002.out).2.1); rintro e w28 ⟨rfl, hb⟩; refine ⟨_, rfl, ?_⟩; have n0_ := Aside0.mk (Kd.R_below (by (with_reducible repeat (first | apply Kd.R_alloc | apply Kd.R_drewN | apply Kd.R_drew)); exact HO_136002.out) hb); have n1_ := Aside0.mk (blk_below (g := gb135) (o := .cells #[.int .i64 (wrap64 (1 + (wrap64 (Int.tmod a0 64)))), .int .i64 (wrap64 (1 + (wrap64 (Int.tmod a1 64)))), .slice Ao27 x136002_1.length co27] 28 (0, 0)) (by (with_reducible repeat (first | refine blk_drewN ?_ _ | refine blk_drew ?_ | refine blk_alloc ?_ _)); exact BK135.out) hb); have n2_ := Aside0.mk (below_step (by repeat (first | (with_reducible first | exact HB.out | apply below_alloc | apply pw_below_drewN | apply below_drew1 | refine below_set ?_ GE135.out) | exact HB.out)) hb); clear HO_136002; clear BK135; clear HB; have HO_136002 := n0_; have BK135 := n1_; have HB := n2_; clear n0_ n1_ n2_; (try clear hb); (try clear hb2); (try clear hk); (try clear hi)) | ((with_reducible refine gate_dst (N := 15) rfl ?_); refine box_event ?hg (N := 15) ?hd (cs := #[.int .i64 0, .int .i64 0]) (t := 32) ?hr ?_; (case hd => rfl); (case hg => rfl); (case hr => first | (go_simp; done) | (go_simp; rfl)); intro gb142 hg w29 hbox hb; have n0_ := Aside0.mk (Kd.R_below (by (with_reducible repeat (first | apply Kd.R_alloc | apply Kd.R_drewN | apply Kd.R_drew)); exact HO_136002.out) hb); have n1_ := Aside0.mk (blk_below (g := gb135) (o := .cells #[.int .i64 (wrap64 (1 + (wrap64 (Int.tmod a0 64)))), .int .i64 (wrap64 (1 + (wrap64 (Int.tmod a1 64)))), .slice Ao27 x136002_1.length co27] 28 (0, 0)) (by (with_reducible repeat (first | refine blk_drewN ?_ _ | refine blk_drew ?_ | refine blk_alloc ?_ _)); exact BK135.out) hb); have n2_ := Aside0.mk (below_step (by repeat (first | (with_reducible first | exact HB.out | apply below_alloc | apply pw_below_drewN | apply below_drew1 | refine below_set ?_ GE135.out) | exact HB.out)) hb); have n3_ := Aside0.mk (hbox); have n4_ := Aside0.mk ((by rw [hg]; exact (below_size (by repeat (first | (with_reducible first | exact HB.out | apply below_alloc | apply pw_below_drewN | apply below_drew1 | refine below_set ?_ GE135.out) | exact HB.out))) : w.heap.size ≤ gb142)); have n5_ := Aside0.mk ((by rw [hg]; exact (below_size (by repeat (first | (with_reducible first | exact HB.out | apply below_alloc | apply pw_below_drewN | apply below_drew1 | refine below_set ?_ GE135.out) | exact HB.out))) : w.heap.size ≤ gb142)); have n6_ := Aside0.mk ((by rw [hg]; exact Nat.ne_of_lt (blk_lt (g := gb135) (o := .cells #[.int .i64 (wrap64 (1 + (wrap64 (Int.tmod a0 64)))), .int .i64 (wrap64 (1 + (wrap64 (Int.tmod a1 64)))), .slice Ao27 x136002_1.length co27] 28 (0, 0)) (by (with_reducible repeat (first | refine blk_drewN ?_ _ | refine blk_drew ?_ | refine blk_alloc ?_ _)); exact BK135.out)) : gb135 ≠ gb142)); have n7_ := Aside0.mk ((by rw [hg]; exact Nat.ne_of_gt (blk_lt (g := gb135) (o := .cells #[.int .i64 (wrap64 (1 + (wrap64 (Int.tmod a0 64)))), .int .i64 (wrap64 (1 + (wrap64 (Int.tmod a1 64)))), .slice Ao27 x136002_1.length co27] 28 (0, 0)) (by (with_reducible repeat (first | refine blk_drewN ?_ _ | refine blk_drew ?_ | refine blk_alloc ?_ _)); exact BK135.out)) : gb142 ≠ gb135)); clear HO_136002; clear BK135; clear HB; have HO_136002 := n0_; have BK135 := n1_; have HB := n2_; have BK142 := n3_; have GW142 := n4_; have GE142 := n5_; have NB135_142 := n6_; have NB142_135 := n7_; clear n0_ n1_ n2_ n3_ n4_ n5_ n6_ n7_; clear hb hbox hg; have hnb30 := NB142_135.out; have hnc30 := NB135_142.out; have hcz31_0 : w29.cell? ⟨gb142, 0, none⟩ = some (.int .i64 0) := (blk_cell BK142.out 0).trans rfl; have hcz31_1 : w29.cell? ⟨gb142, 1, none⟩ = some (.int .i64 0) := (blk_cell BK142.out 1).trans rfl; have hfz31_0 := blk_frozen BK142.out 0; have hfz31_1 := blk_frozen BK142.out 1))
            go_ret
            exact ⟨by first | rfl | (simp [errW_none, errW_some] <;> rfl) | (simp [*, errW_none, errW_some] <;> rfl), by repeat (first | (with_reducible first | exact HB.out | apply below_alloc | apply pw_below_drewN | apply below_drew1 | refine below_set ?_ GE135.out | refine below_set ?_ GE142.out) | exact HB.out)⟩
  · replace c8 := Bool.eq_false_iff.mpr c8
    subst c8
    have H1 : (some false) = some r := by rw [if_neg (show ¬ (false = true) by decide)] at H; exact H
    clear H
    have H := H1
    clear H1
    obtain rfl := Option.some.inj H
    go_enter Try.func9, Try.ntmps9
    go_wp2_with (first | ((with_reducible refine gate_callee (f := 10) rfl ?_); refine goesL_ (some 17) rfl rfl Try.func10 (by kernel_rfl) rfl #[] rfl (by (try simp only [List.map_toArray, List.map_cons, List.map_nil]); first | done | rfl | (simp only [List.length_drop, List.length_take]; rfl)) ?_; (with_reducible refine (punchcutlaw17_awake.calls k  false _ A7.out).mono ?_); rintro e w32 ⟨rfl, hb⟩; refine ⟨_, rfl, ?_⟩; have n0_ := Aside0.mk (below_step (by repeat (first | (with_reducible first | exact HB.out | apply below_alloc | apply pw_below_drewN | apply below_drew1) | exact HB.out)) hb); clear HB; have HB := n0_; clear n0_; (try clear hb); (try clear hb2); (try clear hk); (try clear hi)))
    go_ret
    exact ⟨by first | rfl | (simp [errW_none, errW_some] <;> rfl) | (simp [*, errW_none, errW_some] <;> rfl), by repeat (first | (with_reducible first | exact HB.out | apply below_alloc | apply pw_below_drewN | apply below_drew1) | exact HB.out)⟩

/-- THE ONE PURE STATEMENT of punchcutlaw17_BilinFlat: yours. -/
def punchcutlaw17_BilinFlat.Pure : Prop := ∀ (a0 : Int) (a1 : Int) (a2 : Int) (a3 : Int) (a4 : Int) (a5 : Int), (Lit.int .u8 a0).wf = true → (Lit.int .u8 a1).wf = true → (Lit.int .u8 a2).wf = true → (Lit.int .i16 a3).wf = true → (Lit.int .i16 a4).wf = true → (Lit.int .u8 a5).wf = true → ∃ k, punchcutlaw17_BilinFlat.f k a0 a1 a2 a3 a4 a5 = some true
theorem punchcutlaw17_BilinFlat.walk (P : punchcutlaw17_BilinFlat.Pure) (a0 : Int) (a1 : Int) (a2 : Int) (a3 : Int) (a4 : Int) (a5 : Int) (w : World) (w0 : (Lit.int .u8 a0).wf = true) (w1 : (Lit.int .u8 a1).wf = true) (w2 : (Lit.int .u8 a2).wf = true) (w3 : (Lit.int .i16 a3).wf = true) (w4 : (Lit.int .i16 a4).wf = true) (w5 : (Lit.int .u8 a5).wf = true) :
    Calls Try.prog 9 #[.int .u8 a0, .int .u8 a1, .int .u8 a2, .int .i16 a3, .int .i16 a4, .int .u8 a5] w fun e w' => e = .returned (.bool true) ∧ Below w.heap.size w w' := by
  obtain ⟨k, h⟩ := P a0 a1 a2 a3 a4 a5 w0 w1 w2 w3 w4 w5
  refine (punchcutlaw17_BilinFlat.calls k a0 a1 a2 a3 a4 a5 true w h).mono ?_
  rintro e w' ⟨rfl, hd⟩
  exact ⟨rfl, hd⟩

end Go.Proofs.Ytignhpmfaodpjaa.PBilinFlat
