-- PRINTED BY print.sh 35421559b90ae4d0a3588c463048766b98c2df88dd9212a6774a882060cdf62d: not written by this session
import Derived.Test.YtccpcojknfnhpaaPRootScaledx0
import Derived.Test.YtccpcojknfnhpaaPRootScaledx2
import Derived.Test.YtccpcojknfnhpaaPRootScaledx3
import Derived.Test.YtccpcojknfnhpaaPRootScaledx4
namespace Go.Proofs.Ytccpcojknfnhpaa.PRootScaled
open Go.RowKit Go.Proofs.YtccpcojknfnhpaaW.PrintWords Go.Proofs.YtccpcojknfnhpaaW.PrintLast Go.Proofs.YtccpcojknfnhpaaW.PrintMore
attribute [local go_sem] max2_int min2_int max_two min_two max_three min_three max_four min_four   -- for this text's walks alone
set_option linter.unusedVariables false
set_option linter.unusedSimpArgs false

/-! ### punchcutlaw02_RootScaled: function 4 -/
mutual
def punchcutlaw02_RootScaled.l0 : Nat → Int → Int → List Int → Int → Int → Option (Bool)
  | 0, _, _, _, _, _ => none
  | k + 1, x0, x1, x20, x21, x22 => if x22 < x21 then (if 0 ≤ x22 then (if x22 < (x20.length : Int) then ((some (([(⟨x0, x1⟩ : S28), (⟨(mx 0 x0) / 1048576, mx 1 x1⟩ : S28)] : List (S28)) : List (S28))).bind fun y128 => (punchcutlaw02_RootScaled.l1 k x0 x1 (rd x20 x22) x20 x21 x22 y128 (y128.length : Int) 0)) else (none)) else (none)) else (some true)
def punchcutlaw02_RootScaled.l1 : Nat → Int → Int → Int → List Int → Int → Int → List (S28) → Int → Int → Option (Bool)
  | 0, _, _, _, _, _, _, _, _, _ => none
  | k + 1, x0, x1, x8, x20, x21, x22, x35, x36, x37 => if x37 < x36 then (if 0 ≤ x37 then (if x37 < (x35.length : Int) then ((root_Scaled.f k ((rd_T28 x35 x37).f0) ((rd_T28 x35 x37).f1) x8).bind fun t133 => (if x8 < 0 then (punchcutlaw02_RootScaled.j2 k x0 x1 x8 t133 x20 x21 x22 x35 x36 x37 true ((rd_T28 x35 x37).f0) ((rd_T28 x35 x37).f1)) else (if x8 > 1048576 then (punchcutlaw02_RootScaled.j2 k x0 x1 x8 t133 x20 x21 x22 x35 x36 x37 true ((rd_T28 x35 x37).f0) ((rd_T28 x35 x37).f1)) else (if ((rd_T28 x35 x37).f0) < 0 then (punchcutlaw02_RootScaled.j2 k x0 x1 x8 t133 x20 x21 x22 x35 x36 x37 true ((rd_T28 x35 x37).f0) ((rd_T28 x35 x37).f1)) else (punchcutlaw02_RootScaled.j2 k x0 x1 x8 t133 x20 x21 x22 x35 x36 x37 (decide (((rd_T28 x35 x37).f1) < 1)) ((rd_T28 x35 x37).f0) ((rd_T28 x35 x37).f1)))))) else (none)) else (none)) else (punchcutlaw02_RootScaled.l0 k x0 x1 x20 x21 (wrap64 (x22 + 1)))
def punchcutlaw02_RootScaled.j2 : Nat → Int → Int → Int → Int → List Int → Int → Int → List (S28) → Int → Int → Bool → Int → Int → Option (Bool)
  | 0, _, _, _, _, _, _, _, _, _, _, _, _, _ => none
  | k + 1, x0, x1, x8, x11, x20, x21, x22, x35, x36, x37, x59, x133000, x133001 => if x59 = true then (if x11 = (-1) then (punchcutlaw02_RootScaled.l1 k x0 x1 x8 x20 x21 x22 x35 x36 (wrap64 (x37 + 1))) else (some false)) else ((wide_Mul.f (IntKind.u64.wrap (x133000)) (IntKind.u64.wrap (wrap64 (x8 * x8)))).bind fun bt134 => ((wide_Pair_Div.f k bt134.1 bt134.2 (IntKind.u64.wrap (x133001))).bind fun bt136 => (if bt136.2.2 = 0 then (punchcutlaw02_RootScaled.j3 k x0 x1 x8 x11 bt136.1 x20 x21 x22 x35 x36 x37 (decide (bt136.1 > 4611686018427387904))) else (punchcutlaw02_RootScaled.j3 k x0 x1 x8 x11 bt136.1 x20 x21 x22 x35 x36 x37 true))))
def punchcutlaw02_RootScaled.j3 : Nat → Int → Int → Int → Int → Int → List Int → Int → Int → List (S28) → Int → Int → Bool → Option (Bool)
  | 0, _, _, _, _, _, _, _, _, _, _, _, _ => none
  | k + 1, x0, x1, x8, x11, x12, x20, x21, x22, x35, x36, x37, x83 => if x83 = true then (if x11 = (-1) then (punchcutlaw02_RootScaled.l1 k x0 x1 x8 x20 x21 x22 x35 x36 (wrap64 (x37 + 1))) else (some false)) else (if x11 < 0 then (some false) else (if x11 > 2147483648 then (some false) else (if (IntKind.u64.wrap ((IntKind.u64.wrap (x11)) * (IntKind.u64.wrap (x11)))) > x12 then (some false) else (if (IntKind.u64.wrap ((IntKind.u64.wrap (wrap64 (x11 + 1))) * (IntKind.u64.wrap (wrap64 (x11 + 1))))) ≤ x12 then (some false) else (punchcutlaw02_RootScaled.l1 k x0 x1 x8 x20 x21 x22 x35 x36 (wrap64 (x37 + 1)))))))
end
def punchcutlaw02_RootScaled.f (k : Nat) (a0 : Int) (a1 : Int) (a2 : Int) : Option (Bool) := (punchcutlaw02_awake.f k).bind fun t123 => (if t123 = true then ((some (([a2, Go.bits .and .i64 a2 1023] : List Int) : List Int)).bind fun y124 => (punchcutlaw02_RootScaled.l0 k a0 a1 y124 (y124.length : Int) 0)) else (some false))
theorem punchcutlaw02_RootScaled.mono_l : ∀ k, (∀ y0 y1 y2 y3 y4, LeO (punchcutlaw02_RootScaled.l0 k y0 y1 y2 y3 y4) (punchcutlaw02_RootScaled.l0 (k + 1) y0 y1 y2 y3 y4)) ∧ (∀ y0 y1 y2 y3 y4 y5 y6 y7 y8, LeO (punchcutlaw02_RootScaled.l1 k y0 y1 y2 y3 y4 y5 y6 y7 y8) (punchcutlaw02_RootScaled.l1 (k + 1) y0 y1 y2 y3 y4 y5 y6 y7 y8)) ∧ (∀ y0 y1 y2 y3 y4 y5 y6 y7 y8 y9 y10 y11 y12, LeO (punchcutlaw02_RootScaled.j2 k y0 y1 y2 y3 y4 y5 y6 y7 y8 y9 y10 y11 y12) (punchcutlaw02_RootScaled.j2 (k + 1) y0 y1 y2 y3 y4 y5 y6 y7 y8 y9 y10 y11 y12)) ∧ (∀ y0 y1 y2 y3 y4 y5 y6 y7 y8 y9 y10 y11, LeO (punchcutlaw02_RootScaled.j3 k y0 y1 y2 y3 y4 y5 y6 y7 y8 y9 y10 y11) (punchcutlaw02_RootScaled.j3 (k + 1) y0 y1 y2 y3 y4 y5 y6 y7 y8 y9 y10 y11))
  | 0 => ⟨fun _ _ _ _ _ r h => by simp [punchcutlaw02_RootScaled.l0] at h, fun _ _ _ _ _ _ _ _ _ r h => by simp [punchcutlaw02_RootScaled.l1] at h, fun _ _ _ _ _ _ _ _ _ _ _ _ _ r h => by simp [punchcutlaw02_RootScaled.j2] at h, fun _ _ _ _ _ _ _ _ _ _ _ _ r h => by simp [punchcutlaw02_RootScaled.j3] at h⟩
  | k + 1 => by
    obtain ⟨ih0, ih1, ih2, ih3⟩ := punchcutlaw02_RootScaled.mono_l k
    refine ⟨?_, ?_, ?_, ?_⟩
    · intro y0 y1 y2 y3 y4
      unfold punchcutlaw02_RootScaled.l0
      repeat' first
      | (with_reducible exact ih0 _ _ _ _ _)
      | (with_reducible exact ih1 _ _ _ _ _ _ _ _ _)
      | (with_reducible exact ih2 _ _ _ _ _ _ _ _ _ _ _ _ _)
      | (with_reducible exact ih3 _ _ _ _ _ _ _ _ _ _ _ _)
      | (with_reducible exact punchcutlaw02_awake.mono _)
      | (with_reducible exact root_Scaled.mono _ _ _ _)
      | (with_reducible exact wide_Pair_Div.mono _ _ _ _)
      | (with_reducible exact LeO.refl _)
      | (with_reducible exact LeO.none _)
      | (with_reducible refine LeO.ite ?_ ?_)
      | (with_reducible refine LeO.bind ?_ (fun _ => ?_))
      | exact ih0 _ _ _ _ _
      | exact ih1 _ _ _ _ _ _ _ _ _
      | exact ih2 _ _ _ _ _ _ _ _ _ _ _ _ _
      | exact ih3 _ _ _ _ _ _ _ _ _ _ _ _
      | exact punchcutlaw02_awake.mono _
      | exact root_Scaled.mono _ _ _ _
      | exact wide_Pair_Div.mono _ _ _ _
      | exact LeO.none _
      | refine LeO.ite ?_ ?_
      | refine LeO.bind ?_ (fun _ => ?_)
    · intro y0 y1 y2 y3 y4 y5 y6 y7 y8
      unfold punchcutlaw02_RootScaled.l1
      repeat' first
      | (with_reducible exact ih0 _ _ _ _ _)
      | (with_reducible exact ih1 _ _ _ _ _ _ _ _ _)
      | (with_reducible exact ih2 _ _ _ _ _ _ _ _ _ _ _ _ _)
      | (with_reducible exact ih3 _ _ _ _ _ _ _ _ _ _ _ _)
      | (with_reducible exact punchcutlaw02_awake.mono _)
      | (with_reducible exact root_Scaled.mono _ _ _ _)
      | (with_reducible exact wide_Pair_Div.mono _ _ _ _)
      | (with_reducible exact LeO.refl _)
      | (with_reducible exact LeO.none _)
      | (with_reducible refine LeO.ite ?_ ?_)
      | (with_reducible refine LeO.bind ?_ (fun _ => ?_))
      | exact ih0 _ _ _ _ _
      | exact ih1 _ _ _ _ _ _ _ _ _
      | exact ih2 _ _ _ _ _ _ _ _ _ _ _ _ _
      | exact ih3 _ _ _ _ _ _ _ _ _ _ _ _
      | exact punchcutlaw02_awake.mono _
      | exact root_Scaled.mono _ _ _ _
      | exact wide_Pair_Div.mono _ _ _ _
      | exact LeO.none _
      | refine LeO.ite ?_ ?_
      | refine LeO.bind ?_ (fun _ => ?_)
    · intro y0 y1 y2 y3 y4 y5 y6 y7 y8 y9 y10 y11 y12
      unfold punchcutlaw02_RootScaled.j2
      repeat' first
      | (with_reducible exact ih0 _ _ _ _ _)
      | (with_reducible exact ih1 _ _ _ _ _ _ _ _ _)
      | (with_reducible exact ih2 _ _ _ _ _ _ _ _ _ _ _ _ _)
      | (with_reducible exact ih3 _ _ _ _ _ _ _ _ _ _ _ _)
      | (with_reducible exact punchcutlaw02_awake.mono _)
      | (with_reducible exact root_Scaled.mono _ _ _ _)
      | (with_reducible exact wide_Pair_Div.mono _ _ _ _)
      | (with_reducible exact LeO.refl _)
      | (with_reducible exact LeO.none _)
      | (with_reducible refine LeO.ite ?_ ?_)
      | (with_reducible refine LeO.bind ?_ (fun _ => ?_))
      | exact ih0 _ _ _ _ _
      | exact ih1 _ _ _ _ _ _ _ _ _
      | exact ih2 _ _ _ _ _ _ _ _ _ _ _ _ _
      | exact ih3 _ _ _ _ _ _ _ _ _ _ _ _
      | exact punchcutlaw02_awake.mono _
      | exact root_Scaled.mono _ _ _ _
      | exact wide_Pair_Div.mono _ _ _ _
      | exact LeO.none _
      | refine LeO.ite ?_ ?_
      | refine LeO.bind ?_ (fun _ => ?_)
    · intro y0 y1 y2 y3 y4 y5 y6 y7 y8 y9 y10 y11
      unfold punchcutlaw02_RootScaled.j3
      repeat' first
      | (with_reducible exact ih0 _ _ _ _ _)
      | (with_reducible exact ih1 _ _ _ _ _ _ _ _ _)
      | (with_reducible exact ih2 _ _ _ _ _ _ _ _ _ _ _ _ _)
      | (with_reducible exact ih3 _ _ _ _ _ _ _ _ _ _ _ _)
      | (with_reducible exact punchcutlaw02_awake.mono _)
      | (with_reducible exact root_Scaled.mono _ _ _ _)
      | (with_reducible exact wide_Pair_Div.mono _ _ _ _)
      | (with_reducible exact LeO.refl _)
      | (with_reducible exact LeO.none _)
      | (with_reducible refine LeO.ite ?_ ?_)
      | (with_reducible refine LeO.bind ?_ (fun _ => ?_))
      | exact ih0 _ _ _ _ _
      | exact ih1 _ _ _ _ _ _ _ _ _
      | exact ih2 _ _ _ _ _ _ _ _ _ _ _ _ _
      | exact ih3 _ _ _ _ _ _ _ _ _ _ _ _
      | exact punchcutlaw02_awake.mono _
      | exact root_Scaled.mono _ _ _ _
      | exact wide_Pair_Div.mono _ _ _ _
      | exact LeO.none _
      | refine LeO.ite ?_ ?_
      | refine LeO.bind ?_ (fun _ => ?_)
theorem punchcutlaw02_RootScaled.mono : ∀ a0 a1 a2 k, LeO (punchcutlaw02_RootScaled.f k a0 a1 a2) (punchcutlaw02_RootScaled.f (k + 1) a0 a1 a2) := by
  intro a0 a1 a2 k
  obtain ⟨ih0, ih1, ih2, ih3⟩ := punchcutlaw02_RootScaled.mono_l k
  unfold punchcutlaw02_RootScaled.f
  repeat' first
      | (with_reducible exact ih0 _ _ _ _ _)
      | (with_reducible exact ih1 _ _ _ _ _ _ _ _ _)
      | (with_reducible exact ih2 _ _ _ _ _ _ _ _ _ _ _ _ _)
      | (with_reducible exact ih3 _ _ _ _ _ _ _ _ _ _ _ _)
      | (with_reducible exact punchcutlaw02_awake.mono _)
      | (with_reducible exact root_Scaled.mono _ _ _ _)
      | (with_reducible exact wide_Pair_Div.mono _ _ _ _)
      | (with_reducible exact LeO.refl _)
      | (with_reducible exact LeO.none _)
      | (with_reducible refine LeO.ite ?_ ?_)
      | (with_reducible refine LeO.bind ?_ (fun _ => ?_))
      | exact ih0 _ _ _ _ _
      | exact ih1 _ _ _ _ _ _ _ _ _
      | exact ih2 _ _ _ _ _ _ _ _ _ _ _ _ _
      | exact ih3 _ _ _ _ _ _ _ _ _ _ _ _
      | exact punchcutlaw02_awake.mono _
      | exact root_Scaled.mono _ _ _ _
      | exact wide_Pair_Div.mono _ _ _ _
      | exact LeO.none _
      | refine LeO.ite ?_ ?_
      | refine LeO.bind ?_ (fun _ => ?_)
def punchcutlaw02_RootScaled.T13 : Bool × List (List Nat × List Nat) := (true, [([], []), ([0], [0]), ([1], [1]), ([], []), ([], []), ([3, 4], [3, 4]), ([5], [5]), ([2, 6], [2, 6]), ([], []), ([8], [8]), ([9], [9]), ([7, 10, 7], [7, 10]), ([11], [11]), ([12], [12]), ([12], [12]), ([12], [12]), ([13, 11, 0, 1, 2, 3, 4, 5, 6, 7, 8, 9, 10, 11, 12, 13], [13]), ([14, 16, 0, 1, 2, 3, 4, 5, 6, 7, 8, 9, 10, 11, 12, 13, 14, 16], [14]), ([15, 17, 0, 1, 2, 3, 4, 5, 6, 7, 8, 9, 10, 11, 12, 13, 14, 15, 16, 17], [15])])
def punchcutlaw02_RootScaled.B13 : List Nat := [0, 1, 3, 0, 0, 24, 56, 127, 0, 256, 768, 2047, 4095, 8191, 8191, 8191, 16383, 98303, 262143]
theorem punchcutlaw02_RootScaled.tab13 : rtab .any (opsOf Try.f4 13) = punchcutlaw02_RootScaled.T13 := by kernel_rfl
theorem punchcutlaw02_RootScaled.bits13 : waitsOk punchcutlaw02_RootScaled.T13.2 punchcutlaw02_RootScaled.B13 = true := by kernel_rfl
set_option maxHeartbeats 8000000 in
set_option maxRecDepth 100000 in
theorem punchcutlaw02_RootScaled.calls (k : Nat) (a0 : Int) (a1 : Int) (a2 : Int) (r : Bool) (w : World) (h : punchcutlaw02_RootScaled.f k a0 a1 a2 = some r) :
    Calls Try.prog 4 #[.int .i64 a0, .int .i64 a1, .int .i64 a2] w fun e w' => e = .returned (.bool r) ∧ Below w.heap.size w w' := by
  have hu28 := Try.underlying28
  have HB := Aside0.mk (Below.refl w.heap.size w)
  have H : ((punchcutlaw02_awake.f k).bind fun t123 => (if t123 = true then ((some (([a2, Go.bits .and .i64 a2 1023] : List Int) : List Int)).bind fun y124 => (punchcutlaw02_RootScaled.l0 k a0 a1 y124 (y124.length : Int) 0)) else (some false))) = some r := h
  clear h
  replace H := Option.bind_eq_some_iff.mp H
  obtain ⟨t123, A40, H⟩ := H
  replace H : (if t123 = true then ((some (([a2, Go.bits .and .i64 a2 1023] : List Int) : List Int)).bind fun y124 => (punchcutlaw02_RootScaled.l0 k a0 a1 y124 (y124.length : Int) 0)) else (some false)) = some r := H
  have A4 := Aside0.mk A40
  clear A40
  by_cases c5 : t123 = true
  · subst c5
    have H1 : ((some (([a2, Go.bits .and .i64 a2 1023] : List Int) : List Int)).bind fun y124 => (punchcutlaw02_RootScaled.l0 k a0 a1 y124 (y124.length : Int) 0)) = some r := by rw [if_pos rfl] at H; exact H
    clear H
    have H := H1
    clear H1
    obtain ⟨y124, hy124⟩ : ∃ y_ : List Int, y_ = (([a2, Go.bits .and .i64 a2 1023] : List Int)) := ⟨_, rfl⟩
    replace H : (punchcutlaw02_RootScaled.l0 k a0 a1 y124 (y124.length : Int) 0) = some r := by first | (rw [hy124]; with_reducible exact H) | (have H2_ := (Option.bind_some _ _).symm.trans H; rw [hy124]; with_reducible exact H2_) | (have H2_ := (Option.bind_some _ _).symm.trans H; with_reducible exact H2_) | with_reducible exact H | (rw [hy124]; exact H) | exact H
    have Ny124 := Aside0.mk hy124
    clear hy124
    have H' := Aside0.mk H
    clear H
    go_enter Try.func4, Try.ntmps4
    go_wp2_with (first | ((with_reducible refine gate_callee (f := 10) rfl ?_); refine goesL_ (some 15) rfl rfl Try.func10 (by kernel_rfl) rfl #[] rfl (by (try simp only [List.map_toArray, List.map_cons, List.map_nil]); first | done | rfl | (simp only [List.length_drop, List.length_take]; rfl)) ?_; (with_reducible refine (punchcutlaw02_awake.calls k  true _ A4.out).mono ?_); rintro e w6 ⟨rfl, hb⟩; refine ⟨_, rfl, ?_⟩; have n0_ := Aside0.mk (below_step (by repeat (first | (with_reducible first | exact HB.out | apply below_alloc | apply pw_below_drewN | apply below_drew1) | exact HB.out)) hb); clear HB; have HB := n0_; clear n0_; (try clear hb); (try clear hb2); (try clear hk); (try clear hi)) | ((with_reducible refine gate_dst (N := 20) rfl ?_); refine Kd.R_lit (Kd.int .i64) _ 3 ?hg (N := 20) ?hd (xs := ([a2, Go.bits .and .i64 a2 1023] : List Int)) (inner := [.int .i64 a2, .int .i64 (Go.bits .and .i64 a2 1023)]) (ok := fun _ => True) (okp := fun _ => True) ?hr ?hp (fun _ hk => hk) trivial (Below.refl _ _) (Nat.le_refl _) (by simp) ?_; (case hd => rfl); (case hg => rfl); (case hr => first | (go_simp; done) | (go_simp; rfl)); (case hp => exact (Reps.one (show Kd.M (Kd.int .i64) _ _ _ a2 [.int .i64 a2] from rfl) (Reps.one (show Kd.M (Kd.int .i64) _ _ _ (Go.bits .and .i64 a2 1023) [.int .i64 (Go.bits .and .i64 a2 1023)] from rfl) (Reps.none _ _)))); intro v125 w7 ho8 hb hg_ hnew_; clear hg_ hnew_; (first | rw [← Ny124.out] at ho8 | (simp only [Int.reduceToNat] at ho8; rw [← Ny124.out] at ho8)); have n0_ := Aside0.mk (Kd.R_lower ho8 (below_size (by repeat (first | (with_reducible first | exact HB.out | apply below_alloc | apply pw_below_drewN | apply below_drew1) | exact HB.out)))); have n1_ := Aside0.mk (below_step (by repeat (first | (with_reducible first | exact HB.out | apply below_alloc | apply pw_below_drewN | apply below_drew1) | exact HB.out)) hb); clear HB; have HO126 := n0_; have HB := n1_; clear n0_ n1_; clear hb ho8; obtain ⟨Ao9, co9, eo9⟩ := Kd.R_slice HO126.out; subst eo9))
    go_loopg [22] k (fun kq v22 w' => ∃ (x22_1 : Int), v22 = .int .i64 x22_1 ∧ Aside0 (punchcutlaw02_RootScaled.l0 kq a0 a1 y124 (y124.length : Int) x22_1 = some r) ∧ Aside0 (kq ≤ k) ∧ Aside0 (Kd.R (Kd.int .i64) 3 w' w.heap.size (fun _ => True) (.slice Ao9 y124.length co9) y124) ∧ Aside0 (Below w.heap.size w w'))
    case atStart => exact ⟨(0), (by first | rfl | (simp; done) | (simp [*]; done)), H', ⟨Nat.le_refl _⟩, ⟨by (with_reducible repeat (first | apply Kd.R_alloc | apply Kd.R_drewN | apply Kd.R_drew)); exact HO126.out⟩, ⟨by repeat (first | (with_reducible first | exact HB.out | apply below_alloc | apply pw_below_drewN | apply below_drew1) | exact HB.out)⟩⟩
    case round =>
      clear H'
      try clear c1
      try clear p2
      try clear c4
      try clear c5
      obtain ⟨x22_1, rfl, HA, HK1, HO_20, HB⟩ := hrel
      cases gk with
      | zero => exact absurd HA.out (by simp [punchcutlaw02_RootScaled.l0])
      | succ k1 =>
        have H := HA.out
        clear HA
        simp only [punchcutlaw02_RootScaled.l0] at H
        by_cases c10 : x22_1 < (y124.length : Int)
        · rw [if_pos c10] at H
          have c10b0 : decide (x22_1 < (y124.length : Int)) = true := decide_eq_true c10
          clear c10
          by_cases c11 : 0 ≤ x22_1
          · rw [if_pos c11] at H
            have c11b0 : decide (0 ≤ x22_1) = true := decide_eq_true c11
            clear c11
            by_cases c12 : x22_1 < (y124.length : Int)
            · rw [if_pos c12] at H
              have c12b0 : decide (x22_1 < (y124.length : Int)) = true := decide_eq_true c12
              clear c12
              obtain ⟨ji13, hji13⟩ : ∃ j_ : Int, (mx 0 a0) = j_ := ⟨_, rfl⟩
              replace H : ((some (([(⟨a0, a1⟩ : S28), (⟨(ji13) / 1048576, mx 1 a1⟩ : S28)] : List (S28)) : List (S28))).bind fun y128 => (punchcutlaw02_RootScaled.l1 k1 a0 a1 (rd y124 x22_1) y124 (y124.length : Int) x22_1 y128 (y128.length : Int) 0)) = some r := by first | (rw [hji13] at H; exact H) | (simp only [hji13] at H ⊢; exact H)
              have hji13_ : (if 0 < a0 then a0 else 0) = ji13 := hji13
              obtain ⟨ji14, hji14⟩ : ∃ j_ : Int, (mx 1 a1) = j_ := ⟨_, rfl⟩
              replace H : ((some (([(⟨a0, a1⟩ : S28), (⟨(ji13) / 1048576, ji14⟩ : S28)] : List (S28)) : List (S28))).bind fun y128 => (punchcutlaw02_RootScaled.l1 k1 a0 a1 (rd y124 x22_1) y124 (y124.length : Int) x22_1 y128 (y128.length : Int) 0)) = some r := by first | (rw [hji14] at H; exact H) | (simp only [hji14] at H ⊢; exact H)
              have hji14_ : (if 1 < a1 then a1 else 1) = ji14 := hji14
              obtain ⟨y128, hy128⟩ : ∃ y_ : List (S28), y_ = (([(⟨a0, a1⟩ : S28), (⟨(ji13) / 1048576, ji14⟩ : S28)] : List (S28))) := ⟨_, rfl⟩
              replace H : (punchcutlaw02_RootScaled.l1 k1 a0 a1 (rd y124 x22_1) y124 (y124.length : Int) x22_1 y128 (y128.length : Int) 0) = some r := by first | (rw [hy128]; with_reducible exact H) | (have H2_ := (Option.bind_some _ _).symm.trans H; rw [hy128]; with_reducible exact H2_) | (have H2_ := (Option.bind_some _ _).symm.trans H; with_reducible exact H2_) | with_reducible exact H | (rw [hy128]; exact H) | exact H
              have Ny128 := Aside0.mk hy128
              clear hy128
              have H' := Aside0.mk H
              clear H
              have p127 : 0 ≤ (x22_1 : Int) := of_decide_eq_true (by first | (with_reducible assumption) | assumption)
              have q127 : x22_1 < (y124.length : Int) := of_decide_eq_true (by first | (with_reducible assumption) | assumption)
              obtain ⟨ad127, e127, hx127_0⟩ := Kd.at_int (Kd.R_reads' HO_20.out).2.2 x22_1 p127 q127
              cases e127
              replace p127 := eq_true p127
              replace q127 := eq_true q127
              go_wp2_with (first | ((with_reducible refine gate_dst (N := 35) rfl ?_); refine Kd.R_lit k28 _ 28 ?hg (N := 35) ?hd (xs := ([(⟨a0, a1⟩ : S28), (⟨(ji13) / 1048576, ji14⟩ : S28)] : List (S28))) (inner := [.int .i64 a0, .int .i64 a1, .int .i64 ((ji13) / 1048576), .int .i64 ji14]) (ok := fun _ => True) (okp := fun _ => True) ?hr ?hp (fun _ hk => hk) trivial (Below.refl _ _) (Nat.le_refl _) (by simp) ?_; (case hd => rfl); (case hg => rfl); (case hr => first | (go_simp; done) | (go_simp; rfl)); (case hp => exact (Reps.c2 (show Kd.M k28 _ _ _ (⟨a0, a1⟩ : S28) [.int .i64 a0, .int .i64 a1] from (k28_mkM _ _ _ (⟨a0, a1⟩ : S28) )) (Reps.c2 (show Kd.M k28 _ _ _ (⟨(ji13) / 1048576, ji14⟩ : S28) [.int .i64 ((ji13) / 1048576), .int .i64 ji14] from (k28_mkM _ _ _ (⟨(ji13) / 1048576, ji14⟩ : S28) )) (Reps.none _ _)))); intro v129 w15 ho16 hb hg_ hnew_; clear hg_ hnew_; (first | rw [← Ny128.out] at ho16 | (simp only [Int.reduceToNat] at ho16; rw [← Ny128.out] at ho16)); have n0_ := Aside0.mk (Kd.R_below (by (with_reducible repeat (first | apply Kd.R_alloc | apply Kd.R_drewN | apply Kd.R_drew)); exact HO_20.out) hb); have n1_ := Aside0.mk (Kd.R_lower ho16 (below_size (by repeat (first | (with_reducible first | exact HB.out | apply below_alloc | apply pw_below_drewN | apply below_drew1) | exact HB.out)))); have n2_ := Aside0.mk (below_step (by repeat (first | (with_reducible first | exact HB.out | apply below_alloc | apply pw_below_drewN | apply below_drew1) | exact HB.out)) hb); clear HO_20; clear HB; have HO_20 := n0_; have HO130 := n1_; have HB := n2_; clear n0_ n1_ n2_; clear hb ho16; obtain ⟨Ao17, co17, eo17⟩ := Kd.R_slice HO130.out; subst eo17))
              go_loopg [37] k1 (fun kq v37 w' => ∃ (x37_2 : Int), v37 = .int .i64 x37_2 ∧ Aside0 (punchcutlaw02_RootScaled.l1 kq a0 a1 (rd y124 x22_1) y124 (y124.length : Int) x22_1 y128 (y128.length : Int) x37_2 = some r) ∧ Aside0 (kq ≤ k1) ∧ Aside0 (Kd.R (Kd.int .i64) 3 w' w.heap.size (fun _ => True) (.slice (some ad127) y124.length co9) y124) ∧ Aside0 (Kd.R k28 28 w' w.heap.size (fun _ => True) (.slice Ao17 y128.length co17) y128) ∧ Aside0 (Below w.heap.size w w'))
              case atStart => exact ⟨(0), (by first | rfl | (simp; done) | (simp [*]; done)), H', ⟨Nat.le_refl _⟩, ⟨by (with_reducible repeat (first | apply Kd.R_alloc | apply Kd.R_drewN | apply Kd.R_drew)); exact HO_20.out⟩, ⟨by (with_reducible repeat (first | apply Kd.R_alloc | apply Kd.R_drewN | apply Kd.R_drew)); exact HO130.out⟩, ⟨by repeat (first | (with_reducible first | exact HB.out | apply below_alloc | apply pw_below_drewN | apply below_drew1) | exact HB.out)⟩⟩
              case round =>
                clear H'
                try clear c1
                try clear p1
                try clear q1
                try clear hx1
                try clear c2
                try clear p2
                try clear c4
                try clear c5
                try clear c10
                try clear c10b0
                try clear c11
                try clear c11b0
                try clear c12
                try clear c12b0
                try clear p12
                try clear q12
                try clear hx12
                try clear hx127_0
                try clear p127
                try clear p2
                try clear q127
                obtain ⟨x37_2, rfl, HA, HK2, HO_20, HO_35, HB⟩ := hrel
                cases gk with
                | zero => exact absurd HA.out (by simp [punchcutlaw02_RootScaled.l1])
                | succ k2 =>
                  have H := HA.out
                  clear HA
                  simp only [punchcutlaw02_RootScaled.l1] at H
                  by_cases c18 : x37_2 < (y128.length : Int)
                  · rw [if_pos c18] at H
                    have c18b0 : decide (x37_2 < (y128.length : Int)) = true := decide_eq_true c18
                    clear c18
                    by_cases c19 : 0 ≤ x37_2
                    · rw [if_pos c19] at H
                      have c19b0 : decide (0 ≤ x37_2) = true := decide_eq_true c19
                      clear c19
                      by_cases c20 : x37_2 < (y128.length : Int)
                      · rw [if_pos c20] at H
                        have c20b0 : decide (x37_2 < (y128.length : Int)) = true := decide_eq_true c20
                        clear c20
                        replace H := Option.bind_eq_some_iff.mp H
                        obtain ⟨t133, A210, H⟩ := H
                        replace H : (if (rd y124 x22_1) < 0 then (punchcutlaw02_RootScaled.j2 k2 a0 a1 (rd y124 x22_1) t133 y124 (y124.length : Int) x22_1 y128 (y128.length : Int) x37_2 true ((rd_T28 y128 x37_2).f0) ((rd_T28 y128 x37_2).f1)) else (if (rd y124 x22_1) > 1048576 then (punchcutlaw02_RootScaled.j2 k2 a0 a1 (rd y124 x22_1) t133 y124 (y124.length : Int) x22_1 y128 (y128.length : Int) x37_2 true ((rd_T28 y128 x37_2).f0) ((rd_T28 y128 x37_2).f1)) else (if ((rd_T28 y128 x37_2).f0) < 0 then (punchcutlaw02_RootScaled.j2 k2 a0 a1 (rd y124 x22_1) t133 y124 (y124.length : Int) x22_1 y128 (y128.length : Int) x37_2 true ((rd_T28 y128 x37_2).f0) ((rd_T28 y128 x37_2).f1)) else (punchcutlaw02_RootScaled.j2 k2 a0 a1 (rd y124 x22_1) t133 y124 (y124.length : Int) x22_1 y128 (y128.length : Int) x37_2 (decide (((rd_T28 y128 x37_2).f1) < 1)) ((rd_T28 y128 x37_2).f0) ((rd_T28 y128 x37_2).f1))))) = some r := H
                        have A21 := Aside0.mk A210
                        clear A210
                        have HC22 := Aside0.mk H
                        clear H
                        have p131 : 0 ≤ (x37_2 : Int) := of_decide_eq_true (by first | (with_reducible assumption) | assumption)
                        have q131 : x37_2 < (y128.length : Int) := of_decide_eq_true (by first | (with_reducible assumption) | assumption)
                        obtain ⟨ad131, e131, hx131_0, hx131_1⟩ := at_T28 (Kd.R_reads' HO_35.out).2.2 x37_2 p131 q131
                        cases e131
                        replace p131 := eq_true p131
                        replace q131 := eq_true q131
                        go_upto_region 10 with (first | ((with_reducible refine gate_dst (N := 10) rfl ?_); refine box_event ?hg (N := 10) ?hd (cs := #[.int .i64 0, .int .i64 0]) (t := 28) ?hr ?_; (case hd => rfl); (case hg => rfl); (case hr => first | (go_simp; done) | (go_simp; rfl)); intro gb132 hg w23 hbox hb; have n0_ := Aside0.mk (Kd.R_below (by (with_reducible repeat (first | apply Kd.R_alloc | apply Kd.R_drewN | apply Kd.R_drew)); exact HO_20.out) hb); have n1_ := Aside0.mk (Kd.R_below (Kd.R_elderB (by (with_reducible repeat (first | apply Kd.R_alloc | apply Kd.R_drewN | apply Kd.R_drew)); exact HO_35.out) gb132 (Nat.le_of_eq hg.symm)) hb); have n2_ := Aside0.mk (below_step (by repeat (first | (with_reducible first | exact HB.out | apply below_alloc | apply pw_below_drewN | apply below_drew1) | exact HB.out)) hb); have n3_ := Aside0.mk (hbox); have n4_ := Aside0.mk ((by rw [hg]; exact (below_size (by repeat (first | (with_reducible first | exact HB.out | apply below_alloc | apply pw_below_drewN | apply below_drew1) | exact HB.out))) : w.heap.size ≤ gb132)); have n5_ := Aside0.mk ((by rw [hg]; exact (below_size (by repeat (first | (with_reducible first | exact HB.out | apply below_alloc | apply pw_below_drewN | apply below_drew1) | exact HB.out))) : w.heap.size ≤ gb132)); clear HO_20; clear HO_35; clear HB; have HO_20 := n0_; have HO_35 := n1_; have HB := n2_; have BK132 := n3_; have GW132 := n4_; have GE132 := n5_; clear n0_ n1_ n2_ n3_ n4_ n5_; clear hb hbox hg; have hcz24_0 : w23.cell? ⟨gb132, 0, none⟩ = some (.int .i64 0) := (blk_cell BK132.out 0).trans rfl; have hcz24_1 : w23.cell? ⟨gb132, 1, none⟩ = some (.int .i64 0) := (blk_cell BK132.out 1).trans rfl; have hfz24_0 := blk_frozen BK132.out 0; have hfz24_1 := blk_frozen BK132.out 1) | ((with_reducible refine gate_callee (f := 12) rfl ?_); refine goesL_ (some 43) rfl rfl Try.func12 (by kernel_rfl) rfl #[.agg #[.int .i64 ((rd_T28 y128 x37_2).f0), .int .i64 ((rd_T28 y128 x37_2).f1)], .int .i64 (rd y124 x22_1)] rfl (by (try simp only [List.map_toArray, List.map_cons, List.map_nil]); first | done | rfl | (simp only [List.length_drop, List.length_take]; rfl)) ?_; (with_reducible refine (root_Scaled.calls k2 ((rd_T28 y128 x37_2).f0) ((rd_T28 y128 x37_2).f1) (rd y124 x22_1) t133 _ A21.out).mono ?_); rintro e w25 ⟨rfl, hb⟩; refine ⟨_, rfl, ?_⟩; have n0_ := Aside0.mk (Kd.R_below (by (with_reducible repeat (first | apply Kd.R_alloc | apply Kd.R_drewN | apply Kd.R_drew)); exact (Kd.R_mono (Kd.R_far (p := ⟨gb132, 1, none⟩) (Kd.R_far (p := ⟨gb132, 0, none⟩) (Kd.R_types HO_20.out BK132.out (by decide)) (fun _ hk => hk.2) (.int .i64 ((rd_T28 y128 x37_2).f0))) (fun _ hk => hk.2) (.int .i64 ((rd_T28 y128 x37_2).f1))) (fun _ h_ => h_.1))) hb); have n1_ := Aside0.mk (Kd.R_below (by (with_reducible repeat (first | apply Kd.R_alloc | apply Kd.R_drewN | apply Kd.R_drew)); exact (Kd.R_mono (Kd.R_far (p := ⟨gb132, 1, none⟩) (Kd.R_far (p := ⟨gb132, 0, none⟩) (Kd.R_mono HO_35.out (fun k_ hk => (⟨hk, hk.2⟩ : _ ∧ k_ ≠ gb132))) (fun _ hk => hk.2) (.int .i64 ((rd_T28 y128 x37_2).f0))) (fun _ hk => hk.2) (.int .i64 ((rd_T28 y128 x37_2).f1))) (fun _ h_ => h_.1))) hb); have n2_ := Aside0.mk (blk_below (g := gb132) (o := .cells #[.int .i64 ((rd_T28 y128 x37_2).f0), .int .i64 ((rd_T28 y128 x37_2).f1)] 28 (0, 0)) (by (with_reducible repeat (first | refine blk_drewN ?_ _ | refine blk_drew ?_ | refine blk_alloc ?_ _)); refine blk_put (cs := #[.int .i64 ((rd_T28 y128 x37_2).f0), .int .i64 0]) ?_ 1 _ rfl; (with_reducible repeat (first | refine blk_drewN ?_ _ | refine blk_drew ?_ | refine blk_alloc ?_ _)); refine blk_put (cs := #[.int .i64 0, .int .i64 0]) ?_ 0 _ rfl; (with_reducible repeat (first | refine blk_drewN ?_ _ | refine blk_drew ?_ | refine blk_alloc ?_ _)); exact BK132.out) hb); have n3_ := Aside0.mk (below_step (by repeat (first | (with_reducible first | exact HB.out | apply below_alloc | apply pw_below_drewN | apply below_drew1 | refine below_set ?_ GE132.out) | exact HB.out)) hb); clear HO_20; clear HO_35; clear BK132; clear HB; have HO_20 := n0_; have HO_35 := n1_; have BK132 := n2_; have HB := n3_; clear n0_ n1_ n2_ n3_; (try clear hb); (try clear hb2); (try clear hk); (try clear hi)))
                        (try simp only [Act.put, List.setIfInBounds_toArray, List.set_cons_zero, List.set_cons_succ])
                        go_cut [59] (fun v59 wc => ∃ (kq : Nat) (x59_21 : Bool), v59 = .bool x59_21 ∧ Aside0 (punchcutlaw02_RootScaled.j2 kq a0 a1 (rd y124 x22_1) t133 y124 (y124.length : Int) x22_1 y128 (y128.length : Int) x37_2 x59_21 ((rd_T28 y128 x37_2).f0) ((rd_T28 y128 x37_2).f1) = some r) ∧ Aside0 (kq ≤ k2) ∧ Aside0 (Kd.R (Kd.int .i64) 3 wc w.heap.size (fun _ => True) (.slice (some ad127) y124.length co9) y124) ∧ Aside0 (Kd.R k28 28 wc w.heap.size (fun k_ => k_ ≠ gb132) (.slice (some ad131) y128.length co17) y128) ∧ Aside0 (wc.heap[gb132]? = some (.cells #[.int .i64 ((rd_T28 y128 x37_2).f0), .int .i64 ((rd_T28 y128 x37_2).f1)] 28 (0, 0))) ∧ Aside0 (Below w.heap.size w wc))
                        case first =>
                          have H := HC22.out
                          clear HC22
                          by_cases c26 : (rd y124 x22_1) < 0
                          · rw [if_pos c26] at H
                            have c26b0 : decide ((rd y124 x22_1) < 0) = true := decide_eq_true c26
                            clear c26
                            (first | rw [c26b0] | (simp only [i64_w, i32_w]; rw [c26b0]) | skip)
                            have H' := Aside0.mk H
                            clear H
                            go_wp2
                            go_meet
                            case rel => exact ⟨_, (true), (by first | rfl | (simp; done) | (simp [*]; done)), H', ⟨by have := HK1.out; have := HK2.out; first | omega | exact Nat.le_refl _⟩, ⟨by (with_reducible repeat (first | apply Kd.R_alloc | apply Kd.R_drewN | apply Kd.R_drew)); exact HO_20.out⟩, ⟨by (with_reducible repeat (first | apply Kd.R_alloc | apply Kd.R_drewN | apply Kd.R_drew)); exact Kd.R_mono HO_35.out (fun _ hk => hk.2)⟩, ⟨by (with_reducible repeat (first | refine blk_drewN ?_ _ | refine blk_drew ?_ | refine blk_alloc ?_ _)); exact BK132.out⟩, ⟨by repeat (first | (with_reducible first | exact HB.out | apply below_alloc | apply pw_below_drewN | apply below_drew1 | refine below_set ?_ GE132.out) | exact HB.out)⟩⟩
                          · rw [if_neg c26] at H
                            have c26b0 : decide ((rd y124 x22_1) < 0) = false := decide_eq_false c26
                            clear c26
                            (first | rw [c26b0] | (simp only [i64_w, i32_w]; rw [c26b0]) | skip)
                            by_cases c27 : (rd y124 x22_1) > 1048576
                            · rw [if_pos c27] at H
                              have c27b0 : decide (1048576 < (rd y124 x22_1)) = true := decide_eq_true c27
                              clear c27
                              have H' := Aside0.mk H
                              clear H
                              go_wp2
                              go_meet
                              case rel => exact ⟨_, (true), (by first | rfl | (simp; done) | (simp [*]; done)), H', ⟨by have := HK1.out; have := HK2.out; first | omega | exact Nat.le_refl _⟩, ⟨by (with_reducible repeat (first | apply Kd.R_alloc | apply Kd.R_drewN | apply Kd.R_drew)); exact HO_20.out⟩, ⟨by (with_reducible repeat (first | apply Kd.R_alloc | apply Kd.R_drewN | apply Kd.R_drew)); exact Kd.R_mono HO_35.out (fun _ hk => hk.2)⟩, ⟨by (with_reducible repeat (first | refine blk_drewN ?_ _ | refine blk_drew ?_ | refine blk_alloc ?_ _)); exact BK132.out⟩, ⟨by repeat (first | (with_reducible first | exact HB.out | apply below_alloc | apply pw_below_drewN | apply below_drew1 | refine below_set ?_ GE132.out) | exact HB.out)⟩⟩
                            · rw [if_neg c27] at H
                              have c27b0 : decide (1048576 < (rd y124 x22_1)) = false := decide_eq_false c27
                              clear c27
                              by_cases c28 : ((rd_T28 y128 x37_2).f0) < 0
                              · rw [if_pos c28] at H
                                have c28b0 : decide (((rd_T28 y128 x37_2).f0) < 0) = true := decide_eq_true c28
                                clear c28
                                have H' := Aside0.mk H
                                clear H
                                have hcz29_0 : w25.cell? ⟨gb132, 0, none⟩ = some (.int .i64 ((rd_T28 y128 x37_2).f0)) := (blk_cell BK132.out 0).trans rfl
                                have hcz29_1 : w25.cell? ⟨gb132, 1, none⟩ = some (.int .i64 ((rd_T28 y128 x37_2).f1)) := (blk_cell BK132.out 1).trans rfl
                                have hfz29_0 := blk_frozen BK132.out 0
                                have hfz29_1 := blk_frozen BK132.out 1
                                go_wp2
                                go_meet
                                case rel => exact ⟨_, (true), (by first | rfl | (simp; done) | (simp [*]; done)), H', ⟨by have := HK1.out; have := HK2.out; first | omega | exact Nat.le_refl _⟩, ⟨by (with_reducible repeat (first | apply Kd.R_alloc | apply Kd.R_drewN | apply Kd.R_drew)); exact HO_20.out⟩, ⟨by (with_reducible repeat (first | apply Kd.R_alloc | apply Kd.R_drewN | apply Kd.R_drew)); exact Kd.R_mono HO_35.out (fun _ hk => hk.2)⟩, ⟨by (with_reducible repeat (first | refine blk_drewN ?_ _ | refine blk_drew ?_ | refine blk_alloc ?_ _)); exact BK132.out⟩, ⟨by repeat (first | (with_reducible first | exact HB.out | apply below_alloc | apply pw_below_drewN | apply below_drew1 | refine below_set ?_ GE132.out) | exact HB.out)⟩⟩
                              · rw [if_neg c28] at H
                                have c28b0 : decide (((rd_T28 y128 x37_2).f0) < 0) = false := decide_eq_false c28
                                clear c28
                                have H' := Aside0.mk H
                                clear H
                                have hcz30_0 : w25.cell? ⟨gb132, 0, none⟩ = some (.int .i64 ((rd_T28 y128 x37_2).f0)) := (blk_cell BK132.out 0).trans rfl
                                have hcz30_1 : w25.cell? ⟨gb132, 1, none⟩ = some (.int .i64 ((rd_T28 y128 x37_2).f1)) := (blk_cell BK132.out 1).trans rfl
                                have hfz30_0 := blk_frozen BK132.out 0
                                have hfz30_1 := blk_frozen BK132.out 1
                                go_wp2
                                go_meet
                                case rel => exact ⟨_, (decide (((rd_T28 y128 x37_2).f1) < 1)), (by first | rfl | (simp; done) | (simp [*]; done)), H', ⟨by have := HK1.out; have := HK2.out; first | omega | exact Nat.le_refl _⟩, ⟨by (with_reducible repeat (first | apply Kd.R_alloc | apply Kd.R_drewN | apply Kd.R_drew)); exact HO_20.out⟩, ⟨by (with_reducible repeat (first | apply Kd.R_alloc | apply Kd.R_drewN | apply Kd.R_drew)); exact Kd.R_mono HO_35.out (fun _ hk => hk.2)⟩, ⟨by (with_reducible repeat (first | refine blk_drewN ?_ _ | refine blk_drew ?_ | refine blk_alloc ?_ _)); exact BK132.out⟩, ⟨by repeat (first | (with_reducible first | exact HB.out | apply below_alloc | apply pw_below_drewN | apply below_drew1 | refine below_set ?_ GE132.out) | exact HB.out)⟩⟩
                        case rest =>
                          clear HC22
                          try clear c1
                          try clear p1
                          try clear q1
                          try clear hx1
                          try clear c2
                          try clear p2
                          try clear c4
                          try clear c5
                          try clear c10
                          try clear c10b0
                          try clear c11
                          try clear c11b0
                          try clear c12
                          try clear c12b0
                          try clear p12
                          try clear q12
                          try clear hx12
                          try clear p13
                          try clear q13
                          try clear hx13
                          try clear c18
                          try clear c18b0
                          try clear c19
                          try clear c19b0
                          try clear c20
                          try clear c20b0
                          try clear c26
                          try clear c26b0
                          try clear c27
                          try clear c27b0
                          try clear c28
                          try clear c28b0
                          try clear hcz24_0
                          try clear hcz24_1
                          try clear hcz29_0
                          try clear hcz29_1
                          try clear hcz30_0
                          try clear hcz30_1
                          try clear hfz24_0
                          try clear hfz24_1
                          try clear hfz29_0
                          try clear hfz29_1
                          try clear hfz30_0
                          try clear hfz30_1
                          try clear hx127_0
                          try clear hx131_0
                          try clear hx131_1
                          try clear p1
                          try clear p12
                          try clear p127
                          try clear p131
                          try clear p2
                          try clear q1
                          try clear q12
                          try clear q127
                          try clear q131
                          obtain ⟨kq, x59_21, rfl, HA, HJ21, HO_20, HO_35, BK132, HB⟩ := hcut
                          cases kq with
                          | zero => exact absurd HA.out (by simp [punchcutlaw02_RootScaled.j2])
                          | succ kj21 =>
                            have H := HA.out
                            clear HA
                            simp only [punchcutlaw02_RootScaled.j2] at H
                            by_cases c31 : x59_21 = true
                            · subst c31
                              have H1 : (if t133 = (-1) then (punchcutlaw02_RootScaled.l1 kj21 a0 a1 (rd y124 x22_1) y124 (y124.length : Int) x22_1 y128 (y128.length : Int) (wrap64 (x37_2 + 1))) else (some false)) = some r := by rw [if_pos rfl] at H; exact H
                              clear H
                              have H := H1
                              clear H1
                              by_cases c32 : t133 = (-1)
                              · rw [if_pos c32] at H
                                have c32b0 : (t133 == (-1)) = true := beq_iff_eq.mpr c32
                                have c32b1 : (t133 != (-1)) = false := bne_eq_false_iff_eq.mpr c32
                                clear c32
                                have H' := Aside0.mk H
                                clear H
                                go_wp2
                                go_roundg kj21
                                case measure => have := HK1.out; have := HK2.out; have := HJ21.out; omega
                                case rel => exact ⟨(wrap64 (x37_2 + 1)), (by first | rfl | (simp; done) | (simp [*]; done)), H', ⟨by have := HK1.out; have := HK2.out; have := HJ21.out; omega⟩, ⟨by (with_reducible repeat (first | apply Kd.R_alloc | apply Kd.R_drewN | apply Kd.R_drew)); exact HO_20.out⟩, ⟨by (with_reducible repeat (first | apply Kd.R_alloc | apply Kd.R_drewN | apply Kd.R_drew)); exact Kd.R_mono HO_35.out (fun _ hk => trivial)⟩, ⟨by repeat (first | (with_reducible first | exact HB.out | apply below_alloc | apply pw_below_drewN | apply below_drew1 | refine below_set ?_ GE132.out) | exact HB.out)⟩⟩
                              · rw [if_neg c32] at H
                                have c32b0 : (t133 == (-1)) = false := beq_eq_false_iff_ne.mpr c32
                                have c32b1 : (t133 != (-1)) = true := bne_iff_ne.mpr c32
                                obtain rfl := Option.some.inj H
                                go_wp2
                                go_ret
                                exact ⟨by first | rfl | (simp [errW_none, errW_some] <;> rfl) | (simp only [← hji13, ← hji14]; first | rfl | (simp [errW_none, errW_some] <;> rfl)) | (simp [*, errW_none, errW_some] <;> rfl), by repeat (first | (with_reducible first | exact HB.out | apply below_alloc | apply pw_below_drewN | apply below_drew1 | refine below_set ?_ GE132.out) | exact HB.out)⟩
                            · replace c31 := Bool.eq_false_iff.mpr c31
                              subst c31
                              have H1 : ((wide_Mul.f (IntKind.u64.wrap (((rd_T28 y128 x37_2).f0))) (IntKind.u64.wrap (wrap64 ((rd y124 x22_1) * (rd y124 x22_1))))).bind fun bt134 => ((wide_Pair_Div.f kj21 bt134.1 bt134.2 (IntKind.u64.wrap (((rd_T28 y128 x37_2).f1)))).bind fun bt136 => (if bt136.2.2 = 0 then (punchcutlaw02_RootScaled.j3 kj21 a0 a1 (rd y124 x22_1) t133 bt136.1 y124 (y124.length : Int) x22_1 y128 (y128.length : Int) x37_2 (decide (bt136.1 > 4611686018427387904))) else (punchcutlaw02_RootScaled.j3 kj21 a0 a1 (rd y124 x22_1) t133 bt136.1 y124 (y124.length : Int) x22_1 y128 (y128.length : Int) x37_2 true)))) = some r := by rw [if_neg (show ¬ (false = true) by decide)] at H; exact H
                              clear H
                              have H := H1
                              clear H1
                              replace H := Option.bind_eq_some_iff.mp H
                              obtain ⟨⟨t134, t135⟩, A330, H⟩ := H
                              replace H : ((wide_Pair_Div.f kj21 t134 t135 (IntKind.u64.wrap (((rd_T28 y128 x37_2).f1)))).bind fun bt136 => (if bt136.2.2 = 0 then (punchcutlaw02_RootScaled.j3 kj21 a0 a1 (rd y124 x22_1) t133 bt136.1 y124 (y124.length : Int) x22_1 y128 (y128.length : Int) x37_2 (decide (bt136.1 > 4611686018427387904))) else (punchcutlaw02_RootScaled.j3 kj21 a0 a1 (rd y124 x22_1) t133 bt136.1 y124 (y124.length : Int) x22_1 y128 (y128.length : Int) x37_2 true))) = some r := H
                              have A33 := Aside0.mk A330
                              clear A330
                              replace H := Option.bind_eq_some_iff.mp H
                              obtain ⟨⟨t136, t137, t138⟩, A340, H⟩ := H
                              replace H : (if t138 = 0 then (punchcutlaw02_RootScaled.j3 kj21 a0 a1 (rd y124 x22_1) t133 t136 y124 (y124.length : Int) x22_1 y128 (y128.length : Int) x37_2 (decide (t136 > 4611686018427387904))) else (punchcutlaw02_RootScaled.j3 kj21 a0 a1 (rd y124 x22_1) t133 t136 y124 (y124.length : Int) x22_1 y128 (y128.length : Int) x37_2 true)) = some r := H
                              have A34 := Aside0.mk A340
                              clear A340
                              have HC35 := Aside0.mk H
                              clear H
                              try go_wp2
                              have n0_ := Aside0.mk (Kd.R_drew HO_20.out)
                              have n1_ := Aside0.mk (Kd.R_drew HO_35.out)
                              have n2_ := Aside0.mk (blk_drew BK132.out)
                              have n3_ := Aside0.mk (below_drew1 HB.out)
                              clear HO_20
                              clear HO_35
                              clear BK132
                              clear HB
                              have HO_20 := n0_
                              have HO_35 := n1_
                              have BK132 := n2_
                              have HB := n3_
                              clear n0_ n1_ n2_ n3_
                              refine start_ (n := 19) (S := fun w' => w'.cell? ⟨gb132, 0, none⟩ = some (.int .i64 ((rd_T28 y128 x37_2).f0)) ∧ w'.cell? ⟨gb132, 1, none⟩ = some (.int .i64 ((rd_T28 y128 x37_2).f1))) (ds := []) #[false, false, false, false, false, false, false, false, false, false, false, false, false, false, false, false, false, false, false] (by kernel_rfl) rfl rfl ⟨(blk_cell BK132.out 0).trans rfl, (blk_cell BK132.out 1).trans rfl⟩ (fun hHeld => ?_); refine with_tabW punchcutlaw02_RootScaled.tab13 punchcutlaw02_RootScaled.bits13 (fun HT_ HW_ => ?_)
                              generalize wc.drew = w36 at HO_20 HO_35 BK132 HB hHeld ⊢
                              refine pure_ (i := 0) (N := some 63) (v := ?_) (a' := ?_) #[true, false, false, false, false, false, false, false, false, false, false, false, false, false, false, false, false, false, false] rfl rfl (any_of HT_.out (by kernel_rfl)) (fun _ _ _ h => h) (Or.inl ⟨by rfl, ?_⟩) ?_ ?_
                              rotate_left
                              · intro w'
                                go_simp
                                with_reducible rfl
                              rotate_left
                              · simp only [Act.put, List.setIfInBounds_toArray, List.set_cons_zero, List.set_cons_succ, i64_w, i32_w]
                                rfl
                              refine pure_ (i := 3) (N := some 66) (v := ?_) (a' := ?_) #[true, false, false, true, false, false, false, false, false, false, false, false, false, false, false, false, false, false, false] rfl rfl (any_of HT_.out (by kernel_rfl)) (fun _ _ _ h => h) (Or.inl ⟨by rfl, ?_⟩) ?_ ?_
                              rotate_left
                              · intro w'
                                go_simp
                                with_reducible rfl
                              rotate_left
                              · simp only [Act.put, List.setIfInBounds_toArray, List.set_cons_zero, List.set_cons_succ, i64_w, i32_w]
                                rfl
                              refine pure_ (i := 4) (N := some 67) (v := ?_) (a' := ?_) #[true, false, false, true, true, false, false, false, false, false, false, false, false, false, false, false, false, false, false] rfl rfl (any_of HT_.out (by kernel_rfl)) (fun _ _ _ h => h) (Or.inl ⟨by rfl, ?_⟩) ?_ ?_
                              rotate_left
                              · intro w'
                                go_simp
                                with_reducible rfl
                              rotate_left
                              · simp only [Act.put, List.setIfInBounds_toArray, List.set_cons_zero, List.set_cons_succ, i64_w, i32_w]
                                rfl
                              refine pure_ (i := 5) (N := some 68) (v := ?_) (a' := ?_) #[true, false, false, true, true, true, false, false, false, false, false, false, false, false, false, false, false, false, false] rfl rfl (any_of HT_.out (by kernel_rfl)) (fun _ _ _ h => h) (Or.inl ⟨by rfl, ?_⟩) ?_ ?_
                              rotate_left
                              · intro w'
                                go_simp
                                with_reducible rfl
                              rotate_left
                              · simp only [Act.put, List.setIfInBounds_toArray, List.set_cons_zero, List.set_cons_succ, i64_w, i32_w]
                                rfl
                              refine pure_ (i := 6) (N := some 69) (v := ?_) (a' := ?_) #[true, false, false, true, true, true, true, false, false, false, false, false, false, false, false, false, false, false, false] rfl rfl (any_of HT_.out (by kernel_rfl)) (fun _ _ _ h => h) (Or.inl ⟨by rfl, ?_⟩) ?_ ?_
                              rotate_left
                              · intro w'
                                go_simp
                                with_reducible rfl
                              rotate_left
                              · simp only [Act.put, List.setIfInBounds_toArray, List.set_cons_zero, List.set_cons_succ, i64_w, i32_w]
                                rfl
                              refine pure_ (i := 8) (N := some 71) (v := ?_) (a' := ?_) #[true, false, false, true, true, true, true, false, true, false, false, false, false, false, false, false, false, false, false] rfl rfl (any_of HT_.out (by kernel_rfl)) (fun _ _ _ h => h) (Or.inl ⟨by rfl, ?_⟩) ?_ ?_
                              rotate_left
                              · intro w'
                                go_simp
                                with_reducible rfl
                              rotate_left
                              · simp only [Act.put, List.setIfInBounds_toArray, List.set_cons_zero, List.set_cons_succ, i64_w, i32_w]
                                rfl
                              refine take_ (i := 1) (N := some 64) (v := ?_) (a' := ?_) #[true, true, false, true, true, true, true, false, true, false, false, false, false, false, false, false, false, false, false] rfl rfl (take_ofW HT_.out HW_.out (by kernel_rfl)) (fun _ _ _ h => h) (Or.inl ⟨by rfl, ?_⟩) hHeld ?_ ?_
                              rotate_left
                              · rintro w' ⟨s0, s1⟩
                                go_simp
                                with_reducible rfl
                              rotate_left
                              · simp only [Act.put, List.setIfInBounds_toArray, List.set_cons_zero, List.set_cons_succ, i64_w, i32_w]
                                rfl
                              refine pure_ (i := 2) (N := some 65) (v := ?_) (a' := ?_) #[true, true, true, true, true, true, true, false, true, false, false, false, false, false, false, false, false, false, false] rfl rfl (any_of HT_.out (by kernel_rfl)) (fun _ _ _ h => h) (Or.inl ⟨by rfl, ?_⟩) ?_ ?_
                              rotate_left
                              · intro w'
                                go_simp
                                with_reducible rfl
                              rotate_left
                              · simp only [Act.put, List.setIfInBounds_toArray, List.set_cons_zero, List.set_cons_succ, i64_w, i32_w]
                                rfl
                              refine take_ (i := 9) (N := some 72) (v := ?_) (a' := ?_) #[true, true, true, true, true, true, true, false, true, true, false, false, false, false, false, false, false, false, false] rfl rfl (take_ofW HT_.out HW_.out (by kernel_rfl)) (fun _ _ _ h => h) (Or.inl ⟨by rfl, ?_⟩) hHeld ?_ ?_
                              rotate_left
                              · rintro w' ⟨s0, s1⟩
                                go_simp
                                with_reducible rfl
                              rotate_left
                              · simp only [Act.put, List.setIfInBounds_toArray, List.set_cons_zero, List.set_cons_succ, i64_w, i32_w]
                                rfl
                              refine pure_ (i := 10) (N := some 73) (v := ?_) (a' := ?_) #[true, true, true, true, true, true, true, false, true, true, true, false, false, false, false, false, false, false, false] rfl rfl (any_of HT_.out (by kernel_rfl)) (fun _ _ _ h => h) (Or.inl ⟨by rfl, ?_⟩) ?_ ?_
                              rotate_left
                              · intro w'
                                go_simp
                                with_reducible rfl
                              rotate_left
                              · simp only [Act.put, List.setIfInBounds_toArray, List.set_cons_zero, List.set_cons_succ, i64_w, i32_w]
                                rfl
                              refine one_ (i := 7) (N := some 70) #[true, true, true, true, true, true, true, true, true, true, true, false, false, false, false, false, false, false, false] rfl rfl (one_of HT_.out (by kernel_rfl)) (by decide) (fun K hK => ?_)
                              refine goes_ Try.func13 (by kernel_rfl) rfl #[.int .u64 (IntKind.u64.wrap (((rd_T28 y128 x37_2).f0))), .int .u64 (IntKind.u64.wrap (wrap64 ((rd y124 x22_1) * (rd y124 x22_1))))] (by rfl) rfl rfl (by (try simp only [List.map_toArray, List.map_cons, List.map_nil]); first | done | rfl | (simp only [List.length_drop, List.length_take]; rfl)) ?_
                              with_reducible refine (wide_Mul.calls (IntKind.u64.wrap (((rd_T28 y128 x37_2).f0))) (IntKind.u64.wrap (wrap64 ((rd y124 x22_1) * (rd y124 x22_1)))) t134 t135 _ A33.out).mono ?_
                              rintro e w37 ⟨rfl, hb⟩
                              refine ⟨_, rfl, ?_⟩
                              have n0_ := Aside0.mk (Kd.R_below (by (with_reducible repeat (first | apply Kd.R_alloc | apply Kd.R_drewN | apply Kd.R_drew)); exact HO_20.out) hb)
                              have n1_ := Aside0.mk (Kd.R_below (by (with_reducible repeat (first | apply Kd.R_alloc | apply Kd.R_drewN | apply Kd.R_drew)); exact HO_35.out) hb)
                              have n2_ := Aside0.mk (blk_below (g := gb132) (o := .cells #[.int .i64 ((rd_T28 y128 x37_2).f0), .int .i64 ((rd_T28 y128 x37_2).f1)] 28 (0, 0)) (by (with_reducible repeat (first | refine blk_drewN ?_ _ | refine blk_drew ?_ | refine blk_alloc ?_ _)); exact BK132.out) hb)
                              have n3_ := Aside0.mk (below_step (by repeat (first | (with_reducible first | exact HB.out | apply below_alloc | apply pw_below_drewN | apply below_drew1 | refine below_set ?_ GE132.out) | exact HB.out)) hb)
                              clear HO_20
                              clear HO_35
                              clear BK132
                              clear HB
                              have HO_20 := n0_
                              have HO_35 := n1_
                              have BK132 := n2_
                              have HB := n3_
                              clear n0_ n1_ n2_ n3_
                              (try clear hb)
                              (try clear hb2)
                              (try clear hk)
                              (try clear hi)
                              refine hK.out _ _ ⟨(blk_cell BK132.out 0).trans rfl, (blk_cell BK132.out 1).trans rfl⟩ (fun hHeld => ?_)
                              clear hK K
                              refine norm_ (a' := ?_) ?_ ?_
                              rotate_left
                              · show Act.put _ (some 70) _ = _
                                simp only [Act.put, List.setIfInBounds_toArray, List.set_cons_zero, List.set_cons_succ, i64_w, i32_w]
                                rfl
                              refine one_ (i := 11) (N := some 74) #[true, true, true, true, true, true, true, true, true, true, true, true, false, false, false, false, false, false, false] rfl rfl (one_of HT_.out (by kernel_rfl)) (by decide) (fun K hK => ?_)
                              refine goes_ Try.func14 (by kernel_rfl) rfl #[.agg #[.int .u64 t134, .int .u64 t135], .int .u64 (IntKind.u64.wrap (((rd_T28 y128 x37_2).f1)))] (by rfl) rfl rfl (by (try simp only [List.map_toArray, List.map_cons, List.map_nil]); first | done | rfl | (simp only [List.length_drop, List.length_take]; rfl)) ?_
                              with_reducible refine (wide_Pair_Div.calls kj21 t134 t135 (IntKind.u64.wrap (((rd_T28 y128 x37_2).f1))) t136 t137 t138 _ A34.out).mono ?_
                              rintro e w38 ⟨rfl, hb⟩
                              refine ⟨_, rfl, ?_⟩
                              have n0_ := Aside0.mk (Kd.R_below (by (with_reducible repeat (first | apply Kd.R_alloc | apply Kd.R_drewN | apply Kd.R_drew)); exact HO_20.out) hb)
                              have n1_ := Aside0.mk (Kd.R_below (by (with_reducible repeat (first | apply Kd.R_alloc | apply Kd.R_drewN | apply Kd.R_drew)); exact HO_35.out) hb)
                              have n2_ := Aside0.mk (blk_below (g := gb132) (o := .cells #[.int .i64 ((rd_T28 y128 x37_2).f0), .int .i64 ((rd_T28 y128 x37_2).f1)] 28 (0, 0)) (by (with_reducible repeat (first | refine blk_drewN ?_ _ | refine blk_drew ?_ | refine blk_alloc ?_ _)); exact BK132.out) hb)
                              have n3_ := Aside0.mk (below_step (by repeat (first | (with_reducible first | exact HB.out | apply below_alloc | apply pw_below_drewN | apply below_drew1 | refine below_set ?_ GE132.out) | exact HB.out)) hb)
                              clear HO_20
                              clear HO_35
                              clear BK132
                              clear HB
                              have HO_20 := n0_
                              have HO_35 := n1_
                              have BK132 := n2_
                              have HB := n3_
                              clear n0_ n1_ n2_ n3_
                              (try clear hb)
                              (try clear hb2)
                              (try clear hk)
                              (try clear hi)
                              refine hK.out _ _ ⟨(blk_cell BK132.out 0).trans rfl, (blk_cell BK132.out 1).trans rfl⟩ (fun hHeld => ?_)
                              clear hK K
                              refine norm_ (a' := ?_) ?_ ?_
                              rotate_left
                              · show Act.put _ (some 74) _ = _
                                simp only [Act.put, List.setIfInBounds_toArray, List.set_cons_zero, List.set_cons_succ, i64_w, i32_w]
                                rfl
                              refine pure_ (i := 12) (N := some 62) (v := ?_) (a' := ?_) #[true, true, true, true, true, true, true, true, true, true, true, true, true, false, false, false, false, false, false] rfl rfl (any_of HT_.out (by kernel_rfl)) (fun _ _ _ h => h) (Or.inl ⟨by rfl, ?_⟩) ?_ ?_
                              rotate_left
                              · intro w'
                                go_simp
                                with_reducible rfl
                              rotate_left
                              · simp only [Act.put, List.setIfInBounds_toArray, List.set_cons_zero, List.set_cons_succ, i64_w, i32_w]
                                rfl
                              refine pure_ (i := 13) (N := some 75) (v := ?_) (a' := ?_) #[true, true, true, true, true, true, true, true, true, true, true, true, true, true, false, false, false, false, false] rfl rfl (any_of HT_.out (by kernel_rfl)) (fun _ _ _ h => h) (Or.inl ⟨by rfl, ?_⟩) ?_ ?_
                              rotate_left
                              · intro w'
                                go_simp
                                with_reducible rfl
                              rotate_left
                              · simp only [Act.put, List.setIfInBounds_toArray, List.set_cons_zero, List.set_cons_succ, i64_w, i32_w]
                                rfl
                              refine pure_ (i := 14) (N := some 76) (v := ?_) (a' := ?_) #[true, true, true, true, true, true, true, true, true, true, true, true, true, true, true, false, false, false, false] rfl rfl (any_of HT_.out (by kernel_rfl)) (fun _ _ _ h => h) (Or.inl ⟨by rfl, ?_⟩) ?_ ?_
                              rotate_left
                              · intro w'
                                go_simp
                                with_reducible rfl
                              rotate_left
                              · simp only [Act.put, List.setIfInBounds_toArray, List.set_cons_zero, List.set_cons_succ, i64_w, i32_w]
                                rfl
                              refine pure_ (i := 15) (N := some 77) (v := ?_) (a' := ?_) #[true, true, true, true, true, true, true, true, true, true, true, true, true, true, true, true, false, false, false] rfl rfl (any_of HT_.out (by kernel_rfl)) (fun _ _ _ h => h) (Or.inl ⟨by rfl, ?_⟩) ?_ ?_
                              rotate_left
                              · intro w'
                                go_simp
                                with_reducible rfl
                              rotate_left
                              · simp only [Act.put, List.setIfInBounds_toArray, List.set_cons_zero, List.set_cons_succ, i64_w, i32_w]
                                rfl
                              refine pure_ (i := 16) (N := some 12) (v := ?_) (a' := ?_) #[true, true, true, true, true, true, true, true, true, true, true, true, true, true, true, true, true, false, false] rfl rfl (any_of HT_.out (by kernel_rfl)) (fun _ _ _ h => h) (Or.inl ⟨by rfl, ?_⟩) ?_ ?_
                              rotate_left
                              · intro w'
                                go_simp
                                with_reducible rfl
                              rotate_left
                              · simp only [Act.put, List.setIfInBounds_toArray, List.set_cons_zero, List.set_cons_succ, i64_w, i32_w]
                                rfl
                              refine pure_ (i := 17) (N := some 13) (v := ?_) (a' := ?_) #[true, true, true, true, true, true, true, true, true, true, true, true, true, true, true, true, true, true, false] rfl rfl (any_of HT_.out (by kernel_rfl)) (fun _ _ _ h => h) (Or.inl ⟨by rfl, ?_⟩) ?_ ?_
                              rotate_left
                              · intro w'
                                go_simp
                                with_reducible rfl
                              rotate_left
                              · simp only [Act.put, List.setIfInBounds_toArray, List.set_cons_zero, List.set_cons_succ, i64_w, i32_w]
                                rfl
                              refine pure_ (i := 18) (N := some 14) (v := ?_) (a' := ?_) #[true, true, true, true, true, true, true, true, true, true, true, true, true, true, true, true, true, true, true] rfl rfl (any_of HT_.out (by kernel_rfl)) (fun _ _ _ h => h) (Or.inl ⟨by rfl, ?_⟩) ?_ ?_
                              rotate_left
                              · intro w'
                                go_simp
                                with_reducible rfl
                              rotate_left
                              · simp only [Act.put, List.setIfInBounds_toArray, List.set_cons_zero, List.set_cons_succ, i64_w, i32_w]
                                rfl
                              refine done_ (done_of HT_.out (by kernel_rfl)) ?_
                              go_upto_region 14 with (fail)
                              go_cut [83] (fun v83 wc => ∃ (kq : Nat) (x83_34 : Bool), v83 = .bool x83_34 ∧ Aside0 (punchcutlaw02_RootScaled.j3 kq a0 a1 (rd y124 x22_1) t133 t136 y124 (y124.length : Int) x22_1 y128 (y128.length : Int) x37_2 x83_34 = some r) ∧ Aside0 (kq ≤ kj21) ∧ Aside0 (Kd.R (Kd.int .i64) 3 wc w.heap.size (fun _ => True) (.slice (some ad127) y124.length co9) y124) ∧ Aside0 (Kd.R k28 28 wc w.heap.size (fun k_ => k_ ≠ gb132) (.slice (some ad131) y128.length co17) y128) ∧ Aside0 (wc.heap[gb132]? = some (.cells #[.int .i64 ((rd_T28 y128 x37_2).f0), .int .i64 ((rd_T28 y128 x37_2).f1)] 28 (0, 0))) ∧ Aside0 (Below w.heap.size w wc))
                              case first =>
                                have H := HC35.out
                                clear HC35
                                by_cases c39 : t138 = 0
                                · rw [if_pos c39] at H
                                  have c39b0 : (t138 == 0) = true := beq_iff_eq.mpr c39
                                  have c39b1 : (t138 != 0) = false := bne_eq_false_iff_eq.mpr c39
                                  clear c39
                                  (first | rw [c39b0] | (simp only [i64_w, i32_w]; rw [c39b0]) | skip)
                                  have H' := Aside0.mk H
                                  clear H
                                  go_wp2
                                  go_meet
                                  case rel => exact ⟨_, (decide (t136 > 4611686018427387904)), (by first | rfl | (simp; done) | (simp [*]; done)), H', ⟨by have := HK1.out; have := HK2.out; have := HJ21.out; first | omega | exact Nat.le_refl _⟩, ⟨by (with_reducible repeat (first | apply Kd.R_alloc | apply Kd.R_drewN | apply Kd.R_drew)); exact HO_20.out⟩, ⟨by (with_reducible repeat (first | apply Kd.R_alloc | apply Kd.R_drewN | apply Kd.R_drew)); exact HO_35.out⟩, ⟨by (with_reducible repeat (first | refine blk_drewN ?_ _ | refine blk_drew ?_ | refine blk_alloc ?_ _)); exact BK132.out⟩, ⟨by repeat (first | (with_reducible first | exact HB.out | apply below_alloc | apply pw_below_drewN | apply below_drew1 | refine below_set ?_ GE132.out) | exact HB.out)⟩⟩
                                · rw [if_neg c39] at H
                                  have c39b0 : (t138 == 0) = false := beq_eq_false_iff_ne.mpr c39
                                  have c39b1 : (t138 != 0) = true := bne_iff_ne.mpr c39
                                  (first | rw [c39b0] | (simp only [i64_w, i32_w]; rw [c39b0]) | skip)
                                  have H' := Aside0.mk H
                                  clear H
                                  go_wp2
                                  go_meet
                                  case rel => exact ⟨_, (true), (by first | rfl | (simp; done) | (simp [*]; done)), H', ⟨by have := HK1.out; have := HK2.out; have := HJ21.out; first | omega | exact Nat.le_refl _⟩, ⟨by (with_reducible repeat (first | apply Kd.R_alloc | apply Kd.R_drewN | apply Kd.R_drew)); exact HO_20.out⟩, ⟨by (with_reducible repeat (first | apply Kd.R_alloc | apply Kd.R_drewN | apply Kd.R_drew)); exact HO_35.out⟩, ⟨by (with_reducible repeat (first | refine blk_drewN ?_ _ | refine blk_drew ?_ | refine blk_alloc ?_ _)); exact BK132.out⟩, ⟨by repeat (first | (with_reducible first | exact HB.out | apply below_alloc | apply pw_below_drewN | apply below_drew1 | refine below_set ?_ GE132.out) | exact HB.out)⟩⟩
                              case rest =>
                                clear HC35
                                try clear c1
                                try clear p1
                                try clear q1
                                try clear hx1
                                try clear c2
                                try clear p2
                                try clear c3
                                try clear c4
                                try clear c5
                                try clear p6
                                try clear c10
                                try clear c10b0
                                try clear c11
                                try clear c11b0
                                try clear c12
                                try clear c12b0
                                try clear p12
                                try clear q12
                                try clear hx12
                                try clear c13
                                try clear p13
                                try clear q13
                                try clear hx13
                                try clear c14
                                try clear c18
                                try clear c18b0
                                try clear c19
                                try clear c19b0
                                try clear c20
                                try clear c20b0
                                try clear c26
                                try clear c26b0
                                try clear c27
                                try clear c27b0
                                try clear c28
                                try clear c28b0
                                try clear c31
                                try clear c32
                                try clear c32b0
                                try clear c32b1
                                try clear c39
                                try clear c39b0
                                try clear c39b1
                                try clear hcz24_0
                                try clear hcz24_1
                                try clear hcz29_0
                                try clear hcz29_1
                                try clear hcz30_0
                                try clear hcz30_1
                                try clear hfz24_0
                                try clear hfz24_1
                                try clear hfz29_0
                                try clear hfz29_1
                                try clear hfz30_0
                                try clear hfz30_1
                                try clear hx127_0
                                try clear hx131_0
                                try clear hx131_1
                                try clear p1
                                try clear p12
                                try clear p127
                                try clear p13
                                try clear p131
                                try clear p2
                                try clear q1
                                try clear q12
                                try clear q127
                                try clear q13
                                try clear q131
                                obtain ⟨kq, x83_34, rfl, HA, HJ34, HO_20, HO_35, BK132, HB⟩ := hcut
                                cases kq with
                                | zero => exact absurd HA.out (by simp [punchcutlaw02_RootScaled.j3])
                                | succ kj34 =>
                                  have H := HA.out
                                  clear HA
                                  simp only [punchcutlaw02_RootScaled.j3] at H
                                  by_cases c40 : x83_34 = true
                                  · subst c40
                                    have H1 : (if t133 = (-1) then (punchcutlaw02_RootScaled.l1 kj34 a0 a1 (rd y124 x22_1) y124 (y124.length : Int) x22_1 y128 (y128.length : Int) (wrap64 (x37_2 + 1))) else (some false)) = some r := by rw [if_pos rfl] at H; exact H
                                    clear H
                                    have H := H1
                                    clear H1
                                    by_cases c41 : t133 = (-1)
                                    · rw [if_pos c41] at H
                                      have c41b0 : (t133 == (-1)) = true := beq_iff_eq.mpr c41
                                      have c41b1 : (t133 != (-1)) = false := bne_eq_false_iff_eq.mpr c41
                                      clear c41
                                      have H' := Aside0.mk H
                                      clear H
                                      go_wp2
                                      go_roundg kj34
                                      case measure => have := HK1.out; have := HK2.out; have := HJ21.out; have := HJ34.out; omega
                                      case rel => exact ⟨(wrap64 (x37_2 + 1)), (by first | rfl | (simp; done) | (simp [*]; done)), H', ⟨by have := HK1.out; have := HK2.out; have := HJ21.out; have := HJ34.out; omega⟩, ⟨by (with_reducible repeat (first | apply Kd.R_alloc | apply Kd.R_drewN | apply Kd.R_drew)); exact HO_20.out⟩, ⟨by (with_reducible repeat (first | apply Kd.R_alloc | apply Kd.R_drewN | apply Kd.R_drew)); exact Kd.R_mono HO_35.out (fun _ hk => trivial)⟩, ⟨by repeat (first | (with_reducible first | exact HB.out | apply below_alloc | apply pw_below_drewN | apply below_drew1 | refine below_set ?_ GE132.out) | exact HB.out)⟩⟩
                                    · rw [if_neg c41] at H
                                      have c41b0 : (t133 == (-1)) = false := beq_eq_false_iff_ne.mpr c41
                                      have c41b1 : (t133 != (-1)) = true := bne_iff_ne.mpr c41
                                      obtain rfl := Option.some.inj H
                                      go_wp2
                                      go_ret
                                      exact ⟨by first | rfl | (simp [errW_none, errW_some] <;> rfl) | (simp only [← hji13, ← hji14]; first | rfl | (simp [errW_none, errW_some] <;> rfl)) | (simp [*, errW_none, errW_some] <;> rfl), by repeat (first | (with_reducible first | exact HB.out | apply below_alloc | apply pw_below_drewN | apply below_drew1 | refine below_set ?_ GE132.out) | exact HB.out)⟩
                                  · replace c40 := Bool.eq_false_iff.mpr c40
                                    subst c40
                                    have H1 : (if t133 < 0 then (some false) else (if t133 > 2147483648 then (some false) else (if (IntKind.u64.wrap ((IntKind.u64.wrap (t133)) * (IntKind.u64.wrap (t133)))) > t136 then (some false) else (if (IntKind.u64.wrap ((IntKind.u64.wrap (wrap64 (t133 + 1))) * (IntKind.u64.wrap (wrap64 (t133 + 1))))) ≤ t136 then (some false) else (punchcutlaw02_RootScaled.l1 kj34 a0 a1 (rd y124 x22_1) y124 (y124.length : Int) x22_1 y128 (y128.length : Int) (wrap64 (x37_2 + 1))))))) = some r := by rw [if_neg (show ¬ (false = true) by decide)] at H; exact H
                                    clear H
                                    have H := H1
                                    clear H1
                                    by_cases c42 : t133 < 0
                                    · rw [if_pos c42] at H
                                      have c42b0 : decide (t133 < 0) = true := decide_eq_true c42
                                      clear c42
                                      obtain rfl := Option.some.inj H
                                      go_wp2
                                      go_ret
                                      exact ⟨by first | rfl | (simp [errW_none, errW_some] <;> rfl) | (simp only [← hji13, ← hji14]; first | rfl | (simp [errW_none, errW_some] <;> rfl)) | (simp [*, errW_none, errW_some] <;> rfl), by repeat (first | (with_reducible first | exact HB.out | apply below_alloc | apply pw_below_drewN | apply below_drew1 | refine below_set ?_ GE132.out) | exact HB.out)⟩
                                    · rw [if_neg c42] at H
                                      have c42b0 : decide (t133 < 0) = false := decide_eq_false c42
                                      clear c42
                                      by_cases c43 : t133 > 2147483648
                                      · rw [if_pos c43] at H
                                        have c43b0 : decide (2147483648 < t133) = true := decide_eq_true c43
                                        clear c43
                                        obtain rfl := Option.some.inj H
                                        go_wp2
                                        go_ret
                                        exact ⟨by first | rfl | (simp [errW_none, errW_some] <;> rfl) | (simp only [← hji13, ← hji14]; first | rfl | (simp [errW_none, errW_some] <;> rfl)) | (simp [*, errW_none, errW_some] <;> rfl), by repeat (first | (with_reducible first | exact HB.out | apply below_alloc | apply pw_below_drewN | apply below_drew1 | refine below_set ?_ GE132.out) | exact HB.out)⟩
                                      · rw [if_neg c43] at H
                                        have c43b0 : decide (2147483648 < t133) = false := decide_eq_false c43
                                        clear c43
                                        by_cases c44 : (IntKind.u64.wrap ((IntKind.u64.wrap (t133)) * (IntKind.u64.wrap (t133)))) > t136
                                        · rw [if_pos c44] at H
                                          have c44b0 : decide (t136 < (IntKind.u64.wrap ((IntKind.u64.wrap (t133)) * (IntKind.u64.wrap (t133))))) = true := decide_eq_true c44
                                          clear c44
                                          obtain rfl := Option.some.inj H
                                          go_wp2
                                          go_ret
                                          exact ⟨by first | rfl | (simp [errW_none, errW_some] <;> rfl) | (simp only [← hji13, ← hji14]; first | rfl | (simp [errW_none, errW_some] <;> rfl)) | (simp [*, errW_none, errW_some] <;> rfl), by repeat (first | (with_reducible first | exact HB.out | apply below_alloc | apply pw_below_drewN | apply below_drew1 | refine below_set ?_ GE132.out) | exact HB.out)⟩
                                        · rw [if_neg c44] at H
                                          have c44b0 : decide (t136 < (IntKind.u64.wrap ((IntKind.u64.wrap (t133)) * (IntKind.u64.wrap (t133))))) = false := decide_eq_false c44
                                          clear c44
                                          by_cases c45 : (IntKind.u64.wrap ((IntKind.u64.wrap (wrap64 (t133 + 1))) * (IntKind.u64.wrap (wrap64 (t133 + 1))))) ≤ t136
                                          · rw [if_pos c45] at H
                                            have c45b0 : decide ((IntKind.u64.wrap ((IntKind.u64.wrap (wrap64 (t133 + 1))) * (IntKind.u64.wrap (wrap64 (t133 + 1))))) ≤ t136) = true := decide_eq_true c45
                                            clear c45
                                            obtain rfl := Option.some.inj H
                                            go_wp2
                                            go_ret
                                            exact ⟨by first | rfl | (simp [errW_none, errW_some] <;> rfl) | (simp only [← hji13, ← hji14]; first | rfl | (simp [errW_none, errW_some] <;> rfl)) | (simp [*, errW_none, errW_some] <;> rfl), by repeat (first | (with_reducible first | exact HB.out | apply below_alloc | apply pw_below_drewN | apply below_drew1 | refine below_set ?_ GE132.out) | exact HB.out)⟩
                                          · rw [if_neg c45] at H
                                            have c45b0 : decide ((IntKind.u64.wrap ((IntKind.u64.wrap (wrap64 (t133 + 1))) * (IntKind.u64.wrap (wrap64 (t133 + 1))))) ≤ t136) = false := decide_eq_false c45
                                            clear c45
                                            have H' := Aside0.mk H
                                            clear H
                                            go_wp2
                                            go_roundg kj34
                                            case measure => have := HK1.out; have := HK2.out; have := HJ21.out; have := HJ34.out; omega
                                            case rel => exact ⟨(wrap64 (x37_2 + 1)), (by first | rfl | (simp; done) | (simp [*]; done)), H', ⟨by have := HK1.out; have := HK2.out; have := HJ21.out; have := HJ34.out; omega⟩, ⟨by (with_reducible repeat (first | apply Kd.R_alloc | apply Kd.R_drewN | apply Kd.R_drew)); exact HO_20.out⟩, ⟨by (with_reducible repeat (first | apply Kd.R_alloc | apply Kd.R_drewN | apply Kd.R_drew)); exact Kd.R_mono HO_35.out (fun _ hk => trivial)⟩, ⟨by repeat (first | (with_reducible first | exact HB.out | apply below_alloc | apply pw_below_drewN | apply below_drew1 | refine below_set ?_ GE132.out) | exact HB.out)⟩⟩
                      · rw [if_neg c20] at H
                        exact absurd H (by simp)
                    · rw [if_neg c19] at H
                      exact absurd H (by simp)
                  · rw [if_neg c18] at H
                    have c18b0 : decide (x37_2 < (y128.length : Int)) = false := decide_eq_false c18
                    clear c18
                    have H' := Aside0.mk H
                    clear H
                    go_wp2
                    go_roundg k2
                    case measure => have := HK1.out; have := HK2.out; omega
                    case rel => exact ⟨(wrap64 (x22_1 + 1)), (by first | rfl | (simp; done) | (simp [*]; done)), H', ⟨by have := HK1.out; have := HK2.out; omega⟩, ⟨by (with_reducible repeat (first | apply Kd.R_alloc | apply Kd.R_drewN | apply Kd.R_drew)); exact HO_20.out⟩, ⟨by repeat (first | (with_reducible first | exact HB.out | apply below_alloc | apply pw_below_drewN | apply below_drew1) | exact HB.out)⟩⟩
            · rw [if_neg c12] at H
              exact absurd H (by simp)
          · rw [if_neg c11] at H
            exact absurd H (by simp)
        · rw [if_neg c10] at H
          have c10b0 : decide (x22_1 < (y124.length : Int)) = false := decide_eq_false c10
          clear c10
          obtain rfl := Option.some.inj H
          go_wp2
          go_ret
          exact ⟨by first | rfl | (simp [errW_none, errW_some] <;> rfl) | (simp [*, errW_none, errW_some] <;> rfl), by repeat (first | (with_reducible first | exact HB.out | apply below_alloc | apply pw_below_drewN | apply below_drew1) | exact HB.out)⟩
  · replace c5 := Bool.eq_false_iff.mpr c5
    subst c5
    have H1 : (some false) = some r := by rw [if_neg (show ¬ (false = true) by decide)] at H; exact H
    clear H
    have H := H1
    clear H1
    obtain rfl := Option.some.inj H
    go_enter Try.func4, Try.ntmps4
    go_wp2_with (first | ((with_reducible refine gate_callee (f := 10) rfl ?_); refine goesL_ (some 15) rfl rfl Try.func10 (by kernel_rfl) rfl #[] rfl (by (try simp only [List.map_toArray, List.map_cons, List.map_nil]); first | done | rfl | (simp only [List.length_drop, List.length_take]; rfl)) ?_; (with_reducible refine (punchcutlaw02_awake.calls k  false _ A4.out).mono ?_); rintro e w46 ⟨rfl, hb⟩; refine ⟨_, rfl, ?_⟩; have n0_ := Aside0.mk (below_step (by repeat (first | (with_reducible first | exact HB.out | apply below_alloc | apply pw_below_drewN | apply below_drew1) | exact HB.out)) hb); clear HB; have HB := n0_; clear n0_; (try clear hb); (try clear hb2); (try clear hk); (try clear hi)))
    go_ret
    exact ⟨by first | rfl | (simp [errW_none, errW_some] <;> rfl) | (simp [*, errW_none, errW_some] <;> rfl), by repeat (first | (with_reducible first | exact HB.out | apply below_alloc | apply pw_below_drewN | apply below_drew1) | exact HB.out)⟩

/-- THE ONE PURE STATEMENT of punchcutlaw02_RootScaled: yours. -/
def punchcutlaw02_RootScaled.Pure : Prop := ∀ (a0 : Int) (a1 : Int) (a2 : Int), (Lit.int .i64 a0).wf = true → (Lit.int .i64 a1).wf = true → (Lit.int .i64 a2).wf = true → ∃ k, punchcutlaw02_RootScaled.f k a0 a1 a2 = some true
theorem punchcutlaw02_RootScaled.walk (P : punchcutlaw02_RootScaled.Pure) (a0 : Int) (a1 : Int) (a2 : Int) (w : World) (w0 : (Lit.int .i64 a0).wf = true) (w1 : (Lit.int .i64 a1).wf = true) (w2 : (Lit.int .i64 a2).wf = true) :
    Calls Try.prog 4 #[.int .i64 a0, .int .i64 a1, .int .i64 a2] w fun e w' => e = .returned (.bool true) ∧ Below w.heap.size w w' := by
  obtain ⟨k, h⟩ := P a0 a1 a2 w0 w1 w2
  refine (punchcutlaw02_RootScaled.calls k a0 a1 a2 true w h).mono ?_
  rintro e w' ⟨rfl, hd⟩
  exact ⟨rfl, hd⟩

end Go.Proofs.Ytccpcojknfnhpaa.PRootScaled
