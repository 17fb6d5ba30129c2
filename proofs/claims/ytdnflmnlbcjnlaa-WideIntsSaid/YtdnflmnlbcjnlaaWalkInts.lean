/- WideInts' walk: sums and products of ints that go over are told. Conditions: both are ints. -/
import Derived.Test.YtdnflmnlbcjnlaaPWideIntsx2
import Derived.Test.YtdnflmnlbcjnlaaCore
import Derived.Deep.RegionHeld3
import Derived.Deep.DrawnRows
import Derived.Deep.DeepCutAuto
import Derived.Lib.Hide
import Derived.OpenShut
namespace Go.Proofs.Ytdnflmnlbcjnlaa.WalkInts
open Go Go.RowKit Go.Proofs.YtdnflmnlbcjnlaaW.PrintWords Go.Proofs.YtdnflmnlbcjnlaaW.PrintLast Go.Proofs.YtdnflmnlbcjnlaaW.PrintMore Go.Proofs.Ytdnflmnlbcjnlaa.Core Go.Proofs.Ytdnflmnlbcjnlaa.PWideInts
attribute [local go_sem ↓] Go.wp_at_zero Go.wp_at_succ
theorem awake_calls (w : World) : Calls Try.prog 10 #[] w fun e w' => e = .returned (.bool true) ∧ Below w.heap.size w w' := punchcutlaw01_awake.calls 200 true w (by decide +kernel)
abbrev Ret (v : Value) (w : World) (e : Ending) (w' : World) : Prop := e = .returned v ∧ Below w.heap.size w w'
theorem told {x y : Bool} (h : x = y) : (y == x) = true := by subst h; simp
theorem abs_neg (a : Int) (h : a < 0) (w : World) : Calls Try.prog 19 #[.int .i64 a] w fun e w' => e = .returned (.int .u64 (IntKind.u64.wrap (-(IntKind.u64.wrap a)))) ∧ w = w' := by
  go_enter Try.func19, Try.ntmps19
  go_wp2
  go_ret
  exact ⟨rfl, rfl⟩
theorem abs_pos (a : Int) (h : ¬ a < 0) (w : World) : Calls Try.prog 19 #[.int .i64 a] w fun e w' => e = .returned (.int .u64 (IntKind.u64.wrap a)) ∧ w = w' := by
  go_enter Try.func19, Try.ntmps19
  go_wp2
  go_ret
  exact ⟨rfl, rfl⟩
theorem bcell {W w1 : World} (hb : Below W.heap.size W w1) : (∀ b o, b < W.heap.size → w1.cell? ⟨b, o, none⟩ = W.cell? ⟨b, o, none⟩) ∧ (∀ b o, b < W.heap.size → w1.frozen? ⟨b, o, none⟩ = W.frozen? ⟨b, o, none⟩) :=
  ⟨fun b o h => hb.cell (p := ⟨b, o, none⟩) h, fun b o h => hb.frozen (p := ⟨b, o, none⟩) h⟩
set_option maxRecDepth 100000 in
set_option maxHeartbeats 4000000 in
theorem ints (a b ua ub mh ml most : Int) (ok over fine : Bool) (w : World)
    (hov : (0 < b ∧ decide (wrap64 (9223372036854775807 - b) < a) = over) ∨ (b < 0 ∧ decide (a < wrap64 (-9223372036854775808 - b)) = over) ∨ (b = 0 ∧ over = false))
    (hok : ok = !over) (hms : (a < 0 ∧ ¬ b < 0 ∨ ¬ a < 0 ∧ b < 0) ∧ most = 9223372036854775808 ∨ (a < 0 ∧ b < 0 ∨ ¬ a < 0 ∧ ¬ b < 0) ∧ most = 9223372036854775807)
    (hfi : mh = 0 ∧ ml ≤ most ∧ fine = true ∨ mh = 0 ∧ ¬ ml ≤ most ∧ fine = false ∨ ¬ mh = 0 ∧ fine = false)
    (HA : Hid (∀ w, Calls Try.prog 17 #[.int .i64 a, .int .i64 b] w (Ret (.tuple #[.int .i64 (wrap64 (a + b)), .bool ok]) w)))
    (HT : Hid (∀ w, Calls Try.prog 18 #[.int .i64 a, .int .i64 b] w (Ret (.tuple #[.int .i64 (wrap64 (a * b)), .bool fine]) w)))
    (HX : Hid (∀ w, Calls Try.prog 19 #[.int .i64 a] w fun e w' => e = .returned (.int .u64 ua) ∧ w = w'))
    (HY : Hid (∀ w, Calls Try.prog 19 #[.int .i64 b] w fun e w' => e = .returned (.int .u64 ub) ∧ w = w'))
    (HM : Hid (∀ w, Calls Try.prog 12 #[.int .u64 ua, .int .u64 ub] w (Ret (.agg #[.int .u64 mh, .int .u64 ml]) w))) :
    Calls Try.prog 6 #[.int .i64 a, .int .i64 b] w fun e w' => e = .returned (.bool true) ∧ Below w.heap.size w w' := by
  have Hok := Lib.hid hok
  have Hms := Lib.hid hms
  have Hfi := Lib.hid hfi
  clear hok hms hfi
  go_enter Try.func6, Try.ntmps6
  go_upto_region 5 with (first | (go_at_call 10; refine (awake_calls _).mono ?_; rintro e w1 ⟨rfl, hw1⟩) | (go_at_call 17; refine (HA.out _).mono ?_; rintro e w2 ⟨rfl, hw2⟩)  | (go_at_call 18; refine (HT.out _).mono ?_; rintro e w3 ⟨rfl, hw3⟩))
  go_cut [9] (fun s9 wx => s9 = .bool over ∧ wx = w3)
  case first =>
    rcases hov with ⟨h1, h2⟩ | ⟨h1, h2⟩ | ⟨h1, h2⟩
    · have h3 : ¬ b < 0 := by omega
      go_wp2_with fail
      all_goals go_meet
      all_goals (case rel => exact ⟨by simp_all, rfl⟩)
    · have h3 : ¬ 0 < b := by omega
      go_wp2_with fail
      all_goals go_meet
      all_goals (case rel => exact ⟨by simp_all, rfl⟩)
    · have h3 : ¬ b < 0 := by omega
      have h4 : ¬ 0 < b := by omega
      clear h1
      go_wp2_with fail
      go_meet
      case rel => exact ⟨by simp_all, rfl⟩
  case rest =>
    obtain ⟨rfl, rfl⟩ := hcut
    go_upto_region 9 with (first
        | (go_at_call_of 19 (Value.int IntKind.i64 a); refine (HX.out _).mono ?_; rintro e w4 ⟨rfl, rfl⟩)
        | (go_at_call_of 19 (Value.int IntKind.i64 b); refine (HY.out _).mono ?_; rintro e w5 ⟨rfl, rfl⟩)
        | (go_at_call 12; refine (HM.out _).mono ?_; rintro e w6 ⟨rfl, hb6⟩))
    have hbel : Below w.heap.size w (w6.alloc (Obj.cells #[Value.int IntKind.u64 mh, Value.int IntKind.u64 ml] 27)) := below_alloc (below_step (below_step (below_step hw1 hw2) hw3) hb6) _
    obtain rfl := Hok.out
    clear HA HT HX HY HM
    have hw : ∃ q : Bool, decide (ml ≤ most) = q ∧ (mh = 0 ∧ fine = q ∨ ¬ mh = 0 ∧ fine = false) := by
      refine ⟨_, rfl, ?_⟩
      rcases Hfi.out with ⟨h4, h5, h6⟩ | ⟨h4, h5, h6⟩ | ⟨h4, h6⟩
      · exact .inl ⟨h4, by rw [h6, decide_eq_true h5]⟩
      · exact .inl ⟨h4, by rw [h6, decide_eq_false (by omega)]⟩
      · exact .inr ⟨h4, h6⟩
    obtain ⟨q, h7, h8⟩ := hw
    have H8 := Lib.hid h8
    clear h8 Hfi
    have hs : ∃ x y : Bool, decide (a < 0) = x ∧ decide (b < 0) = y ∧ (x = true ∧ y = false ∧ most = 9223372036854775808 ∨ x = false ∧ y = true ∧ most = 9223372036854775808 ∨ x = true ∧ y = true ∧ most = 9223372036854775807 ∨ x = false ∧ y = false ∧ most = 9223372036854775807) := by
      refine ⟨_, _, rfl, rfl, ?_⟩
      rcases Hms.out with ⟨⟨h1, h2⟩ | ⟨h1, h2⟩, h3⟩ | ⟨⟨h1, h2⟩ | ⟨h1, h2⟩, h3⟩
      · exact .inl ⟨decide_eq_true h1, decide_eq_false (by omega), h3⟩
      · exact .inr (.inl ⟨decide_eq_false (by omega), decide_eq_true h2, h3⟩)
      · exact .inr (.inr (.inl ⟨decide_eq_true h1, decide_eq_true h2, h3⟩))
      · exact .inr (.inr (.inr ⟨decide_eq_false (by omega), decide_eq_false (by omega), h3⟩))
    obtain ⟨x, y, h1, h2, hs⟩ := hs
    clear Hms
    rcases hs with ⟨hx, hy, h3⟩ | ⟨hx, hy, h3⟩ | ⟨hx, hy, h3⟩ | ⟨hx, hy, h3⟩
    all_goals
      subst h3 hx hy
      rcases H8.out with ⟨h4, h6⟩ | ⟨h4, h6⟩
      all_goals
        subst h6
        (try subst h4)
        clear H8
        cases over
        all_goals
          go_wp2_with fail
          all_goals
            go_ret
            first
              | exact ⟨rfl, hbel⟩
              | exact ⟨congrArg (fun x => Ending.returned (Value.bool x)) (told h7), hbel⟩
theorem mul_f {a b : Int} (ha : 0 ≤ a) (ha2 : a < 18446744073709551616) (hb : 0 ≤ b) (hb2 : b < 18446744073709551616) :
    wide_Mul.f a b = some (a * b / 18446744073709551616, a * b % 18446744073709551616) := by
  unfold wide_Mul.f
  rw [mul_hi ha ha2 hb hb2, u64_wrap]
/-- a product that goes over is told: what is divided back is never the other number -/
theorem times_over {a b k : Int} (hb : b ≠ 0) (hb1 : -9223372036854775808 ≤ b) (hb2 : b < 9223372036854775808) (hk : a * b - wrap64 (a * b) = 18446744073709551616 * k) (hk0 : k ≠ 0) : Int.tdiv (wrap64 (a * b)) b ≠ a := by
  intro h
  have h1 := Int.mul_tdiv_add_tmod (wrap64 (a * b)) b
  rw [h, Int.mul_comm] at h1
  have h2 : (Int.tmod (wrap64 (a * b)) b).natAbs < b.natAbs := by
    rw [Int.natAbs_tmod]; exact Nat.mod_lt _ (by omega)
  omega
theorem times_f {a b : Int} (ha : -9223372036854775808 ≤ a) (ha2 : a < 9223372036854775808) (hb : -9223372036854775808 ≤ b) (hb2 : b < 9223372036854775808) :
    wide_Times.f a b = some (wrap64 (a * b), decide (-9223372036854775808 ≤ a * b ∧ a * b < 9223372036854775808)) := by
  unfold wide_Times.f
  by_cases h1 : a = 0
  · subst h1; rw [if_pos rfl]; simp [wrap64]
  by_cases h2 : b = 0
  · subst h2; rw [if_neg h1, if_pos rfl]; simp [wrap64]
  rw [if_neg h1, if_neg h2]
  by_cases hf : -9223372036854775808 ≤ a * b ∧ a * b < 9223372036854775808
  · rw [decide_eq_true hf, w64 hf.1 hf.2, Int.mul_tdiv_cancel _ h2, w64 ha ha2, if_pos rfl]
    by_cases c1 : a = -1
    · subst c1
      have e : b ≠ wrap64 (-b) := by unfold wrap64; omega
      rw [if_pos rfl, if_neg e]
      by_cases c2 : b = -1
      · subst c2; decide +kernel
      · rw [if_neg c2]
    · rw [if_neg c1]
      by_cases c2 : b = -1
      · subst c2
        have e : a ≠ wrap64 (-a) := by unfold wrap64; omega
        rw [if_pos rfl, bne_iff_ne.mpr e]
      · rw [if_neg c2]
  · rw [decide_eq_false hf]
    obtain ⟨k, hk⟩ : ∃ k, a * b - wrap64 (a * b) = 18446744073709551616 * k := by
      refine ⟨(a * b + 9223372036854775808) / 18446744073709551616, ?_⟩
      unfold wrap64; omega
    have hw : -9223372036854775808 ≤ wrap64 (a * b) ∧ wrap64 (a * b) < 9223372036854775808 := by unfold wrap64; omega
    have hk0 : k ≠ 0 := by rintro rfl; exact hf (by omega)
    have hne := times_over h2 hb hb2 hk hk0
    by_cases c : wrap64 (Int.tdiv (wrap64 (a * b)) b) = a
    · -- only the least number through -1 comes back
      have hab : (Int.tdiv (wrap64 (a * b)) b).natAbs ≤ (wrap64 (a * b)).natAbs := by rw [Int.natAbs_tdiv]; exact Nat.div_le_self _ _
      have hq : Int.tdiv (wrap64 (a * b)) b = 9223372036854775808 := by
        generalize Int.tdiv (wrap64 (a * b)) b = q at *
        unfold wrap64 at c
        omega
      have hm := Int.mul_tdiv_add_tmod (wrap64 (a * b)) b
      have hcc : wrap64 (a * b) = -9223372036854775808 := by omega
      have hb3 : b = -1 := by
        have hd : (Int.tdiv (wrap64 (a * b)) b).natAbs = (wrap64 (a * b)).natAbs / b.natAbs := Int.natAbs_tdiv ..
        rw [hq, hcc] at hd
        have hb4 : b.natAbs = 1 := by
          by_cases g : b.natAbs = 1
          · exact g
          · exfalso
            have : (9223372036854775808 : Nat) / b.natAbs < 9223372036854775808 := Nat.div_lt_self (by omega) (by omega)
            have e1 : (-9223372036854775808 : Int).natAbs = 9223372036854775808 := rfl
            have e2 : (9223372036854775808 : Int).natAbs = 9223372036854775808 := rfl
            rw [e1, e2] at hd
            omega
        rcases Int.natAbs_eq b with g | g
        · rw [hb4] at g
          rw [hcc, g] at hq
          exact absurd hq (by decide)
        · omega
      rw [if_pos c]
      subst hb3
      have ha3 : a = -9223372036854775808 := by rw [← c, hq]; decide +kernel
      subst ha3
      decide +kernel
    · rw [if_neg c]
theorem walk (a b : Int) (w : World) (wa : (Lit.int .i64 a).wf = true) (wb : (Lit.int .i64 b).wf = true) :
    Calls Try.prog 6 #[.int .i64 a, .int .i64 b] w fun e w' => e = .returned (.bool true) ∧ Below w.heap.size w w' := by
  have ha := bounds_i64 wa
  have hb := bounds_i64 wb
  have hA := fun w => (wide_Add.calls a b _ _ w rfl).mono fun e w' h => show Ret _ w e w' from ⟨h.1, h.2.below⟩
  have hT := fun w => (wide_Times.calls a b _ _ w (times_f ha.1 (by omega) hb.1 (by omega))).mono fun e w' h => show Ret _ w e w' from ⟨h.1, h.2.below⟩
  have habs : ∀ a : Int, -9223372036854775808 ≤ a → a ≤ 9223372036854775807 → ∃ u : Int, u = (if a < 0 then -a else a) ∧ ∀ w, Calls Try.prog 19 #[.int .i64 a] w fun e w' => e = .returned (.int .u64 u) ∧ w = w' := by
    intro a h1 h2
    by_cases h : a < 0
    · refine ⟨-a, by rw [if_pos h], fun w => ?_⟩
      have := abs_neg a h w
      rwa [show IntKind.u64.wrap (-(IntKind.u64.wrap a)) = -a from by rw [u64_wrap, u64_wrap]; omega] at this
    · refine ⟨a, by rw [if_neg h], fun w => ?_⟩
      have := abs_pos a h w
      rwa [wu64 (n := a) (by omega) (by omega)] at this
  obtain ⟨x, ex, hX⟩ := habs a ha.1 ha.2
  obtain ⟨y, ey, hY⟩ := habs b hb.1 hb.2
  have x0 : 0 ≤ x ∧ x ≤ 9223372036854775808 := by rw [ex]; split <;> omega
  have y0 : 0 ≤ y ∧ y ≤ 9223372036854775808 := by rw [ey]; split <;> omega
  have hM := fun w => wide_Mul.calls x y _ _ w (mul_f x0.1 (by omega) y0.1 (by omega))
  have hxy : x * y ≤ 9223372036854775808 * 9223372036854775808 := Int.mul_le_mul x0.2 y0.2 y0.1 (by omega)
  have hxy0 : 0 ≤ x * y := Int.mul_nonneg x0.1 y0.1
  obtain ⟨most, hms, hfit⟩ : ∃ most : Int, ((a < 0 ∧ ¬ b < 0 ∨ ¬ a < 0 ∧ b < 0) ∧ most = 9223372036854775808 ∨ (a < 0 ∧ b < 0 ∨ ¬ a < 0 ∧ ¬ b < 0) ∧ most = 9223372036854775807) ∧
      ((-9223372036854775808 ≤ a * b ∧ a * b < 9223372036854775808) ↔ x * y ≤ most) := by
    by_cases h1 : a < 0 <;> by_cases h2 : b < 0
    · refine ⟨9223372036854775807, .inr ⟨.inl ⟨h1, h2⟩, rfl⟩, ?_⟩
      rw [if_pos h1] at ex; rw [if_pos h2] at ey; rw [ex, ey, Int.neg_mul_neg] at *; omega
    · refine ⟨9223372036854775808, .inl ⟨.inl ⟨h1, h2⟩, rfl⟩, ?_⟩
      rw [if_pos h1] at ex; rw [if_neg h2] at ey; rw [ex, ey, Int.neg_mul] at *; omega
    · refine ⟨9223372036854775808, .inl ⟨.inr ⟨h1, h2⟩, rfl⟩, ?_⟩
      rw [if_neg h1] at ex; rw [if_pos h2] at ey; rw [ex, ey, Int.mul_neg] at *; omega
    · refine ⟨9223372036854775807, .inr ⟨.inr ⟨h1, h2⟩, rfl⟩, ?_⟩
      rw [if_neg h1] at ex; rw [if_neg h2] at ey; rw [ex, ey] at *; omega
  have hm63 : most ≤ 9223372036854775808 := by rcases hms with ⟨_, h⟩ | ⟨_, h⟩ <;> omega
  obtain ⟨over, hov, hok⟩ : ∃ over : Bool, ((0 < b ∧ decide (wrap64 (9223372036854775807 - b) < a) = over) ∨ (b < 0 ∧ decide (a < wrap64 (-9223372036854775808 - b)) = over) ∨ (b = 0 ∧ over = false)) ∧
      ((decide (wrap64 (a + b) > a)) == (decide (b > 0))) = !over := by
    rcases Int.lt_trichotomy b 0 with h | h | h
    · refine ⟨_, .inr (.inl ⟨h, rfl⟩), ?_⟩
      rw [decide_eq_false (show ¬ b > 0 by omega), w64 (n := -9223372036854775808 - b) (by omega) (by omega), Bool.eq_iff_iff]
      simp; unfold wrap64; omega
    · refine ⟨false, .inr (.inr ⟨h, rfl⟩), ?_⟩
      subst h
      rw [Int.add_zero, w64 (n := a) (by omega) (by omega)]; simp
    · refine ⟨_, .inl ⟨h, rfl⟩, ?_⟩
      rw [decide_eq_true (show b > 0 from h), w64 (n := 9223372036854775807 - b) (by omega) (by omega), Bool.eq_iff_iff]
      simp; unfold wrap64; omega
  refine ints a b x y _ _ most _ over _ w hov hok hms ?_ hA hT hX hY hM
  by_cases c1 : x * y / 18446744073709551616 = 0
  · have e : x * y % 18446744073709551616 = x * y := by omega
    rw [e]
    by_cases c2 : x * y ≤ most
    · exact .inl ⟨c1, c2, decide_eq_true (hfit.2 c2)⟩
    · exact .inr (.inl ⟨c1, c2, decide_eq_false fun h => c2 (hfit.1 h)⟩)
  · exact .inr (.inr ⟨c1, decide_eq_false fun h => by have := hfit.1 h; omega⟩)
end Go.Proofs.Ytdnflmnlbcjnlaa.WalkInts
