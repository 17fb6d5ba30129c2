/- WideBack's walk: what is put together by wide.Mul and Plus is taken apart again by Div. Conditions: the three arguments are numbers of 64 bits. -/
import Derived.Test.YtdnflmnlbcjnlaaWalkPlus
import Derived.Test.YtdnflmnlbcjnlaaGlue
import Derived.OpenShut
import Derived.Deep.RegionHeld3
import Derived.Deep.DrawnRows
import Derived.Deep.DeepCutAuto
import Derived.Lib.Hide
namespace Go.Proofs.Ytdnflmnlbcjnlaa.WalkBack
open Go Go.RowKit Go.Proofs.YtdnflmnlbcjnlaaW.PrintWords Go.Proofs.YtdnflmnlbcjnlaaW.PrintLast Go.Proofs.YtdnflmnlbcjnlaaW.PrintMore Go.Proofs.Ytdnflmnlbcjnlaa.Core Go.Proofs.Ytdnflmnlbcjnlaa.PWideMul Go.Proofs.Ytdnflmnlbcjnlaa.WalkPlus Go.Proofs.Ytdnflmnlbcjnlaa.Glue
attribute [local go_sem] max2_int
attribute [local go_sem ↓] Go.wp_at_zero Go.wp_at_succ
theorem awake_calls (w : World) : Calls Try.prog 10 #[] w fun e w' => e = .returned (.bool true) ∧ Below w.heap.size w w' := punchcutlaw01_awake.calls 200 true w (by decide +kernel)
abbrev Ret (v : Value) (w : World) (e : Ending) (w' : World) : Prop := e = .returned v ∧ Below w.heap.size w w'
theorem bcell {W w1 : World} (hb : Below W.heap.size W w1) : (∀ b o, b < W.heap.size → w1.cell? ⟨b, o, none⟩ = W.cell? ⟨b, o, none⟩) ∧ (∀ b o, b < W.heap.size → w1.frozen? ⟨b, o, none⟩ = W.frozen? ⟨b, o, none⟩) :=
  ⟨fun b o h => hb.cell (p := ⟨b, o, none⟩) h, fun b o h => hb.frozen (p := ⟨b, o, none⟩) h⟩
set_option maxHeartbeats 4000000 in
theorem back (a c b r m ph pl sh sl : Int) (w : World) (hb : 1 ≤ b) (hc : (if c < 1 then 1 else c) = b) (hm1 : Int.tmod r b = m)
    (HM : Hid (∀ w, Calls Try.prog 12 #[.int .u64 a, .int .u64 b] w (Ret (.agg #[.int .u64 ph, .int .u64 pl]) w)))
    (HP : Hid (∀ w, Calls Try.prog 20 #[.agg #[.int .u64 ph, .int .u64 pl], .agg #[.int .u64 0, .int .u64 m]] w (Ret (.tuple #[.agg #[.int .u64 sh, .int .u64 sl], .bool false]) w)))
    (HD : Hid (∀ w, Calls Try.prog 22 #[.agg #[.int .u64 sh, .int .u64 sl], .int .u64 b] w (Ret (.tuple #[.int .u64 a, .int .u64 m, .int .i64 0]) w))) :
    Calls Try.prog 9 #[.int .u64 a, .int .u64 c, .int .u64 r] w fun e w' => e = .returned (.bool true) ∧ Below w.heap.size w w' := by
  have hb0 : (b == 0) = false := beq_eq_false_iff_ne.mpr (by omega)
  have hb1 : ¬ b = 0 := by omega
  go_enter Try.func9, Try.ntmps9
  go_upto_region 4 with (first | (go_at_call 10; refine (awake_calls _).mono ?_; rintro e w1 ⟨rfl, hw1⟩))
  go_cut [7, 8] (fun s7 s8 wx => ∃ g : Nat, s7 = .pointer (some ⟨g, 0, none⟩) ∧ s8 = .bool false ∧ wx.cell? ⟨g, 0, none⟩ = some (.int .u64 sh) ∧ wx.cell? ⟨g, 1, none⟩ = some (.int .u64 sl) ∧ Below w.heap.size w wx)
  case first =>
    go_region_held3 (fun _ => True) (trivial) (first
        | (go_at_call 12; refine (HM.out _).mono ?_; rintro e w2 ⟨rfl, hb2⟩; obtain ⟨hc2, hf2⟩ := bcell hb2; have hz2 := hb2.size; (try simp [Nat.add_one_le_iff] at hz2))
        | (go_at_call 20; refine (HP.out _).mono ?_; rintro e w3 ⟨rfl, hb3⟩; obtain ⟨hc3, hf3⟩ := bcell hb3; have hz3 := hb3.size; (try simp [Nat.add_one_le_iff] at hz3)))
    all_goals (go_wp2_with fail; go_meet)
    case rel => exact ⟨_, rfl, rfl, by go_simp, by go_simp, below_alloc (below_step (below_step (below_drew1 hw1) hb2) hb3) _⟩
    case rel => exact ⟨_, rfl, rfl, by go_simp, by go_simp, below_set (below_set (below_step (below_alloc (below_step (below_drew1 hw1) hb2) _) hb3) (by have := hw1.size; simp at *; omega)) (by have := hw1.size; simp at *; omega)⟩
    case rel => exact ⟨_, rfl, rfl, by go_simp, by go_simp, below_set (below_set (below_step (below_step (below_drew1 (below_alloc hw1 _)) hb2) hb3) (by have := hw1.size; simp at *; omega)) (by have := hw1.size; simp at *; omega)⟩
  case rest =>
    obtain ⟨g, rfl, rfl, h0, h1, hbx⟩ := hcut
    go_wp2_with (first | (go_at_call 22; refine (HD.out _).mono ?_; rintro e w4 ⟨rfl, hb4⟩))
    go_ret
    exact ⟨rfl, hbx.trans (hb4.mono hbx.size)⟩
theorem walk (a c r : Int) (w : World) (wa : (Lit.int .u64 a).wf = true) (wc : (Lit.int .u64 c).wf = true) (wr : (Lit.int .u64 r).wf = true) :
    Calls Try.prog 9 #[.int .u64 a, .int .u64 c, .int .u64 r] w fun e w' => e = .returned (.bool true) ∧ Below w.heap.size w w' := by
  have ha := bounds_u64 wa
  have hc := bounds_u64 wc
  have hr := bounds_u64 wr
  obtain ⟨b, hb⟩ : ∃ b, (if c < 1 then 1 else c) = b := ⟨_, rfl⟩
  have hb1 : 1 ≤ b := by rw [← hb]; split <;> omega
  have hb2 : b ≤ 18446744073709551615 := by rw [← hb]; split <;> omega
  have hm1 := Int.emod_nonneg r (show b ≠ 0 by omega)
  have hm2 := Int.emod_lt_of_pos r (show 0 < b by omega)
  have ht : Int.tmod r b = r % b := Int.tmod_eq_emod_of_nonneg hr.1
  generalize r % b = m at *
  have p1 : 0 ≤ a * b := Int.mul_nonneg ha.1 (by omega)
  have p2 : a * b ≤ 18446744073709551615 * b := Int.mul_le_mul_of_nonneg_right ha.2 (by omega)
  have hM := fun w => wide_Mul.calls a b _ _ w (mul_f ha.1 (by omega) (by omega) (by omega))
  have hP := fun w => plus_calls (a * b / 18446744073709551616) (a * b % 18446744073709551616) 0 m w (by omega) (by omega) (by omega) (by omega) (by omega) (by omega) hm1 (by omega)
  have eh : hi (a * b / 18446744073709551616) (a * b % 18446744073709551616) 0 m = (a * b + m) / 18446744073709551616 := by unfold hi; omega
  have el : lo (a * b % 18446744073709551616) m = (a * b + m) % 18446744073709551616 := by unfold lo; omega
  have eo : over (a * b / 18446744073709551616) (a * b % 18446744073709551616) 0 m = false := decide_eq_false (by omega)
  rw [eh, el, eo] at hP
  have hlt : (a * b + m) / 18446744073709551616 < b := Int.ediv_lt_of_lt_mul (by omega) (by omega)
  have e : (a * b + m) / 18446744073709551616 * 18446744073709551616 + (a * b + m) % 18446744073709551616 = a * b + m := by omega
  have hD := fun w => wide_Pair_Div.calls 200 ((a * b + m) / 18446744073709551616) ((a * b + m) % 18446744073709551616) b _ _ _ w (div_f (by omega) (by omega) hlt (by omega) (by omega) (by omega))
  have d1 : (a * b + m) / b = a := by rw [Int.add_comm, Int.add_mul_ediv_right _ _ (by omega), Int.ediv_eq_zero_of_lt hm1 hm2]; omega
  have d2 : (a * b + m) % b = m := by rw [Int.add_comm, Int.add_mul_emod_self_right, Int.emod_eq_of_lt hm1 hm2]
  rw [e, d1, d2] at hD
  exact back a c b r m _ _ _ _ w hb1 hb ht hM hP hD
end Go.Proofs.Ytdnflmnlbcjnlaa.WalkBack
