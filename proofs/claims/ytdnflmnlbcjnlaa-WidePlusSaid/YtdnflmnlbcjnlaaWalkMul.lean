/- WideMul's walk: a product is what it is bit by bit. Conditions: as each states. -/
import Derived.Test.YtdnflmnlbcjnlaaArr4
import Derived.ChangeKeysEq
import Derived.Test.YtdnflmnlbcjnlaaGlue
namespace Go.Proofs.Ytdnflmnlbcjnlaa.WalkMul
open Go Go.RowKit Go.Proofs.Ytdnflmnlbcjnlaa.Glue Go.Lib Go.Proofs.YtdnflmnlbcjnlaaW.PrintWords Go.Proofs.YtdnflmnlbcjnlaaW.PrintLast Go.Proofs.YtdnflmnlbcjnlaaW.PrintMore Go.Proofs.Ytdnflmnlbcjnlaa.Core Go.Proofs.Ytdnflmnlbcjnlaa.PWideMul Go.Proofs.Ytdnflmnlbcjnlaa.Arr Go.Proofs.Ytdnflmnlbcjnlaa.Bits Go.Proofs.Ytdnflmnlbcjnlaa.Arr2 Go.Proofs.Ytdnflmnlbcjnlaa.Arr3 Go.Proofs.Ytdnflmnlbcjnlaa.Arr4
set_option linter.unusedVariables false
set_option linter.unusedSimpArgs false
theorem under4 : Try.prog.underlying 4 = some .bool := by kernel_rfl
theorem plain4 : Try.prog.plainKey 4 = true := by kernel_rfl
theorem cells4 : Try.prog.cellsOf 4 = 1 := by kernel_rfl
theorem has4 : ∃ i, Try.prog.info? 4 = some i := info_of_underlying under4
theorem eq_items (d : Nat) (x : BitVec 128) (w : World) : ∀ is : List Nat, (∀ i ∈ is, i < 128) → (Op.eqItems (d + 1) 4 1 (bl x).toArray (bl x).toArray is).run Try.prog w = .ok true w
  | [], _ => by simp [Op.eqItems]
  | i :: is, h => by
    have hi : (bl x).toArray[i * 1]? = some (.bool (x.getLsbD i)) := by
      rw [Nat.mul_one, List.getElem?_toArray]; exact bl_get x (h i (by simp))
    have p := run_part_plain (P := Try.prog) w plain4 hi
    have e := run_equalIn_bool (P := Try.prog) w d 4 (x.getLsbD i) (x.getLsbD i) under4
    have r := eq_items d x w is (fun j hj => h j (by simp [hj]))
    simp only [Op.eqItems, Sem.run_bind, p, e, Result.andThen_ok, beq_self_eq_true, Bool.not_true, Bool.false_eq_true, if_false, r]
theorem eq24 (x : BitVec 128) (w : World) : (Op.equalIn 10000 24 (.agg (bl x).toArray) (.agg (bl x).toArray)).run Try.prog w = .ok true w := by
  obtain ⟨i, hi⟩ := has4
  rw [run_equalIn_array (P := Try.prog) w 9999 (bl x).toArray (bl x).toArray under24 hi, cells4]
  exact eq_items 9998 x w _ (fun j hj => List.mem_range.mp hj)
attribute [local go_sem ↓] Go.wp_at_zero Go.wp_at_succ
theorem awake_calls (w : World) : Calls Try.prog 10 #[] w fun e w' => e = .returned (.bool true) ∧ Below w.heap.size w w' := punchcutlaw01_awake.calls 200 true w (by decide +kernel)
set_option maxHeartbeats 4000000 in
theorem product (a b ph pl : Int) (z : BitVec 128) (w : World)
    (HM : Hid (∀ w, Calls Try.prog 12 #[.int .u64 a, .int .u64 b] w (Ret (.agg #[.int .u64 ph, .int .u64 pl]) w)))
    (HM2 : Hid (∀ w, Calls Try.prog 12 #[.int .u64 b, .int .u64 a] w (Ret (.agg #[.int .u64 ph, .int .u64 pl]) w)))
    (HB : Hid (∀ w, Calls Try.prog 11 #[.agg #[.int .u64 ph, .int .u64 pl]] w (Ret (.agg (bl z).toArray) w)))
    (HR : Hid (∀ w, Calls Try.prog 13 #[.int .u64 a, .int .u64 b] w (Ret (.agg (bl z).toArray) w))) :
    Calls Try.prog 3 #[.int .u64 a, .int .u64 b] w (Ret (.bool true) w) := by
  have hq := eq24 z
  go_enter Try.func3, Try.ntmps3
  go_wp2_with (first
    | (go_at_call 10; refine (awake_calls _).mono ?_; rintro e w1 ⟨rfl, hw1⟩)
    | (go_at_call 11; refine (HB.out _).mono ?_; rintro e w2 ⟨rfl, hw2⟩)
    | (go_at_call 13; refine (HR.out _).mono ?_; rintro e w3 ⟨rfl, hw3⟩)
    | (go_at_call_of 12 (#[Value.int IntKind.u64 a, Value.int IntKind.u64 b] : Array Value); refine (HM.out _).mono ?_; rintro e w4 ⟨rfl, hw4⟩)
    | (go_at_call_of 12 (#[Value.int IntKind.u64 b, Value.int IntKind.u64 a] : Array Value); refine (HM2.out _).mono ?_; rintro e w5 ⟨rfl, hw5⟩))
  go_ret
  exact ⟨rfl, below_step (below_step (below_step (below_step (below_step hw1 (by assumption)) hw2) hw3) hw4) hw5⟩
theorem pv_mul {a b : Int} (ha : 0 ≤ a) (hb : 0 ≤ b) : pv (a * b / 18446744073709551616) (a * b % 18446744073709551616) = BitVec.ofNat 128 (a.toNat * b.toNat) := by
  unfold pv
  obtain ⟨x, rfl⟩ := Int.eq_ofNat_of_zero_le ha
  obtain ⟨y, rfl⟩ := Int.eq_ofNat_of_zero_le hb
  congr 1
  have e : ((x : Int) * (y : Int)) = ((x * y : Nat) : Int) := by push_cast; rfl
  rw [e]
  generalize hp : x * y = p
  show _ = x * y
  rw [hp]; omega
theorem walk (a b : Int) (w : World) (wa : (Lit.int .u64 a).wf = true) (wb : (Lit.int .u64 b).wf = true) : Calls Try.prog 3 #[.int .u64 a, .int .u64 b] w (Ret (.bool true) w) := by
  have ha := bounds_u64 wa
  have hb := bounds_u64 wb
  have p1 : 0 ≤ a * b := Int.mul_nonneg ha.1 hb.1
  have p2 : a * b ≤ 18446744073709551615 * 18446744073709551615 := Int.mul_le_mul ha.2 hb.2 hb.1 (by omega)
  have hM := fun w => wide_Mul.calls a b _ _ w (mul_f ha.1 (by omega) hb.1 (by omega))
  have hM2 := fun w => wide_Mul.calls b a _ _ w (mul_f hb.1 (by omega) ha.1 (by omega))
  rw [Int.mul_comm b a] at hM2
  have hB := fun w => Arr3.bits (a * b / 18446744073709551616) (a * b % 18446744073709551616) w (by omega) (by omega) (by omega) (by omega)
  rw [pv_mul ha.1 hb.1] at hB
  exact product a b _ _ _ w (hid hM) (hid hM2) (hid hB) (hid fun w => mul a b w ha.1 (by omega) hb.1 (by omega))
end Go.Proofs.Ytdnflmnlbcjnlaa.WalkMul
