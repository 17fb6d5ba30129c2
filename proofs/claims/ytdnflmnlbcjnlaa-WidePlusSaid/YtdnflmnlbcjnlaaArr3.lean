/- The bits of a pair. Conditions: as each states. -/
import Derived.Test.YtdnflmnlbcjnlaaArr2
import Derived.Deep.RegionHeld3
import Derived.Laws.BitsAllLaws
namespace Go.Proofs.Ytdnflmnlbcjnlaa.Arr3
open Go Go.RowKit Go.Lib Go.Proofs.Ytdnflmnlbcjnlaa.Core Go.Proofs.YtdnflmnlbcjnlaaW.PrintWords Go.Proofs.YtdnflmnlbcjnlaaW.PrintLast Go.Proofs.YtdnflmnlbcjnlaaW.PrintMore Go.Proofs.Ytdnflmnlbcjnlaa.Arr Go.Proofs.Ytdnflmnlbcjnlaa.Bits Go.Proofs.Ytdnflmnlbcjnlaa.Arr2
set_option linter.unusedVariables false
set_option linter.unusedSimpArgs false
/-- a pair's value -/
def pv (hi lo : Int) : BitVec 128 := BitVec.ofNat 128 (2 ^ 64 * hi.toNat + lo.toNat)
/-- one bit of a number of 64 bits, as the program asks it -/
theorem bit_eq {n : Int} (h0 : 0 ≤ n) (h1 : n < 18446744073709551616) (k : Nat) : (Go.bits BinOp.and IntKind.u64 (n / 2 ^ k) 1 == 1) = n.toNat.testBit k := by
  obtain ⟨m, rfl⟩ := Int.eq_ofNat_of_zero_le h0
  have e : ((m : Int) / 2 ^ k) = ((m / 2 ^ k : Nat) : Int) := by push_cast; rfl
  have l : m / 2 ^ k ≤ m := Nat.div_le_self _ _
  rw [e]
  show _ = m.testBit k
  rw [Nat.testBit_eq_decide_div_mod_eq]
  generalize m / 2 ^ k = q at *
  rw [u64_and _ 1 (by omega) (by omega) (by omega) (by omega)]
  show (((q &&& 1 : Nat) : Int) == 1) = _
  rw [Nat.and_one_is_mod]
  generalize q % 2 = r
  rw [Bool.eq_iff_iff, beq_iff_eq, decide_eq_true_iff]; omega
theorem pv_bit {hi lo : Int} (h0 : 0 ≤ hi) (h1 : hi < 18446744073709551616) (l0 : 0 ≤ lo) (l1 : lo < 18446744073709551616) {j : Nat} (hj : j < 128) :
    (pv hi lo).getLsbD j = if j < 64 then lo.toNat.testBit j else hi.toNat.testBit (j - 64) := by
  unfold pv
  rw [BitVec.getLsbD_ofNat, Nat.testBit_two_pow_mul_add _ (by omega)]
  simp [hj]
def BitsInv (w : World) (hi lo : Int) (s4 : Value) (w' : World) : Prop :=
  ∃ k : Nat, s4 = .int .i64 k ∧ k ≤ 64 ∧ w'.cell? ⟨w.heap.size, 0, none⟩ = some (.int .u64 hi) ∧ w'.cell? ⟨w.heap.size, 1, none⟩ = some (.int .u64 lo) ∧ Bits w' (w.heap.size + 1) (0 : BitVec 128).getLsbD ∧
    Bits w' (w.heap.size + 1 + 1) (fun j => if j % 64 < k then (pv hi lo).getLsbD j else false) ∧ Below w.heap.size w w'
theorem keepS {W : World} {p a : Addr} {u v : Value} (hn : ¬ p.block = a.block) (h : W.cell? a = some v) : (W.setCell p u).cell? a = some v := by
  rw [World.cell?_setCell_far _ _ _ _ hn]; exact h
theorem keepD {W : World} {a : Addr} {v : Value} (h : W.cell? a = some v) : W.drew.cell? a = some v := h
set_option maxHeartbeats 1000000 in
theorem BitsInv.next {w wr : World} {hi lo : Int} {k : Nat} (hn : k < 64) (h0 : wr.cell? ⟨w.heap.size, 0, none⟩ = some (.int .u64 hi)) (h1 : wr.cell? ⟨w.heap.size, 1, none⟩ = some (.int .u64 lo)) (hO : Bits wr (w.heap.size + 1) (0 : BitVec 128).getLsbD)
    (hP : Bits wr (w.heap.size + 1 + 1) (fun j => if j % 64 < k then (pv hi lo).getLsbD j else false)) (hB : Below w.heap.size w wr) {a b : Bool} (ha : (pv hi lo).getLsbD k = a) (hb : (pv hi lo).getLsbD (64 + k) = b) :
    BitsInv w hi lo (.int .i64 ((k : Int) + 1)) ((wr.setCell ⟨w.heap.size + 1 + 1, k, none⟩ (.bool a)).setCell ⟨w.heap.size + 1 + 1, 64 + k, none⟩ (.bool b)).drew := by
  refine ⟨k + 1, rfl, by omega, ?_, ?_, bits_drewN (bits_far (bits_far hO (by omega) _) (by omega) _) 1, bits_drewN ?_ 1, below_drewN ((hB.setCell (by show w.heap.size ≤ w.heap.size + 1 + 1; omega) _).setCell (by show w.heap.size ≤ w.heap.size + 1 + 1; omega) _) 1⟩
  · exact keepD (keepS (by dsimp only; omega) (keepS (by dsimp only; omega) h0))
  · exact keepD (keepS (by dsimp only; omega) (keepS (by dsimp only; omega) h1))
  · refine bits_congr (bits_set (bits_set hP (by omega) a) (by omega) b) fun j hj => ?_
    by_cases e : j = 64 + k
    · subst e
      rw [if_pos rfl, if_pos (by omega), hb]
    · rw [if_neg e]
      by_cases e2 : j = k
      · subst e2
        rw [if_pos rfl, if_pos (by omega), ha]
      · rw [if_neg e2]
        by_cases e3 : j % 64 < k
        · rw [if_pos e3, if_pos (by omega)]
        · rw [if_neg e3, if_neg (by omega)]
theorem bits (hi lo : Int) (w : World) (g0 : 0 ≤ hi) (g1 : hi < 18446744073709551616) (l0 : 0 ≤ lo) (l1 : lo < 18446744073709551616) : Calls Try.prog 11 #[.agg #[.int .u64 hi, .int .u64 lo]] w (Ret (.agg (bl (pv hi lo)).toArray) w) := by
  have hz := zero24
  go_enter Try.func11, Try.ntmps11
  go_wp2_with fail
  go_loopw [4] (BitsInv w hi lo) (fun i _ => (64 - intOf i).toNat)
  case atStart =>
    refine ⟨0, rfl, by omega, ?_, ?_, ?_, ?_, ?_⟩
    · go_simp
    · go_simp
    · exact bits_alloc (bits_new (by simp) _) _
    · exact bits_congr (bits_new (by simp) _) fun j hj => by simp
    · exact below_alloc (below_alloc (below_alloc (Below.refl _ _) _) _) _
  case round =>
    obtain ⟨k, rfl, hk, h0, h1, hO, hP, hB⟩ := hrel
    have hsz := bits_lt hP
    by_cases hk0 : k = 64
    · subst hk0
      have hP2 : Bits wr (w.heap.size + 1 + 1) (pv hi lo).getLsbD := bits_congr hP fun j hj => by rw [if_pos (by omega)]
      have hBz := below_setCells hB (b := w.heap.size + 1) (by omega) (bl (pv hi lo)) 0
      have V := loadv24 (bits_setCells hO (pv hi lo))
      go_upto_region 6 with fail
      refine wp_region_lit ?_
      refine wpList_load_mid (by rfl) 24 _ (by rfl) _ 0 (by rfl) (bl (pv hi lo)) _ (bits_range hP2) under24 (by rfl) (by rw [bl_len]; exact size24) ?_
      generalize pv hi lo = z at *
      have T : wr.there (w.heap.size + 1) 0 (bl z).toArray.size := by rw [bl_size]; exact bits_there hO
      refine wpList_store_mid (by rfl) 24 _ _ (by rfl) (w.heap.size + 1) 0 (bl z).toArray (by rfl) (by rfl) T (by rw [bl_size]; exact size24) (all_oneCell_toArray (bl_one z)) ?_
      clear hO hP hP2 hz h0 h1
      simp only [List.toList_toArray]
      generalize wr.setCells (w.heap.size + 1) 0 (bl z) = wz at *
      go_wp2_with fail
      exact bodyPost_ret (v := .agg (bl z).toArray) (by simp [results, Try.results11, asAddr, Sem.run_bind, Act.put, V]) rfl ⟨rfl, hBz⟩
    · have ho := hP k (by omega)
      have ho3 := hP (64 + k) (by omega)
      have ho1 := ho.1
      have ho2 := ho.2
      have ho4 := ho3.1
      have ho5 := ho3.2
      dsimp only at ho1 ho4
      rw [if_neg (by omega)] at ho1 ho4
      have i1 : (0 : Int) ≤ (k : Int) := by omega
      have i2 : (k : Int) < 64 := by omega
      have i3 : IntKind.i64.wrap ((k : Int) + 1) = (k : Int) + 1 := by rw [IntKind.wrap_i64]; omega
      have i4 : IntKind.i64.wrap (64 + (k : Int)) = 64 + (k : Int) := by rw [IntKind.wrap_i64]; omega
      have i5 : (0 : Int) ≤ 64 + (k : Int) := by omega
      have i6 : 64 + (k : Int) < 128 := by omega
      have i8 : (64 + (k : Int)).toNat = 64 + k := by omega
      have i7 : (k : Int) < 128 := by omega
      have n1 : ¬ w.heap.size + 1 + 1 = w.heap.size := by omega
      go_upto_region 5 with fail
      go_region_held3 (fun w' => w'.cell? ⟨w.heap.size, 0, none⟩ = some (.int .u64 hi) ∧ w'.cell? ⟨w.heap.size, 1, none⟩ = some (.int .u64 lo))
        ((go_split_ands; (repeat' apply And.intro) <;> (repeat' (first | with_reducible assumption | with_reducible refine keepD ?_ | with_reducible refine keepS ?_ ?_ | (dsimp only; omega)))))
        (fail)
      rw [bit_eq l0 l1, bit_eq g0 g1]
      go_wp2_with fail
      refine ⟨BitsInv.next (by omega) h0 h1 hO hP hB ?_ ?_, ?_⟩
      · rw [pv_bit g0 g1 l0 l1 (by omega), if_pos (by omega)]
      · rw [pv_bit g0 g1 l0 l1 (by omega), if_neg (by omega), Nat.add_sub_cancel_left]
      · simp [intOf]; omega
end Go.Proofs.Ytdnflmnlbcjnlaa.Arr3
