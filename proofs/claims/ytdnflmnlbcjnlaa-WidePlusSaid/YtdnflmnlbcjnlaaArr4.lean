/- A product, bit by bit. Conditions: as each states. -/
import Derived.Test.YtdnflmnlbcjnlaaArr3
import Derived.Lib.Hide
namespace Go.Proofs.Ytdnflmnlbcjnlaa.Arr4
open Go Go.RowKit Go.Lib Go.Proofs.Ytdnflmnlbcjnlaa.Core Go.Proofs.YtdnflmnlbcjnlaaW.PrintWords Go.Proofs.YtdnflmnlbcjnlaaW.PrintLast Go.Proofs.YtdnflmnlbcjnlaaW.PrintMore Go.Proofs.Ytdnflmnlbcjnlaa.Arr Go.Proofs.Ytdnflmnlbcjnlaa.Bits Go.Proofs.Ytdnflmnlbcjnlaa.Arr2 Go.Proofs.Ytdnflmnlbcjnlaa.Arr3
set_option linter.unusedVariables false
set_option linter.unusedSimpArgs false
def MulInv (w : World) (a b : Int) (s6 : Value) (w' : World) : Prop :=
  ∃ k : Nat, s6 = .int .i64 k ∧ k ≤ 64 ∧ Bits w' w.heap.size (0 : BitVec 128).getLsbD ∧ Bits w' (w.heap.size + 1) (BitVec.ofNat 128 (a.toNat * (b.toNat % 2 ^ k))).getLsbD ∧ Below w.heap.size w w'
def RowInv (w : World) (g : Nat) (z x : BitVec 128) (k : Nat) (s8 : Value) (w' : World) : Prop :=
  ∃ i : Nat, s8 = .int .i64 i ∧ i ≤ 64 ∧ Bits w' g (fun j => if j < k + i then z.getLsbD j else false) ∧ Bits w' w.heap.size (0 : BitVec 128).getLsbD ∧ Bits w' (w.heap.size + 1) x.getLsbD ∧ Below w.heap.size w w'
theorem bit_zero {n : Int} (h0 : 0 ≤ n) (h1 : n < 18446744073709551616) (k : Nat) : (Go.bits BinOp.and IntKind.u64 (n / 2 ^ k) 1 == 0) = !(n.toNat.testBit k) := by
  rw [← bit_eq h0 h1 k]
  have : Go.bits BinOp.and IntKind.u64 (n / 2 ^ k) 1 = 0 ∨ Go.bits BinOp.and IntKind.u64 (n / 2 ^ k) 1 = 1 := by
    obtain ⟨m, rfl⟩ := Int.eq_ofNat_of_zero_le h0
    have e : ((m : Int) / 2 ^ k) = ((m / 2 ^ k : Nat) : Int) := by push_cast; rfl
    have l : m / 2 ^ k ≤ m := Nat.div_le_self _ _
    rw [e]
    generalize m / 2 ^ k = q at *
    rw [u64_and _ 1 (by omega) (by omega) (by omega) (by omega)]
    show ((q &&& 1 : Nat) : Int) = 0 ∨ ((q &&& 1 : Nat) : Int) = 1
    rw [Nat.and_one_is_mod]; omega
  rcases this with e | e <;> rw [e] <;> rfl
theorem storec24 {w : World} {b : Nat} {f : Nat → Bool} (h : Bits w b f) (x : BitVec 128) : (storeCells ⟨b, 0, none⟩ (bl x)).run Try.prog w = .ok () (w.setCells b 0 (bl x)) := by
  have := run_storeCells_cells (P := Try.prog) b 0 (bl x) 0 w (fun j hj => by rw [bl_len] at hj; simp [(h j hj).1]) (fun j hj => by rw [bl_len] at hj; simpa using (h j hj).2) (bl_one x)
  exact this
theorem mod_next (b k : Nat) : b % 2 ^ (k + 1) = b % 2 ^ k + (if b.testBit k then 2 ^ k else 0) := by
  rw [Nat.mod_pow_succ, Nat.testBit_eq_decide_div_mod_eq]
  have := Nat.mod_two_eq_zero_or_one (b / 2 ^ k)
  rcases this with e | e <;> rw [e] <;> simp
set_option maxHeartbeats 1000000 in
theorem mul (a b : Int) (w : World) (g0 : 0 ≤ a) (g1 : a < 18446744073709551616) (l0 : 0 ≤ b) (l1 : b < 18446744073709551616) : Calls Try.prog 13 #[.int .u64 a, .int .u64 b] w (Ret (.agg (bl (BitVec.ofNat 128 (a.toNat * b.toNat))).toArray) w) := by
  have hz := zero24
  go_enter Try.func13, Try.ntmps13
  go_wp2_with fail
  go_loopw [6] (MulInv w a b) (fun i _ => (64 - intOf i).toNat)
  case atStart =>
    refine ⟨0, rfl, by omega, ?_, ?_, ?_⟩
    · exact bits_alloc (bits_new (by simp) _) _
    · exact bits_congr (bits_new (by simp) _) fun j hj => by simp [Nat.mod_one]
    · exact below_alloc (below_alloc (Below.refl _ _) _) _
  case round =>
    obtain ⟨k, rfl, hk, hO, hP, hB⟩ := hrel
    have hsz := bits_lt hP
    by_cases hk0 : k = 64
    · subst hk0
      rw [Nat.mod_eq_of_lt (by omega : b.toNat < 2 ^ 64)] at hP
      generalize BitVec.ofNat 128 (a.toNat * b.toNat) = z at *
      have hBz := below_setCells hB (b := w.heap.size) (by omega) (bl z) 0
      have V := loadv24 (bits_setCells hO z)
      go_upto_region 12 with fail
      refine wp_region_lit ?_
      refine wpList_load_mid (by rfl) 24 _ (by rfl) _ 0 (by rfl) (bl z) _ (bits_range hP) under24 (by rfl) (by rw [bl_len]; exact size24) ?_
      have T : wr.there w.heap.size 0 (bl z).toArray.size := by rw [bl_size]; exact bits_there hO
      refine wpList_store_mid (by rfl) 24 _ _ (by rfl) w.heap.size 0 (bl z).toArray (by rfl) (by rfl) T (by rw [bl_size]; exact size24) (all_oneCell_toArray (bl_one z)) ?_
      clear hO hP hz
      simp only [List.toList_toArray]
      generalize wr.setCells w.heap.size 0 (bl z) = wz at *
      go_wp2_with fail
      exact bodyPost_ret (v := .agg (bl z).toArray) (by simp [results, Try.results13, asAddr, Sem.run_bind, Act.put, V]) rfl ⟨rfl, hBz⟩
    · have i1 : (0 : Int) ≤ (k : Int) := by omega
      have i2 : (k : Int) < 64 := by omega
      have i3 : IntKind.i64.wrap ((k : Int) + 1) = (k : Int) + 1 := by rw [IntKind.wrap_i64]; omega
      cases hb : b.toNat.testBit k
      · have t : (Go.bits BinOp.and IntKind.u64 (b / 2 ^ k) 1 == 0) = true := by rw [bit_zero l0 l1, hb]; rfl
        go_wp2_with fail
        refine ⟨⟨k + 1, rfl, by omega, hO, ?_, hB⟩, by simp [intOf]; omega⟩
        rw [mod_next, hb]; simpa using hP
      · have t : (Go.bits BinOp.and IntKind.u64 (b / 2 ^ k) 1 == 0) = false := by rw [bit_zero l0 l1, hb]; rfl
        go_upto_region 8 with fail
        go_loopw [8] (RowInv w wr.heap.size (BitVec.ofNat 128 (a.toNat * 2 ^ k)) (BitVec.ofNat 128 (a.toNat * (b.toNat % 2 ^ k))) k) (fun i _ => (64 - intOf i).toNat)
        case atStart =>
          refine ⟨0, rfl, by omega, bits_congr (bits_new rfl _) fun j hj => ?_, bits_alloc hO _, bits_alloc hP _, hB.alloc (by omega) _⟩
          by_cases e : j < k
          · rw [if_pos (by omega), BitVec.getLsbD_ofNat, BitVec.getLsbD_ofNat, Nat.testBit_mul_two_pow]
            simp; omega
          · rw [if_neg (by omega)]; simp
        case round =>
          obtain ⟨i, rfl, hi, hG, hO2, hP2, hB2⟩ := hrel
          have hg := bits_lt hG
          by_cases hi0 : i = 64
          · subst hi0
            have hG2 : Bits wr _ (BitVec.ofNat 128 (a.toNat * 2 ^ k)).getLsbD := bits_congr hG fun j hj => by
              by_cases e : j < k + 64
              · rw [if_pos e]
              · rw [if_neg e, BitVec.getLsbD_ofNat, Nat.testBit_lt_two_pow]
                · simp
                · have e1 : a.toNat < 2 ^ 64 := by omega
                  have e2 : a.toNat * 2 ^ k < 2 ^ 64 * 2 ^ k := Nat.mul_lt_mul_of_pos_right e1 (Nat.two_pow_pos k)
                  rw [← Nat.pow_add] at e2
                  exact Nat.lt_of_lt_of_le e2 (Nat.pow_le_pow_right (by omega) (by omega))
            have hs : BitVec.ofNat 128 (a.toNat * (b.toNat % 2 ^ k)) + BitVec.ofNat 128 (a.toNat * 2 ^ k) = BitVec.ofNat 128 (a.toNat * (b.toNat % 2 ^ (k + 1))) := by
              rw [← BitVec.ofNat_add, mod_next, hb, if_pos rfl, Nat.mul_add]
            have hq := fun w => plus (BitVec.ofNat 128 (a.toNat * (b.toNat % 2 ^ k))) (BitVec.ofNat 128 (a.toNat * 2 ^ k)) w
            rw [hs] at hq
            generalize BitVec.ofNat 128 (a.toNat * (b.toNat % 2 ^ k)) = X at *
            generalize BitVec.ofNat 128 (a.toNat * 2 ^ k) = Y at *
            generalize BitVec.carry 128 X Y false = c at *
            generalize hZ : BitVec.ofNat 128 (a.toNat * (b.toNat % 2 ^ (k + 1))) = Z at *
            have hl := bl_len Z
            have HQ := Lib.hid hq
            clear hq hG hs
            go_upto_region 11 with fail
            refine wp_region_lit ?_
            refine wpList_load_mid (by rfl) 24 _ (by rfl) _ 0 (by rfl) (bl X) _ (bits_range hP2) under24 (by rfl) (by rw [bl_len]; exact size24) ?_
            refine wpList_load_mid (by rfl) 24 _ (by rfl) _ 0 (by rfl) (bl Y) _ (bits_range hG2) under24 (by rfl) (by rw [bl_len]; exact size24) ?_
            refine wpList_plain (by rfl) fun K hK => ?_
            go_wp2_with (go_at_call 21; refine (HQ.out _).mono ?_; rintro e wp ⟨rfl, hbp⟩; have hP3 := bits_later hbp hP2; have hO3 := bits_later hbp hO2; have hP4 := bits_setCells hP3 Z; have hO4 := bits_away hO3 (show w.heap.size + 1 ≠ w.heap.size by omega) (bl Z); have hB3 := below_setCells (below_step hB2 hbp) (b := w.heap.size + 1) (by omega) (bl Z) 0; have S := storec24 hP3 Z)
            refine ⟨⟨k + 1, rfl, by omega, hO4, ?_, hB3⟩, by simp [intOf]; omega⟩
            rw [hZ]; exact hP4
          · have ho := hG (k + i) (by omega)
            have ho1 := ho.1
            have ho2 := ho.2
            dsimp only at ho1
            rw [if_neg (by omega)] at ho1
            have j1 : (0 : Int) ≤ (i : Int) := by omega
            have j2 : (i : Int) < 64 := by omega
            have j3 : IntKind.i64.wrap ((i : Int) + 1) = (i : Int) + 1 := by rw [IntKind.wrap_i64]; omega
            have j4 : IntKind.i64.wrap ((i : Int) + (k : Int)) = (i : Int) + (k : Int) := by rw [IntKind.wrap_i64]; omega
            have j5 : (0 : Int) ≤ (i : Int) + (k : Int) := by omega
            have j6 : (i : Int) + (k : Int) < 128 := by omega
            have j7 : ((i : Int) + (k : Int)).toNat = k + i := by omega
            have q := bit_eq g0 g1 i
            go_wp2_with fail
            refine ⟨⟨i + 1, rfl, by omega, bits_congr (bits_set hG (by omega) _) fun j hj => ?_, bits_far hO2 (by omega) _, bits_far hP2 (by omega) _, hB2.setCell (Nat.le_of_lt (Nat.lt_of_succ_lt hsz)) _⟩, by simp [intOf]; omega⟩
            by_cases e : j = k + i
            · subst e
              rw [if_pos rfl, if_pos (by omega), BitVec.getLsbD_ofNat, Nat.testBit_mul_two_pow]
              simp [hj]
            · rw [if_neg e]
              by_cases e2 : j < k + i
              · rw [if_pos e2, if_pos (by omega)]
              · rw [if_neg e2, if_neg (by omega)]
end Go.Proofs.Ytdnflmnlbcjnlaa.Arr4
