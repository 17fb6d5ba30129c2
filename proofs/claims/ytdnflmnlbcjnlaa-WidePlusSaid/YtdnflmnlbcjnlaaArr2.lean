/- The sum of two rows of 128 bits. Conditions: as each states. -/
import Derived.Test.YtdnflmnlbcjnlaaBits
namespace Go.Proofs.Ytdnflmnlbcjnlaa.Arr2
open Go Go.RowKit Go.Lib Go.Proofs.Ytdnflmnlbcjnlaa.Core Go.Proofs.YtdnflmnlbcjnlaaW.PrintWords Go.Proofs.YtdnflmnlbcjnlaaW.PrintLast Go.Proofs.YtdnflmnlbcjnlaaW.PrintMore Go.Proofs.Ytdnflmnlbcjnlaa.Arr Go.Proofs.Ytdnflmnlbcjnlaa.Bits
set_option linter.unusedVariables false
set_option linter.unusedSimpArgs false
theorem bl_size (x : BitVec 128) : (bl x).toArray.size = 128 := by simp [bl_len]
def PlusInv (w : World) (x y : BitVec 128) (s7 s8 : Value) (w' : World) : Prop :=
  ∃ k : Nat, s8 = .int .i64 k ∧ k ≤ 128 ∧ s7 = .bool (BitVec.carry k x y false) ∧ Bits w' w.heap.size x.getLsbD ∧ Bits w' (w.heap.size + 1) y.getLsbD ∧ Bits w' (w.heap.size + 1 + 1) (0 : BitVec 128).getLsbD ∧
    Bits w' (w.heap.size + 1 + 1 + 1) (fun j => if j < k then (x + y).getLsbD j else false) ∧ Below w.heap.size w w'
theorem PlusInv.next {w wr : World} {x y : BitVec 128} {n nq : Nat} {a b c : Bool} (hn : n < 128) (hX : Bits wr w.heap.size x.getLsbD) (hY : Bits wr (w.heap.size + 1) y.getLsbD) (hO : Bits wr (w.heap.size + 1 + 1) (0 : BitVec 128).getLsbD)
    (hP : Bits wr (w.heap.size + 1 + 1 + 1) (fun j => if j < n then (x + y).getLsbD j else false)) (hB : Below w.heap.size w wr) (ha : x.getLsbD n = a) (hb : y.getLsbD n = b) (hc : BitVec.carry n x y false = c) (v : Bool) (hv : v = (a ^^ (b ^^ c))) (d : Bool) (hd : d = Bool.atLeastTwo a b c) :
    PlusInv w x y (.bool d) (.int .i64 ((n : Int) + 1)) ((wr.drewN nq).setCell ⟨w.heap.size + 1 + 1 + 1, n, none⟩ (.bool v)) := by
  refine ⟨n + 1, rfl, by omega, ?_, bits_far (bits_drewN hX _) (by omega) _, bits_far (bits_drewN hY _) (by omega) _, bits_far (bits_drewN hO _) (by omega) _, ?_, (below_drewN hB _).setCell (by show w.heap.size ≤ w.heap.size + 1 + 1 + 1; omega) _⟩
  · rw [BitVec.carry_succ, ha, hb, hc, hd]
  · refine bits_congr (bits_set (bits_drewN hP nq) hn v) fun j hj => ?_
    by_cases e : j = n
    · subst e
      rw [if_pos rfl, if_pos (by omega), BitVec.getLsbD_add hn, ha, hb, hc, hv]
    · rw [if_neg e]
      by_cases e2 : j < n
      · rw [if_pos e2, if_pos (by omega)]
      · rw [if_neg e2, if_neg (by omega)]
set_option maxHeartbeats 1000000 in
theorem plus (x y : BitVec 128) (w : World) : Calls Try.prog 21 #[.agg (bl x).toArray, .agg (bl y).toArray] w (Ret (.tuple #[.agg (bl (x + y)).toArray, .bool (BitVec.carry 128 x y false)]) w) := by
  have hz := zero24
  go_enter Try.func21, Try.ntmps21
  go_wp2_with fail
  go_loopw [7, 8] (PlusInv w x y) (fun _ i _ => (128 - intOf i).toNat)
  case atStart =>
    refine ⟨0, rfl, by omega, by simp, ?_, ?_, ?_, ?_, ?_⟩
    · exact bits_alloc (bits_alloc (bits_alloc (bits_new rfl _) _) _) _
    · exact bits_alloc (bits_alloc (bits_new (by simp) _) _) _
    · exact bits_alloc (bits_new (by simp) _) _
    · exact bits_congr (bits_new (by simp) _) fun j hj => by simp
    · exact below_alloc (below_alloc (below_alloc (below_alloc (Below.refl _ _) _) _) _) _
  case round =>
    obtain ⟨k, rfl, hk, rfl, hX, hY, hO, hP, hB⟩ := hrel
    have hsz := bits_lt hP
    by_cases hk0 : k = 128
    · subst hk0
      have hP2 : Bits wr (w.heap.size + 1 + 1 + 1) (x + y).getLsbD := bits_congr hP fun j hj => by rw [if_pos hj]
      generalize BitVec.carry 128 x y false = c at *
      have hBz := below_setCells hB (b := w.heap.size + 1 + 1) (by omega) (bl (x + y)) 0
      have V := loadv24 (bits_setCells hO (x + y))
      go_upto_region 9 with fail
      refine wp_region_lit ?_
      refine wpList_load_mid (by rfl) 24 _ (by rfl) _ 0 (by rfl) (bl (x + y)) _ (bits_range hP2) under24 (by rfl) (by rw [bl_len]; exact size24) ?_
      generalize x + y = z at *
      refine wpList_plain (by rfl) fun K hK => ?_
      go_simp
      refine hK _ _ ?_
      have T : wr.there (w.heap.size + 1 + 1) 0 (bl z).toArray.size := by rw [bl_size]; exact bits_there hO
      refine wpList_store_mid (by rfl) 24 _ _ (by rfl) (w.heap.size + 1 + 1) 0 (bl z).toArray (by rfl) (by rfl) T (by rw [bl_size]; exact size24) (all_oneCell_toArray (bl_one z)) ?_
      clear hK hO hP hP2 hX hY hz
      simp only [List.toList_toArray]
      generalize wr.setCells (w.heap.size + 1 + 1) 0 (bl z) = wz at *
      go_wp2_with fail
      exact bodyPost_ret (v := .tuple #[.agg (bl z).toArray, .bool c]) (by simp [results, Try.results21, asAddr, Sem.run_bind, V]) rfl ⟨rfl, hBz⟩
    · have hx := (hX k (by omega)).1
      have hy := (hY k (by omega)).1
      have ho := hP k (by omega)
      have ho1 := ho.1
      have ho2 := ho.2
      dsimp only at ho1
      rw [if_neg (by omega)] at ho1
      have i1 : (0 : Int) ≤ (k : Int) := by omega
      have i2 : (k : Int) < 128 := by omega
      have i3 : IntKind.i64.wrap ((k : Int) + 1) = (k : Int) + 1 := by rw [IntKind.wrap_i64]; omega
      cases ha : x.getLsbD k <;> cases hb : y.getLsbD k <;> cases hc : BitVec.carry k x y false <;> rw [ha] at hx <;> rw [hb] at hy
      all_goals
        go_wp2_with fail
        go_quiet (fail)
        go_wp2_with fail
      all_goals
        refine ⟨PlusInv.next (by omega) hX hY hO hP hB ha hb hc _ (by rfl) _ (by rfl), ?_⟩
        simp [intOf]; omega
end Go.Proofs.Ytdnflmnlbcjnlaa.Arr2
