/- What slices.Repeat tells of one byte: a new row that holds it so many times. Conditions: the number is from 1 to 100000. -/
import Derived.Test.YtfbnaicnmkkohaaPFramePlacex4
import Derived.Test.YtfbnaicnmkkohaaCore
import Derived.Laws.CopyOwn
import Derived.Laws.MakeOwn
import Derived.Deep.RegionHeld3
import Derived.Deep.DrawnRows
import Derived.WalkSpells
import Derived.Lib.Hide
namespace Go.Proofs.Ytfbnaicnmkkohaa.Repeat
open Go Go.RowKit Go.Lib Go.Proofs.YtfbnaicnmkkohaaW.PrintWords Go.Proofs.YtfbnaicnmkkohaaW.PrintLast Go.Proofs.YtfbnaicnmkkohaaW.PrintMore Go.Proofs.Ytfbnaicnmkkohaa.Core Go.Proofs.Ytfbnaicnmkkohaa.PFramePlace
set_option linter.unusedVariables false
set_option linter.unusedSimpArgs false
attribute [local go_sem ↓] Go.wp_at_zero Go.wp_at_succ
abbrev Ret (v : Value) (w : World) (e : Ending) (w' : World) : Prop := e = .returned v ∧ Below w.heap.size w w'
theorem byte_info : (Try.prog.info? 5).map (fun i => (i.zero, i.size, i.bytes)) = some (some (.int .u8 0), 1, 1) := by kernel_rfl
theorem byte_size : (Try.prog.info? 5).map (·.size) = some 1 := by kernel_rfl
theorem mul_one_f {n : Int} (h0 : 0 ≤ n) (h1 : n < 4294967296) : bits_Mul.f 1 n = some (0, n) := by
  unfold bits_Mul.f bits_Mul64.f
  rw [low32 (a := n) h0 (by omega), low32 (a := 1) (by omega) (by omega)]
  have e1 : n / 4294967296 = 0 := by omega
  have e2 : n % 4294967296 = n := by omega
  rw [e1, e2]
  have e3 : (1 : Int) / 4294967296 = 0 := by omega
  have e4 : (1 : Int) % 4294967296 = 1 := by omega
  rw [e3, e4]
  simp only [Int.zero_mul, Int.mul_zero, Int.one_mul, Int.zero_add, Int.add_zero, u64_wrap]
  have e5 : n % 18446744073709551616 = n := by omega
  rw [e5, e1]
  have e6 : (0 : Int) % 18446744073709551616 = 0 := by omega
  simp only [e6, Int.zero_add, Int.add_zero]
  rw [low32 (a := 0) (by omega) (by omega)]
  simp
theorem made_eq (n : Nat) : madeCells #[Value.int .u8 0] n = (List.replicate n (Value.int .u8 0)).toArray := by
  apply Array.ext
  · simp [size_madeCells]
  · intro i h1 h2
    simp [madeCells, Nat.mod_one]
theorem make_bytes (n : Nat) (hn : n ≤ 100000) : ∀ w, (Instr.makeSlice 28 (.int .i64 n) (.int .i64 n)).run Try.prog w = .ok (.slice (some ⟨w.heap.size, 0, none⟩) n n) (w.alloc (.cells (List.replicate n (Value.int .u8 0)).toArray 5)) := by
  intro w
  obtain ⟨i0, hi, hz0, hz1, hz2⟩ := info_parts byte_info
  have := run_make (P := Try.prog) w 28 5 i0 (.int .u8 0) Try.underlying28 hi hz0 .i64 .i64 n n (by omega) (by omega) (by rw [hz2]; omega) (by omega)
  rw [hz1] at this
  simpa [made_eq, Value.cells] using this
/-- so many tones, the rest nothing -/
def part (t : Int) (k n : Nat) : List Value := List.replicate k (.int .u8 t) ++ List.replicate (n - k) (.int .u8 0)
theorem part_length {t : Int} {k n : Nat} (h : k ≤ n) : (part t k n).length = n := by simp [part]; omega
theorem part_full (t : Int) (n : Nat) : part t n n = List.replicate n (.int .u8 t) := by simp [part]
theorem part_splice {t : Int} {k m n : Nat} (h : k + m ≤ n) : splice (part t k n) k (List.replicate m (.int .u8 t)) = part t (k + m) n := by
  unfold splice part
  rw [List.length_replicate, List.take_left' (by simp), List.drop_append, List.drop_eq_nil_of_le (by simp), List.nil_append, List.length_replicate, List.drop_replicate, ← List.append_assoc, List.replicate_append_replicate]
  congr 2
  omega
theorem tones {w : World} {T k m n j : Nat} {t : Int} {v : Value} (hT : w.heap[T]? = some (.cells (part t k n).toArray 5 (0, 0))) (hm : m ≤ k) (hv : (List.replicate m (Value.int .u8 t))[j]? = some v) : w.cell? ((⟨T, 0, none⟩ : Addr).add j) = some v := by
  have hj : j < m := by
    have := (List.getElem?_eq_some_iff.1 hv).1; simpa using this
  rw [List.getElem?_replicate, if_pos hj] at hv
  injection hv with hv
  rw [Addr.add_mid, Nat.zero_add, blk_cell hT j, List.getElem?_toArray, ← hv]
  unfold part
  rw [List.getElem?_append_left (by simp; omega), List.getElem?_replicate, if_pos (by omega)]
def RepInv (w0 : World) (T : Nat) (t : Int) (n : Nat) (s8 : Value) (w' : World) : Prop :=
  ∃ k : Nat, s8 = .int .i64 k ∧ 1 ≤ k ∧ k ≤ n ∧ w'.heap[T]? = some (.cells (part t k n).toArray 5 (0, 0)) ∧ Below w0.heap.size w0 w'
/-- a row of one tone -/
def Toned (w : World) (t : Int) (n : Nat) (e : Ending) (w' : World) : Prop :=
  ∃ T, e = .returned (.slice (some ⟨T, 0, none⟩) n n) ∧ w.heap.size ≤ T ∧ w'.heap[T]? = some (.cells (List.replicate n (Value.int .u8 t)).toArray 5 (0, 0)) ∧ Below w.heap.size w w'
set_option maxHeartbeats 2000000 in
theorem rep (t : Int) (n g : Nat) (w : World) (hn : 1 ≤ n) (hn2 : n ≤ 100000) (hg : w.cell? ⟨g, 0, none⟩ = some (.int .u8 t)) :
    Calls Try.prog 23 #[.slice (some ⟨g, 0, none⟩) 1 1, .int .i64 n] w (Toned w t n) := by
  have hmk := make_bytes n hn2
  have h0 : ¬ (n : Int) < 0 := by omega
  have hw1 : IntKind.u64.wrap (n : Int) = (n : Int) := by rw [u64_wrap]; omega
  have hw2 : IntKind.i64.wrap (n : Int) = (n : Int) := by rw [IntKind.wrap_i64]; omega
  have hM := Lib.hid fun w => bits_Mul.calls 1 n _ _ w (mul_one_f (n := n) (by omega) (by omega))
  have hb : (n : Int) ≤ 9223372036854775807 := by omega
  go_enter Try.func23, Try.ntmps23
  go_upto_region 7 with (go_at_call 29; refine (hM.out _).mono ?_; rintro e w1 ⟨rfl, hw1⟩)
  have hT : (w1.alloc (.cells (Array.replicate n (Value.int .u8 0)) 5)).heap[w1.heap.size]? = some (.cells (part t 0 n).toArray 5 (0, 0)) := by
    have := blk_new w1 (.cells (Array.replicate n (Value.int .u8 0)) 5)
    rw [this]; simp [part]
  have hB : Below w.heap.size w (w1.alloc (.cells (Array.replicate n (Value.int .u8 0)) 5)) := below_alloc hw1.below _
  have hg1 : (w1.alloc (.cells (Array.replicate n (Value.int .u8 0)) 5)).cell? ⟨g, 0, none⟩ = some (.int .u8 t) := cell_later (below_alloc (Below.refl _ _) _) (cell_later hw1.below hg)
  have hz : w.heap.size ≤ w1.heap.size := hw1.below.size
  generalize hwT : w1.heap.size = T at *
  generalize w1.alloc (.cells (Array.replicate n (Value.int .u8 0)) 5) = wt at *
  have hcp := run_copy_row (P := Try.prog) wt 28 28 3 5 T 0 n n ⟨g, 0, none⟩ 1 1 (part t 0 n).toArray 5 [Value.int .u8 t] Try.underlying28 byte_size hT (Nat.min_eq_left hn).symm (fun j v hv => by
    have hj : j = 0 := by
      rcases j with _ | j
      · rfl
      · simp at hv
    subst hj; simp at hv; subst hv; exact hg1) (by simp [part]; omega) (by simp [Value.oneCell'])
  have hX : (part t 0 n).toArray.toList.take 0 ++ [Value.int .u8 t] ++ (part t 0 n).toArray.toList.drop (0 + [Value.int .u8 t].length) = part t 1 n := by
    simp [part, List.drop_replicate]
  rw [hX] at hcp
  have hT2 : (wt.setRow T (part t 1 n).toArray).heap[T]? = some (.cells (part t 1 n).toArray 5 (0, 0)) := setRow_heap wt T _ _ 5 _ hT
  have hB2 : Below w.heap.size w (wt.setRow T (part t 1 n).toArray) := below_setRow hB hz _
  clear hT hB hg1 hX
  generalize wt.setRow T (part t 1 n).toArray = w2 at *
  go_wp2_with fail
  go_loopw [8] (RepInv w T t n) (fun i _ => (n - intOf i).toNat)
  case atStart => exact ⟨1, rfl, Nat.le_refl _, hn, hT2, hB2⟩
  case round =>
    obtain ⟨k, rfl, hk1, hkn, hTk, hBk⟩ := hrel
    by_cases hlt : k < n
    · have i1 : (0 : Int) ≤ (k : Int) := by omega
      have i2 : (k : Int) ≤ (n : Int) := by omega
      have i3 : (k : Int) < (n : Int) := by omega
      have hkc : ¬ (n : Int) < (k : Int) := by omega
      have hnk : ¬ n = k := by omega
      obtain ⟨m, hm, hm1, hm2, hm3⟩ : ∃ m, Nat.min k (n - k) = m ∧ 1 ≤ m ∧ m ≤ k ∧ k + m ≤ n := by
        by_cases c : k ≤ n - k
        · exact ⟨k, Nat.min_eq_left c, by omega, by omega, by omega⟩
        · exact ⟨n - k, Nat.min_eq_right (by omega), by omega, by omega, by omega⟩
      have i4 : IntKind.i64.wrap ((k : Int) + (m : Int)) = (k : Int) + (m : Int) := by rw [IntKind.wrap_i64]; omega
      go_upto_region 9 with fail
      go_region_held3 (fun _ => True) (trivial)
        ((refine step_copy_splice (by rfl) _ _ 28 28 (by rfl) 5 Try.underlying28 byte_size _ _ _ _ _ _ (by rfl) (by rfl) T k (part t k n) 5 (blk_drew hTk) (List.replicate m (Value.int .u8 t)) (by rw [List.length_replicate, hm]) (fun _ => ⟨by simp [hnk], ⟨T, 0, none⟩, rfl, fun j v hv => tones hTk hm2 hv⟩) (by rw [List.length_replicate, part_length (by omega)]; exact hm3) (by simp [Value.oneCell']) w.heap.size w (below_drew1 hBk) hz ?_; intro w3 hG3 hB3))
      have hG := hG3.out
      rw [part_splice hm3] at hG
      simp only [List.length_replicate, goInt]
      go_wp2_with fail
      refine ⟨⟨k + m, by congr 1, by omega, hm3, hG, hB3⟩, by simp [intOf]; omega⟩
    · obtain rfl : k = n := by omega
      rw [part_full] at hTk
      go_wp2_with fail
      go_ret
      exact ⟨T, rfl, hz, hTk, hBk⟩
end Go.Proofs.Ytfbnaicnmkkohaa.Repeat
