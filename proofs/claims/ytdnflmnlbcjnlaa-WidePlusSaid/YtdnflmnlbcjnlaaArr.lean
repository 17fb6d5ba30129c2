/- Rows of 128 bits: what compare, plus, bits and mul of this program tell of them. Conditions: as each states. -/
import Derived.Test.YtdnflmnlbcjnlaaPWideMulx2
import Derived.Test.YtdnflmnlbcjnlaaCore
import Derived.Deep.RegionHeld3
import Derived.Deep.DrawnRows
import Derived.WalkSpells
import Derived.OpenShut
import Derived.Outline
namespace Go.Proofs.Ytdnflmnlbcjnlaa.Arr
open Go Go.RowKit Go.Lib Go.Proofs.Ytdnflmnlbcjnlaa.Core Go.Proofs.YtdnflmnlbcjnlaaW.PrintWords Go.Proofs.YtdnflmnlbcjnlaaW.PrintLast Go.Proofs.YtdnflmnlbcjnlaaW.PrintMore
set_option linter.unusedVariables false
set_option linter.unusedSimpArgs false
abbrev Ret (v : Value) (w : World) (e : Ending) (w' : World) : Prop := e = .returned v ∧ Below w.heap.size w w'
/-- the cells of a row of 128 bits -/
def bl (x : BitVec 128) : List Value := (List.range 128).map fun i => Value.bool (x.getLsbD i)
theorem bl_len (x : BitVec 128) : (bl x).length = 128 := by simp [bl]
theorem bl_get (x : BitVec 128) {j : Nat} (h : j < 128) : (bl x)[j]? = some (.bool (x.getLsbD j)) := by
  unfold bl; simp [h]
/-- a row lies in a block -/
def Row (w : World) (b : Nat) (x : BitVec 128) : Prop := ∀ j, j < 128 → w.cell? ⟨b, j, none⟩ = some (.bool (x.getLsbD j))
theorem row_new (w : World) (x : BitVec 128) : Row (w.alloc (.cells (bl x).toArray 24)) w.heap.size x := by
  intro j hj
  have h1 : (w.alloc (.cells (bl x).toArray 24)).heap[w.heap.size]? = some (.cells (bl x).toArray 24 (0, 0)) := by
    show (w.heap.push _)[w.heap.size]? = _
    simp
  have := World.rangeAt_of_block h1 0 128 j (.bool (x.getLsbD j)) (by
    have e : ((bl x).toArray.extract 0 (0 + 128)).toList = bl x := by simp [← bl_len x]
    rw [e]; exact bl_get x hj)
  simpa using this
theorem row_drewN {w : World} {b : Nat} {x : BitVec 128} (h : Row w b x) (n : Nat) : Row (w.drewN n) b x := fun j hj => by
  have := h j hj; simpa using this
theorem row_later {w w1 : World} {b : Nat} {x : BitVec 128} (hb : Below w.heap.size w w1) (h : Row w b x) : Row w1 b x := fun j hj => cell_later hb (h j hj)
theorem row_alloc {w : World} {b : Nat} {x : BitVec 128} (h : Row w b x) (o : Obj) : Row (w.alloc o) b x := row_later ((Below.refl _ _).alloc (Nat.le_refl _) _) h
theorem below_drewN {B : Nat} {a w : World} (h : Below B a w) (n : Nat) : Below B a (w.drewN n) := h.trans ⟨rfl, rfl, rfl, Nat.le_refl _, fun _ _ => rfl⟩
theorem lt_bit {x y : Nat} (i : Nat) (hx : x.testBit i = false) (hy : y.testBit i = true) (h : ∀ j, i < j → x.testBit j = y.testBit j) : x < y := by
  have e : x / 2 ^ (i + 1) = y / 2 ^ (i + 1) := Nat.eq_of_testBit_eq fun j => by
    rw [Nat.testBit_div_two_pow, Nat.testBit_div_two_pow]; exact h _ (by omega)
  have hx' : x / 2 ^ i % 2 = 0 := by
    rw [Nat.testBit_eq_decide_div_mod_eq] at hx; have := of_decide_eq_false hx; omega
  have hy' : y / 2 ^ i % 2 = 1 := by
    rw [Nat.testBit_eq_decide_div_mod_eq] at hy; exact of_decide_eq_true hy
  rw [Nat.pow_succ, ← Nat.div_div_eq_div_mul, ← Nat.div_div_eq_div_mul] at e
  have : x / 2 ^ i < y / 2 ^ i := by omega
  exact Nat.lt_of_not_le fun hle => Nat.not_le_of_lt this (Nat.div_le_div_right hle)
def CmpInv (w : World) (x y : BitVec 128) (s : Value) (w' : World) : Prop :=
  ∃ k : Nat, s = .int .i64 ((k : Int) - 1) ∧ k ≤ 128 ∧ (∀ j, k ≤ j → x.getLsbD j = y.getLsbD j) ∧ Row w' w.heap.size x ∧ Row w' (w.heap.size + 1) y ∧ Below w.heap.size w w'
theorem cmp (x y : BitVec 128) (w : World) (R : Int) (h0 : x = y → R = 0) (h1 : y.toNat < x.toNat → R = 1) (h2 : x.toNat < y.toNat → R = -1) : Calls Try.prog 15 #[.agg (bl x).toArray, .agg (bl y).toArray] w (Ret (.int .i64 R) w) := by
  go_enter Try.func15, Try.ntmps15
  go_wp2_with fail
  go_loopw [5] (CmpInv w x y) (fun i _ => (intOf i + 1).toNat)
  case atStart =>
    refine ⟨128, rfl, Nat.le_refl _, fun j hj => by rw [BitVec.getLsbD_of_ge _ _ hj, BitVec.getLsbD_of_ge _ _ hj], row_alloc (row_new _ _) _, ?_, ((Below.refl _ _).alloc (Nat.le_refl _) _).alloc (by simp) _⟩
    have := row_new (w.alloc (.cells (bl x).toArray 24)) y
    rwa [World.size_alloc] at this
  case round =>
    obtain ⟨k, rfl, hk, heq, hX, hY, hB⟩ := hrel
    by_cases hk0 : k = 0
    · subst hk0
      go_wp2_with fail
      obtain rfl := h0 (by ext j hj; exact heq j (by omega))
      go_ret
      exact ⟨rfl, hB⟩
    · obtain ⟨n, rfl⟩ : ∃ n, k = n + 1 := ⟨k - 1, by omega⟩
      have hx := hX n (by omega)
      have hy := hY n (by omega)
      have e1 : ((n + 1 : Nat) : Int) - 1 = (n : Int) := by omega
      rw [e1]
      have i1 : (0 : Int) ≤ (n : Int) := by omega
      have i2 : (n : Int) < 128 := by omega
      have i3 : IntKind.i64.wrap ((n : Int) - 1) = (n : Int) - 1 := by rw [IntKind.wrap_i64]; omega
      by_cases hb : x.getLsbD n = y.getLsbD n
      · go_wp2_with fail
        go_quiet (fail)
        go_wp2_with fail
        refine ⟨⟨n, rfl, by omega, fun j hj => ?_, row_drewN hX _, row_drewN hY _, ?_⟩, ?_⟩
        · by_cases e : j = n
          · rw [e, hb]
          · exact heq j (by omega)
        · exact below_drewN hB _
        · simp [intOf]
      · cases hxb : x.getLsbD n
        · have hyb : y.getLsbD n = true := by cases h : y.getLsbD n <;> simp_all
          rw [hxb] at hx
          rw [hyb] at hy
          obtain rfl := h2 (lt_bit n hxb hyb fun j hj => heq j (by omega))
          go_wp2_with fail
          go_quiet (fail)
          go_wp2_with fail
          go_ret
          exact ⟨rfl, below_drewN hB _⟩
        · have hyb : y.getLsbD n = false := by cases h : y.getLsbD n <;> simp_all
          rw [hxb] at hx
          rw [hyb] at hy
          obtain rfl := h1 (lt_bit n hyb hxb fun j hj => (heq j (by omega)).symm)
          go_wp2_with fail
          go_quiet (fail)
          go_wp2_with fail
          go_ret
          exact ⟨rfl, below_drewN hB _⟩
end Go.Proofs.Ytdnflmnlbcjnlaa.Arr
