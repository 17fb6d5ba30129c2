/- WideDiv's walk: what Div tells is put together again by Mul and Plus, and what is left is less. Conditions: the pair's halves and the number are of 64 bits, the small number is a byte. -/
import Derived.Test.YtdnflmnlbcjnlaaWalkPlus
import Derived.Test.YtdnflmnlbcjnlaaGlue
import Derived.Lib.Hide
import Derived.WalkSpells
import Derived.OpenShut
namespace Go.Proofs.Ytdnflmnlbcjnlaa.WalkDiv
open Go Go.RowKit Go.Proofs.YtdnflmnlbcjnlaaW.PrintWords Go.Proofs.YtdnflmnlbcjnlaaW.PrintLast Go.Proofs.YtdnflmnlbcjnlaaW.PrintMore Go.Proofs.Ytdnflmnlbcjnlaa.Core Go.Proofs.Ytdnflmnlbcjnlaa.PWideMul Go.Proofs.Ytdnflmnlbcjnlaa.WalkPlus Go.Proofs.Ytdnflmnlbcjnlaa.Glue
attribute [local go_sem high] eqA27
theorem awake_calls (w : World) : Calls Try.prog 10 #[] w fun e w' => e = .returned (.bool true) ∧ Below w.heap.size w w' := punchcutlaw01_awake.calls 200 true w (by decide +kernel)
abbrev Ret (v : Value) (w : World) (e : Ending) (w' : World) : Prop := e = .returned v ∧ Below w.heap.size w w'
theorem bcell {W w1 : World} (hb : Below W.heap.size W w1) : (∀ b o, b < W.heap.size → w1.cell? ⟨b, o, none⟩ = W.cell? ⟨b, o, none⟩) ∧ (∀ b o, b < W.heap.size → w1.frozen? ⟨b, o, none⟩ = W.frozen? ⟨b, o, none⟩) :=
  ⟨fun b o h => hb.cell (p := ⟨b, o, none⟩) h, fun b o h => hb.frozen (p := ⟨b, o, none⟩) h⟩
/-- what a division by x tells -/
def Tells (p q x : Int) : Prop :=
  (x ≤ p ∧ ∀ w, Calls Try.prog 22 #[.agg #[.int .u64 p, .int .u64 q], .int .u64 x] w (Ret (.tuple #[.int .u64 0, .int .u64 0, .int .i64 10]) w)) ∨
  (∃ m r mh ml : Int, p < x ∧ r < x ∧ (∀ w, Calls Try.prog 22 #[.agg #[.int .u64 p, .int .u64 q], .int .u64 x] w (Ret (.tuple #[.int .u64 m, .int .u64 r, .int .i64 0]) w)) ∧
    (∀ w, Calls Try.prog 12 #[.int .u64 m, .int .u64 x] w (Ret (.agg #[.int .u64 mh, .int .u64 ml]) w)) ∧
    (∀ w, Calls Try.prog 20 #[.agg #[.int .u64 mh, .int .u64 ml], .agg #[.int .u64 0, .int .u64 r]] w (Ret (.tuple #[.agg #[.int .u64 p, .int .u64 q], .bool false]) w)))
theorem tells (p q x : Int) (hp : 0 ≤ p) (hp2 : p < 18446744073709551616) (hq : 0 ≤ q) (hq2 : q < 18446744073709551616) (hx : 0 ≤ x) (hx2 : x < 18446744073709551616) : Tells p q x := by
  by_cases h : x ≤ p
  · exact .inl ⟨h, fun w => wide_Pair_Div.calls 200 p q x 0 0 10 w (div_over h)⟩
  · right
    have hD := fun w => wide_Pair_Div.calls 200 p q x _ _ _ w (div_f (by omega) hp (by omega) hq hq2 hx2)
    have hm1 := Int.emod_nonneg (p * 18446744073709551616 + q) (show x ≠ 0 by omega)
    have hm2 := Int.emod_lt_of_pos (p * 18446744073709551616 + q) (show 0 < x by omega)
    have hd := Int.ediv_mul_add_emod (p * 18446744073709551616 + q) x
    have hd0 : 0 ≤ (p * 18446744073709551616 + q) / x := Int.ediv_nonneg (by omega) hx
    have hd1 : (p * 18446744073709551616 + q) / x < 18446744073709551616 := Int.ediv_lt_of_lt_mul (by omega) (by
      have : (p + 1) * 18446744073709551616 ≤ x * 18446744073709551616 := by omega
      omega)
    generalize (p * 18446744073709551616 + q) / x = m at *
    generalize (p * 18446744073709551616 + q) % x = r at *
    have hmx0 : 0 ≤ m * x := Int.mul_nonneg hd0 hx
    have hM := fun w => wide_Mul.calls m x _ _ w (mul_f hd0 hd1 hx hx2)
    have hP := fun w => plus_calls (m * x / 18446744073709551616) (m * x % 18446744073709551616) 0 r w (by omega) (by omega) (by omega) (by omega) (by omega) (by omega) hm1 (by omega)
    have eh : hi (m * x / 18446744073709551616) (m * x % 18446744073709551616) 0 r = p := by unfold hi; omega
    have el : lo (m * x % 18446744073709551616) r = q := by unfold lo; omega
    have eo : over (m * x / 18446744073709551616) (m * x % 18446744073709551616) 0 r = false := decide_eq_false (by omega)
    rw [eh, el, eo] at hP
    exact ⟨m, r, _, _, by omega, hm2, hD, hM, hP⟩
/-- the three numbers lie in a block -/
def Row3 (w : World) (g : Nat) (xs : Nat → Int) : Prop := ∀ j : Nat, j < 3 → w.cell? ⟨g, j, none⟩ = some (.int .u64 (xs j))
theorem Row3.later {w wx : World} {g : Nat} {xs : Nat → Int} (h : Row3 w g xs) (hb : Below w.heap.size w wx) : Row3 wx g xs := fun j hj => cell_later hb (h j hj)
theorem same_pair (p q : Int) (w : World) : (binOp .neq 27 (.agg #[.int .u64 p, .int .u64 q]) (.agg #[.int .u64 p, .int .u64 q])).run Try.prog w = .ok (.bool false) w := by
  simp only [binOp]
  simp [Op.equal, Op.maxDepth, eqA27 9998 w p p q q]
set_option maxHeartbeats 1000000 in
theorem div (p q d s : Int) (w : World) (xs : Nat → Int) (hs : 0 ≤ s) (hs2 : s ≤ 255) (h0 : xs 0 = d) (h1 : xs 1 = d / 2 ^ (s % 64).toNat) (h2 : xs 2 = s) (ht : Hid (∀ k, k < 3 → Tells p q (xs k))) :
    Calls Try.prog 8 #[.agg #[.int .u64 p, .int .u64 q], .int .u64 d, .int .u8 s] w fun e w' => e = .returned (.bool true) ∧ Below w.heap.size w w' := by
  have H0 := Lib.hid h0
  have H1 := Lib.hid h1
  have H2 := Lib.hid h2
  clear h0 h1 h2
  have hsame := same_pair p q
  go_enter Try.func8, Try.ntmps8
  go_wp2_with (first | (go_at_call 10; refine (awake_calls _).mono ?_; rintro e w1 ⟨rfl, hw1⟩))
  have hz1 := hw1.size
  have cp0 := cell_later (below_alloc (Below.refl _ _) (.cells #[.int .u64 d, .int .u64 (d / 2 ^ (s % 64).toNat), .int .u64 s] 22)) (cell_later hw1 (show (w.alloc (.cells #[.int .u64 p, .int .u64 q] 27)).cell? ⟨w.heap.size, 0, none⟩ = some (.int .u64 p) by go_simp))
  have cp1 := cell_later (below_alloc (Below.refl _ _) (.cells #[.int .u64 d, .int .u64 (d / 2 ^ (s % 64).toNat), .int .u64 s] 22)) (cell_later hw1 (show (w.alloc (.cells #[.int .u64 p, .int .u64 q] 27)).cell? ⟨w.heap.size, 1, none⟩ = some (.int .u64 q) by go_simp))
  go_loopw [25] (fun i wr => ∃ k : Nat, k ≤ 3 ∧ i = .int .i64 k ∧ Row3 wr w1.heap.size xs ∧ wr.cell? ⟨w.heap.size, 0, none⟩ = some (.int .u64 p) ∧ wr.cell? ⟨w.heap.size, 1, none⟩ = some (.int .u64 q) ∧ w1.heap.size < wr.heap.size ∧ Below w.heap.size w wr) (fun i _ => 3 - (intOf i).toNat)
  case atStart =>
    refine ⟨0, by omega, rfl, ?_, cp0, cp1, by simp, below_alloc (below_step (below_alloc (Below.refl _ _) _) hw1) _⟩
    intro j hj
    rcases (show j = 0 ∨ j = 1 ∨ j = 2 by omega) with rfl | rfl | rfl
    · rw [H0.out]; go_simp
    · rw [H1.out]; go_simp
    · rw [H2.out]; go_simp
  case round =>
    obtain ⟨k, hk, rfl, hxs, hp0, hp1, hsz, hbel⟩ := hrel
    clear cp0 cp1
    have hwr : w.heap.size < wr.heap.size := by simp at hz1; omega
    by_cases hlt : k < 3
    · have hx := hxs k hlt
      have hT := ht.out k hlt
      obtain ⟨x, hxk⟩ : ∃ x, xs k = x := ⟨_, rfl⟩
      rw [hxk] at hx hT
      clear hxk
      rcases hT with ⟨hle, hD⟩ | ⟨m, r, mh, ml, hpx, hrx, hD, hM, hP⟩
      · have HD := Lib.hid hD
        clear hD
        go_wp2_with (first | (go_at_call 22; refine (HD.out _).mono ?_; rintro e w2 ⟨rfl, hb2⟩; have hp0' := cell_later hb2 hp0; have hp1' := cell_later hb2 hp1))
        refine ⟨⟨k + 1, by omega, by go_num, hxs.later hb2, hp0', hp1', Nat.lt_of_lt_of_le hsz hb2.size, below_step hbel hb2⟩, by simp [intOf]; omega⟩
      · have HD := Lib.hid hD
        have HM := Lib.hid hM
        have HP := Lib.hid hP
        clear hD hM hP
        go_wp2_with (first | (go_at_call 22; refine (HD.out _).mono ?_; rintro e w2 ⟨rfl, hb2⟩; have hp0' := cell_later hb2 hp0; have hp1' := cell_later hb2 hp1) | (go_at_call 12; refine (HM.out _).mono ?_; rintro e w3 ⟨rfl, hb3⟩; have hp0'' := cell_later hb3 hp0'; have hp1'' := cell_later hb3 hp1') | (go_at_call 20; refine (HP.out _).mono ?_; rintro e w4 ⟨rfl, hb4⟩; have hp0''' := cell_later hb4 hp0''; have hp1''' := cell_later hb4 hp1''; have hz4 : w.heap.size < w4.heap.size := Nat.lt_of_lt_of_le hwr (Nat.le_trans hb2.size (Nat.le_trans hb3.size hb4.size))))
        have hch : Below wr.heap.size wr (w4.alloc (.cells #[.int .u64 p, .int .u64 q] 27)) := below_alloc (below_step (below_step hb2 hb3) hb4) _
        refine ⟨⟨k + 1, by omega, by go_num, hxs.later hch, cell_later hch hp0, cell_later hch hp1, Nat.lt_of_lt_of_le hsz hch.size, below_step hbel hch⟩, by simp [intOf]; omega⟩
    · go_wp2
      go_ret
      exact ⟨rfl, hbel⟩
theorem walk (p q d s : Int) (w : World) (wp : (Lit.int .u64 p).wf = true) (wq : (Lit.int .u64 q).wf = true) (wd : (Lit.int .u64 d).wf = true) (ws : (Lit.int .u8 s).wf = true) :
    Calls Try.prog 8 #[.agg #[.int .u64 p, .int .u64 q], .int .u64 d, .int .u8 s] w fun e w' => e = .returned (.bool true) ∧ Below w.heap.size w w' := by
  have hp := bounds_u64 wp
  have hq := bounds_u64 wq
  have hd := bounds_u64 wd
  have hs := bounds_u8 ws
  have hx0 : 0 ≤ d / 2 ^ (s % 64).toNat := Int.ediv_nonneg hd.1 (Int.le_of_lt (Int.pow_pos (by omega)))
  have hx1 : d / 2 ^ (s % 64).toNat ≤ d := Int.ediv_le_self _ hd.1
  refine div p q d s w (fun k => if k = 0 then d else if k = 1 then d / 2 ^ (s % 64).toNat else s) hs.1 hs.2 rfl rfl rfl ?_
  show ∀ k, k < 3 → Tells p q _
  intro k _
  by_cases h0 : k = 0
  · rw [if_pos h0]; exact tells p q d hp.1 (by omega) hq.1 (by omega) hd.1 (by omega)
  · rw [if_neg h0]
    by_cases h1 : k = 1
    · rw [if_pos h1]; exact tells p q _ hp.1 (by omega) hq.1 (by omega) hx0 (by omega)
    · rw [if_neg h1]; exact tells p q s hp.1 (by omega) hq.1 (by omega) hs.1 (by omega)
end Go.Proofs.Ytdnflmnlbcjnlaa.WalkDiv
