/- BilinWrong: what may not be is told. Conditions: the field's row reads as a list of bytes. -/
import Derived.Test.YtignhpmfaodpjaaWalkWrong
import Derived.ChangeArms
import Derived.ChangeSlices
namespace Go.Proofs.Ytignhpmfaodpjaa.WrongAll
open Go Go.RowKit Go.Lib Go.Proofs.YtignhpmfaodpjaaW.PrintWords Go.Proofs.YtignhpmfaodpjaaW.PrintLast Go.Proofs.YtignhpmfaodpjaaW.PrintMore Go.Proofs.Ytignhpmfaodpjaa.Core Go.Proofs.Ytignhpmfaodpjaa.PBilinFlat Go.Proofs.Ytignhpmfaodpjaa.WalkField Go.Proofs.Ytignhpmfaodpjaa.WalkSome Go.Proofs.Ytignhpmfaodpjaa.Glue Go.Proofs.Ytignhpmfaodpjaa.Base
set_option linter.unusedVariables false
set_option linter.unusedSimpArgs false
theorem take_reads {w : World} {A : Option Addr} {n k : Nat} {l : List Int} (h : Kd.C (Kd.int .u8) w A n l) (hk : k ≤ n) : Kd.C (Kd.int .u8) w A k (l.take k) := by
  obtain ⟨h1, h2, h3⟩ := h
  refine ⟨by rw [List.length_take]; omega, by omega, fun h0 => ?_⟩
  obtain ⟨a, ha, hx⟩ := h3 (by omega)
  refine ⟨a, ha, fun j p hp => hx j p ?_⟩
  rw [List.getElem?_take] at hp
  split at hp
  · exact hp
  · cases hp
/-- is the field right -/
def right (W H : Int) (l : List Int) : Bool := decide (0 < W) && decide (0 < H) && decide (W < 65) && decide (H < 65) && ((l.length : Int) == wrap64 (W * H))
/-- may the place be -/
def may (x y d : Int) : Bool := decide (0 < d) && decide (d ≤ 1024) && decide (mx x y ≤ 1048576) && decide (-1048576 ≤ mn x y)
theorem right_all (W H : Int) (l : List Int) : bilin_Right.f W H l = some (right W H l) := by
  unfold bilin_Right.f right
  by_cases h1 : 0 < W
  · rw [if_pos h1, decide_eq_true h1]
    by_cases h2 : 0 < H
    · rw [if_pos h2, decide_eq_true h2]
      by_cases h3 : W ≤ 64
      · rw [if_pos h3, decide_eq_true (show W < 65 by omega)]
        by_cases h4 : H ≤ 64
        · rw [if_pos h4, decide_eq_true (show H < 65 by omega)]; rfl
        · rw [if_neg h4, decide_eq_false (show ¬ H < 65 by omega)]; rfl
      · rw [if_neg h3, decide_eq_false (show ¬ W < 65 by omega)]; rfl
    · rw [if_neg h2, decide_eq_false h2]; rfl
  · rw [if_neg h1, decide_eq_false h1]; rfl
theorem may_iff {x y d : Int} : may x y d = true ↔ 1 ≤ d ∧ d ≤ 1024 ∧ x ≤ 1048576 ∧ y ≤ 1048576 ∧ -1048576 ≤ x ∧ -1048576 ≤ y := by
  unfold may mx mn
  simp only [Bool.and_eq_true, decide_eq_true_eq]
  constructor
  · rintro ⟨⟨⟨h1, h2⟩, h3⟩, h4⟩
    split at h3 <;> split at h4 <;> omega
  · rintro ⟨h1, h2, h3, h4, h5, h6⟩
    refine ⟨⟨⟨by omega, h2⟩, ?_⟩, ?_⟩ <;> split <;> omega
theorem at_bad {W H x y d : Int} {l : List Int} (h : (right W H l && may x y d) = false) : bilin_At.f 1 W H l x y d = some (0, 0, 4) := by
  unfold bilin_At.f
  rw [right_all]
  simp only [Option.bind_some]
  cases hR : right W H l
  · rw [if_neg (by simp)]; simp [bilin_At.j0]
  · rw [hR, Bool.true_and] at h
    have hm : ¬ (1 ≤ d ∧ d ≤ 1024 ∧ x ≤ 1048576 ∧ y ≤ 1048576 ∧ -1048576 ≤ x ∧ -1048576 ≤ y) := fun c => by
      rw [may_iff.mpr c] at h; cases h
    rw [if_pos rfl]
    by_cases c1 : d < 1
    · rw [if_pos c1]; simp [bilin_At.j0]
    rw [if_neg c1]
    by_cases c2 : d > 1024
    · rw [if_pos c2]; simp [bilin_At.j0]
    rw [if_neg c2]
    by_cases c3 : x < -1048576
    · rw [if_pos c3]; simp [bilin_At.j0]
    rw [if_neg c3]
    by_cases c4 : x > 1048576
    · rw [if_pos c4]; simp [bilin_At.j0]
    rw [if_neg c4]
    by_cases c5 : y < -1048576
    · rw [if_pos c5]; simp [bilin_At.j0]
    rw [if_neg c5, decide_eq_true (show y > 1048576 by omega)]
    simp [bilin_At.j0]
theorem right_iff {W H : Int} {l : List Int} (h : right W H l = true) : 1 ≤ W ∧ W ≤ 64 ∧ 1 ≤ H ∧ H ≤ 64 ∧ (l.length : Int) = W * H := by
  unfold right at h
  simp only [Bool.and_eq_true, decide_eq_true_eq, beq_iff_eq] at h
  obtain ⟨⟨⟨⟨h1, h2⟩, h3⟩, h4⟩, h5⟩ := h
  have a1 : 0 ≤ W * H := Int.mul_nonneg (by omega) (by omega)
  have a2 : W * H ≤ 64 * 64 := Int.mul_le_mul (by omega) (by omega) (by omega) (by omega)
  rw [w64 (by omega) (by omega)] at h5
  exact ⟨by omega, by omega, by omega, by omega, h5⟩
/-- what bilin.At tells of any field and place -/
def told (W H : Int) (l : List Int) (x y d : Int) : Int × Int × Int :=
  if right W H l && may x y d then (val W H l x y d / (Int.gcd (val W H l x y d) (2 * d * (2 * d)) : Nat), 2 * d * (2 * d) / (Int.gcd (val W H l x y d) (2 * d * (2 * d)) : Nat), 0) else (0, 0, 4)
theorem told_calls {W H : Int} {l : List Int} (hl : ∀ z ∈ l, 0 ≤ z ∧ z ≤ 255) {x y d : Int} (w : World) (A : Option Addr) (cap : Nat) (hr : Kd.C (Kd.int .u8) w A l.length l) (hc : l.length ≤ cap) :
    Calls Try.prog 12 #[.agg #[.int .i64 W, .int .i64 H, .slice A l.length cap], .int .i64 x, .int .i64 y, .int .i64 d] w (Ret (.tuple #[.agg #[.int .i64 (told W H l x y d).1, .int .i64 (told W H l x y d).2.1], .int .i64 (told W H l x y d).2.2]) w) := by
  unfold told
  cases h : (right W H l && may x y d)
  · rw [if_neg (by simp)]
    exact bilin_At.calls 1 W H A cap l x y d _ _ _ w hr hc (at_bad h)
  · rw [if_pos rfl]
    obtain ⟨h1, h2⟩ := Bool.and_eq_true_iff.mp h
    obtain ⟨a1, a2, a3, a4, a5⟩ := right_iff h1
    obtain ⟨b1, b2, b3, b4, b5, b6⟩ := may_iff.mp h2
    exact at_calls a1 a2 a3 a4 a5 hl b1 b2 b5 b3 b6 b4 rfl rfl w A cap hr hc
theorem walk (W H : Int) (A : Option Addr) (len cap : Nat) (l : List Int) (x y d op key aw ah ink : Int) (w : World) (hr : Kd.C (Kd.int .u8) w A len l) (hlc : len ≤ cap) (hcap : cap ≤ 9223372036854775807) (hnil : A = none → len = 0 ∧ cap = 0) (hl : ∀ z ∈ l, 0 ≤ z ∧ z ≤ 255)
    (w2 : (Lit.int .u8 aw).wf = true) (w3 : (Lit.int .u8 ah).wf = true) :
    Calls Try.prog 4 #[.agg #[.int .i64 W, .int .i64 H, .slice A len cap], .int .i64 x, .int .i64 y, .int .i64 d, .agg #[.int .u8 op, .int .u8 key, .int .u8 aw, .int .u8 ah, .int .u8 ink]] w fun e w' => e = .returned (.bool true) ∧ Below w.heap.size w w' := by
  have hw := bounds_u8 w2
  have hh := bounds_u8 w3
  have hll : l.length = len := hr.1
  obtain ⟨k, hk⟩ : ∃ k : Nat, (if (300 : Int) < (len : Int) then 300 else (len : Int)) = (k : Int) := by
    by_cases c : (300 : Int) < (len : Int)
    · exact ⟨300, by rw [if_pos c]; rfl⟩
    · exact ⟨len, by rw [if_neg c]⟩
  have hkl : k ≤ len := by split at hk <;> omega
  have hkk : (l.take k).length = k := by rw [List.length_take]; omega
  have hrt := take_reads hr hkl
  have hlt : ∀ z ∈ l.take k, 0 ≤ z ∧ z ≤ 255 := fun z hz => hl z (List.mem_of_mem_take hz)
  have hS := fun w => some_calls op key aw ah ink 0 0 0 w hw.1 hw.2 hh.1 hh.2 (by omega) (by omega) (by omega) (by omega) (by omega) (by omega)
  have hW : 1 ≤ 1 + aw % 12 ∧ 1 + aw % 12 ≤ 12 := by omega
  have hH : 1 ≤ 1 + ah % 12 ∧ 1 + ah % 12 ≤ 12 := by omega
  generalize 1 + aw % 12 = GW at *
  generalize 1 + ah % 12 = GH at *
  have ha := area_bd hW.1 hW.2 hH.1 hH.2
  have hlen : ((texels ink (GW * GH).toNat).length : Int) = GW * GH := by rw [texels_length]; omega
  have hgl := texels_bd ink (GW * GH).toNat
  generalize texels ink (GW * GH).toNat = gl at *
  have hgr : right GW GH gl = true := by
    unfold right
    rw [decide_eq_true (show 0 < GW by omega), decide_eq_true (show 0 < GH by omega), decide_eq_true (show GW < 65 by omega), decide_eq_true (show GH < 65 by omega), w64 (by omega) (by omega), hlen]
    simp
  have hT := fun (w' : World) (hb : Below w.heap.size w w') => bilin_Right.calls W H A cap (l.take k) _ w' (by rw [hkk]; exact Kd.C_below hrt hb) (by rw [hkk]; omega) (right_all W H (l.take k))
  have hA := fun (w' : World) (hb : Below w.heap.size w w') => told_calls (W := W) (H := H) (x := x) (y := y) (d := d) hlt w' A cap (by rw [hkk]; exact Kd.C_below hrt hb) (by rw [hkk]; omega)
  have hG := fun (w : World) (A : Option Addr) (cap : Nat) hr hc => told_calls (W := GW) (H := GH) (x := x) (y := y) (d := d) hgl w A cap hr hc
  have hGT := fun (w : World) (A : Option Addr) (cap : Nat) hr hc => bilin_Right.calls GW GH A cap gl true w hr hc (by rw [right_all, hgr])
  simp only [hkk] at hT hA
  refine WalkWrong.wrong W H x y d op key aw ah ink GW GH _ _ _ _ _ _ (mx x y) (mn x y) (wrap64 (W * H)) A len cap k (l.take k) gl _ _ _ _ _ _ _ _ _ (right W H (l.take k)) (may x y d) w hlc hcap hnil hk (by omega) rfl rfl rfl rfl rfl rfl rfl rfl rfl rfl rfl rfl (by unfold right; rw [hkk]) rfl (hid hA) (hid hT) (hid hS) (hid hG) (hid hGT) (by omega) ?_ ?_
  · unfold told
    cases h : (right W H (l.take k) && may x y d)
    · exact .inr ⟨rfl, by rw [if_neg (by simp)], by rw [if_neg (by simp)], by rw [if_neg (by simp)]⟩
    · exact .inl ⟨rfl, by rw [if_pos rfl]⟩
  · unfold told
    rw [hgr, Bool.true_and]
    cases h : may x y d
    · exact .inr ⟨rfl, by rw [if_neg (by simp)], by rw [if_neg (by simp)], by rw [if_neg (by simp)]⟩
    · exact .inl ⟨rfl, by rw [if_pos rfl]⟩
end Go.Proofs.Ytignhpmfaodpjaa.WrongAll
