/- Draw's contract for any field and any pen: what may be drawn is drawn, what may not be is told. Conditions: the field's row reads as a list of bytes. -/
import Derived.Test.YtfbnaicnmkkohaaBads
import Derived.Test.YtfbnaicnmkkohaaDrawO
namespace Go.Proofs.Ytfbnaicnmkkohaa.Any
open Go Go.RowKit Go.Lib Go.Proofs.YtfbnaicnmkkohaaW.PrintWords Go.Proofs.YtfbnaicnmkkohaaW.PrintLast Go.Proofs.YtfbnaicnmkkohaaW.PrintMore Go.Proofs.Ytfbnaicnmkkohaa.Core Go.Proofs.Ytfbnaicnmkkohaa.PFramePlace Go.Proofs.Ytfbnaicnmkkohaa.Repeat Go.Proofs.Ytfbnaicnmkkohaa.Frames Go.Proofs.Ytfbnaicnmkkohaa.Draw Go.Proofs.Ytfbnaicnmkkohaa.Drawn Go.Proofs.Ytfbnaicnmkkohaa.Awake Go.Proofs.Ytfbnaicnmkkohaa.Two Go.Proofs.Ytfbnaicnmkkohaa.Glue Go.Proofs.Ytfbnaicnmkkohaa.Parts Go.Proofs.Ytfbnaicnmkkohaa.May Go.Proofs.Ytfbnaicnmkkohaa.Bads
set_option linter.unusedVariables false
theorem cells_of_C {w : World} {A : Option Addr} {l : List Int} (h : Kd.C (Kd.int .u8) w A l.length l) (hl : 1 ≤ l.length) :
    ∃ g off, A = some ⟨g, off, none⟩ ∧ ∀ j, j < l.length → w.cell? ⟨g, off + j, none⟩ = some (.int .u8 (l.getD j 0)) := by
  obtain ⟨_, _, h3⟩ := h
  obtain ⟨a, rfl, hx⟩ := h3 (by omega)
  have cell : ∀ j, j < l.length → w.cell? (a.add j) = some (.int .u8 (l.getD j 0)) := by
    intro j hj
    obtain ⟨cs, h1, h2, h4⟩ := hx j l[j] (List.getElem?_eq_getElem hj)
    have hcs : cs = [.int .u8 l[j]] := h2
    subst hcs
    have := h4 0 (.int .u8 l[j]) rfl
    rw [List.getD_eq_getElem?_getD, List.getElem?_eq_getElem hj]
    have e : j * (Kd.int .u8).sz + 0 = j := by show j * 1 + 0 = j; omega
    rw [e] at this
    exact this
  obtain ⟨ab, ao, sp⟩ := a
  have hs : sp = none := by
    have h0 := cell 0 (by omega)
    cases sp with
    | none => rfl
    | some s =>
      exfalso
      simp [Addr.add, World.cell?] at h0
      split at h0 <;> simp_all
  subst hs
  refine ⟨ab, ao, rfl, fun j hj => ?_⟩
  have := cell j hj
  rw [Addr.add_mid] at this
  exact this
theorem reads_off {w : World} {g off : Nat} {l : List Int} (hk : ∀ k, k < l.length → w.cell? ⟨g, off + k, none⟩ = some (.int .u8 (l.getD k 0))) (hm : l.length ≤ 100000) : Kd.C (Kd.int .u8) w (some ⟨g, off, none⟩) l.length l := by
  refine ⟨rfl, by omega, fun _ => ⟨⟨g, off, none⟩, rfl, fun j p hp => ?_⟩⟩
  refine ⟨[.int .u8 p], rfl, rfl, fun i u hi => ?_⟩
  have hj : j < l.length := (List.getElem?_eq_some_iff.1 hp).1
  have hi0 : i = 0 := by
    rcases i with _ | i
    · rfl
    · simp at hi
  subst hi0
  simp at hi
  subst hi
  have := hk j hj
  rw [List.getD_eq_getElem?_getD, hp] at this
  show w.cell? ((⟨g, off, none⟩ : Addr).add (j * 1 + 0)) = _
  rw [Addr.add_mid, Nat.mul_one, Nat.add_zero]
  exact this
/-- is the field right -/
def right (W H : Int) (l : List Int) : Bool := decide (0 < W) && decide (0 < H) && decide (W < 65) && decide (H < 65) && ((l.length : Int) == wrap64 (W * H))
theorem right_all (W H : Int) (l : List Int) : bilin_Right.f W H l = some (right W H l) := by
  unfold bilin_Right.f right
  by_cases h1 : 0 < W
  · rw [if_pos h1, decide_eq_true h1]
    by_cases h2 : 0 < H
    · rw [if_pos h2, decide_eq_true h2]
      by_cases h3 : W ≤ 64
      · rw [if_pos h3, decide_eq_true (show W < 65 by omega)]
        by_cases h4 : H ≤ 64
        · rw [if_pos h4, decide_eq_true (show H < 65 by omega)]; rfl
        · rw [if_neg h4, decide_eq_false (show ¬ H < 65 by omega)]; rfl
      · rw [if_neg h3, decide_eq_false (show ¬ W < 65 by omega)]; rfl
    · rw [if_neg h2, decide_eq_false h2]; rfl
  · rw [if_neg h1, decide_eq_false h1]; rfl
theorem right_yes {W H : Int} {l : List Int} (h : right W H l = true) : 1 ≤ W ∧ W ≤ 64 ∧ 1 ≤ H ∧ H ≤ 64 ∧ (l.length : Int) = W * H := by
  unfold right at h
  simp only [Bool.and_eq_true, decide_eq_true_eq, beq_iff_eq] at h
  obtain ⟨⟨⟨⟨h1, h2⟩, h3⟩, h4⟩, h5⟩ := h
  have h6 : W * H ≤ 64 * 64 := Int.mul_le_mul (by omega) (by omega) (by omega) (by omega)
  have h7 : 0 < W * H := Int.mul_pos h1 h2
  rw [w64 (by omega) (by omega)] at h5
  exact ⟨by omega, by omega, by omega, by omega, h5⟩
theorem right_of {W H : Nat} {l : List Int} (hW : 1 ≤ W) (hW2 : W ≤ 64) (hH : 1 ≤ H) (hH2 : H ≤ 64) (hl : l.length = W * H) : right W H l = true := by
  have h6 : W * H ≤ 64 * 64 := Nat.mul_le_mul hW2 hH2
  unfold right
  rw [decide_eq_true (show (0 : Int) < W by omega), decide_eq_true (show (0 : Int) < H by omega), decide_eq_true (show (W : Int) < 65 by omega), decide_eq_true (show (H : Int) < 65 by omega), ← Int.natCast_mul, w64 (by omega) (by omega), hl]
  simp
/-- what Draw tells -/
def er (m : Bool) : Int := if m then 0 else 4
/-- what Draw leaves -/
def DrawEnd (F T W H : Nat) (LF : List Int) (m : Bool) (w : World) (e : Ending) (w' : World) : Prop :=
  e = .returned (.int .i64 (er m)) ∧ (∃ L : List Int, L.length = W * H ∧ (∀ z ∈ L, 0 ≤ z ∧ z ≤ 255) ∧ Frm w' F T W H L ∧ (m = false → L = LF)) ∧ Sv T w w'
theorem rightR (RN RD : Int) (w : World) : Calls Try.prog 19 #[.agg #[.int .i64 RN, .int .i64 RD]] w (Ret (.bool (decide (0 < mn RN RD) && decide (mx RN RD < 65))) w) := by
  refine frame_Right.calls RN RD _ w ?_
  unfold frame_Right.f
  by_cases h1 : 0 < RN
  · rw [if_pos h1]
    by_cases h2 : RN ≤ 64
    · rw [if_pos h2]
      by_cases h3 : 0 < RD
      · rw [if_pos h3, decide_eq_true (show 0 < mn RN RD by unfold mn; split <;> omega), Bool.true_and]
        congr 1
        exact decide_eq_decide.2 (by unfold mx; split <;> omega)
      · rw [if_neg h3, decide_eq_false (show ¬ 0 < mn RN RD by unfold mn; split <;> omega), Bool.false_and]
    · rw [if_neg h2, decide_eq_false (show ¬ mx RN RD < 65 by unfold mx; split <;> omega), Bool.and_false]
  · rw [if_neg h1, decide_eq_false (show ¬ 0 < mn RN RD by unfold mn; split <;> omega), Bool.false_and]
theorem good (W H : Nat) (AW AH PX PY RN RD LO HI INK : Int) (A : Option Addr) (cap F T : Nat) (al l : List Int) (w : World)
    (hW : 1 ≤ W) (hW2 : W ≤ 96) (hH : 1 ≤ H) (hH2 : H ≤ 96) (hl : l.length = W * H) (hl2 : ∀ z ∈ l, 0 ≤ z ∧ z ≤ 255) (hal2 : ∀ z ∈ al, 0 ≤ z ∧ z ≤ 255) (hcap : al.length ≤ cap) (hI : 0 ≤ INK) (hI2 : INK ≤ 255)
    (hC : Kd.C (Kd.int .u8) w A al.length al) (hAT : 1 ≤ al.length → ∀ g off, A = some ⟨g, off, none⟩ → g ≠ T) (hF : Frm w F T W H l) (hm : right AW AH al = true) (hp : penOk PX PY RN RD LO HI = true) :
    Calls Try.prog 15 #[.pointer (some ⟨F, 0, none⟩), .agg #[.int .i64 AW, .int .i64 AH, .slice A al.length cap], .agg #[.int .i64 PX, .int .i64 PY, .int .i64 RN, .int .i64 RD, .int .i64 LO, .int .i64 HI, .int .u8 INK]] w (DrawEnd F T W H l true w) := by
  obtain ⟨hAW, hAW2, hAH, hAH2, hal⟩ := right_yes hm
  obtain ⟨⟨hRN, hRN2, hRD, hRD2⟩, ⟨hPX, hPX2⟩, ⟨hPY, hPY2⟩, hLO, hHI, hLH⟩ := penOk_iff.1 hp
  have hA1 : AW * AH ≤ 64 * 64 := Int.mul_le_mul hAW2 hAH2 (by omega) (by omega)
  have hA0 : 0 < AW * AH := Int.mul_pos (by omega) (by omega)
  obtain ⟨g, off, rfl, hg⟩ := cells_of_C hC (by omega)
  have hgT := hAT (by omega) g off rfl
  have hpar := fun u v => frac_bd (AW := AW) (AH := AH) (al := al) (u := u) (v := v) (den := 2 * RN) hal2 (by omega) (by omega)
  have b1 : AW * (2 * RN) ≤ 64 * 128 := Int.mul_le_mul hAW2 (by omega) (by omega) (by omega)
  have b2 : AH * (2 * RN) ≤ 64 * 128 := Int.mul_le_mul hAH2 (by omega) (by omega) (by omega)
  let D : Nat → Int := fun j => col AW AH al LO HI INK (uu PX RD (j % W)) (uu PY RD (j / W)) (2 * RN) (l.getD j 0)
  refine (DrawO.drawO off W H AW AH PX PY RN RD LO HI INK (2 * RN) g cap F T al l D w hW hW2 hH hH2 hl hl2 hAW hAW2 hAH hAH2 hal hal2 hcap hPX hPX2 hPY hPY2 hRN hRN2 hRD hRD2 hLO hLH hHI hI hI2 rfl hgT hF hg
    (fun y x hx hy => by
      have hgr := FullAll.grid_at (A := D) (H := 0) (y := y) hx
      show col AW AH al LO HI INK (uu PX RD ((y * W + x) % W)) (uu PY RD ((y * W + x) / W)) (2 * RN) (l.getD (y * W + x) 0) = _
      rw [hgr.1, hgr.2])
    (hid fun w' hc => bilin_Right.calls AW AH _ cap al true w' (reads_off hc (by omega)) hcap (right_f hAW hAW2 hAH hAH2 hal))
    (hid fun w' => frame_Right.calls RN RD true w' ?_) (hid fun z w' h1 h2 => far z w' h1 h2)
    (hid fun x y w' hx hy => place x y w' (by omega) (by omega) hPX hPX2 hPY hPY2 hRN hRN2 hRD hRD2 rfl)
    (hid fun u v w' h1 h2 h3 h4 hc => bilin_At.calls 4194400 AW AH _ cap al u v (2 * RN) _ _ _ w' (reads_off hc (by omega)) hcap (at_f (Nat.le_refl _) hAW hAW2 hAH hAH2 hal hal2 (by omega) (by omega) (by omega) (by omega) (by omega) (by omega)))
    (hid fun u v w' h1 h2 h3 h4 => ramp_Cover.calls 1 _ _ LO HI _ w' (cover_f (Nat.le_refl _) (hpar u v).2.2.1 (hpar u v).2.2.2 (hpar u v).1 (hpar u v).2.1 hLO hLH hHI))
    (hid fun o u v w' h1 h2 => (ramp_Blend.calls o INK _ _ w' (blend_f h1 h2 hI hI2 (cov_bd (hpar u v).1 hLH).1 (cov_bd (hpar u v).1 hLH).2)).mono fun e w2 ⟨h3, h4⟩ => ⟨h3, h4.below⟩)).mono fun e w' ⟨h1, h2, h3⟩ => ⟨h1, ⟨_, by rw [List.length_map, List.length_range]; exact hl, ?_, h2, fun h => by cases h⟩, h3⟩
  · unfold frame_Right.f; rw [if_pos (by omega), if_pos hRN2, if_pos (by omega), decide_eq_true hRD2]
  · intro z hz
    obtain ⟨j, hj, rfl⟩ := List.mem_map.1 hz
    have hjl := List.mem_range.1 hj
    refine col_bd hal2 (by omega) (by omega) hLH hI hI2 ?_
    rw [List.getD_eq_getElem?_getD, List.getElem?_eq_getElem hjl]
    exact hl2 _ (List.getElem_mem hjl)
theorem bad_end {W H F T : Nat} {l : List Int} {w : World} {args : Array Value} (hl : l.length = W * H) (hl2 : ∀ z ∈ l, 0 ≤ z ∧ z ≤ 255) (hF : Frm w F T W H l) (h : Calls Try.prog 15 args w (Ret (.int .i64 4) w)) : Calls Try.prog 15 args w (DrawEnd F T W H l false w) :=
  h.mono fun e w' ⟨h1, h2⟩ => ⟨h1, ⟨l, hl, hl2, frm_later hF h2, fun _ => rfl⟩, (Sv.refl T w).step h2⟩
/-- Draw, whatever it is handed -/
theorem draw_all (W H : Nat) (AW AH PX PY RN RD LO HI INK : Int) (A : Option Addr) (cap F T : Nat) (al l : List Int) (m : Bool) (w : World)
    (hW : 1 ≤ W) (hW2 : W ≤ 96) (hH : 1 ≤ H) (hH2 : H ≤ 96) (hl : l.length = W * H) (hl2 : ∀ z ∈ l, 0 ≤ z ∧ z ≤ 255) (hal2 : ∀ z ∈ al, 0 ≤ z ∧ z ≤ 255) (hcap : al.length ≤ cap) (hI : 0 ≤ INK) (hI2 : INK ≤ 255)
    (hC : Kd.C (Kd.int .u8) w A al.length al) (hAT : 1 ≤ al.length → ∀ g off, A = some ⟨g, off, none⟩ → g ≠ T) (hF : Frm w F T W H l) (hm : (right AW AH al && penOk PX PY RN RD LO HI) = m) :
    Calls Try.prog 15 #[.pointer (some ⟨F, 0, none⟩), .agg #[.int .i64 AW, .int .i64 AH, .slice A al.length cap], .agg #[.int .i64 PX, .int .i64 PY, .int .i64 RN, .int .i64 RD, .int .i64 LO, .int .i64 HI, .int .u8 INK]] w (DrawEnd F T W H l m w) := by
  have HR := fun r (hr : right AW AH al = r) => Lib.hid fun (w' : World) (hb : Below w.heap.size w w') => bilin_Right.calls AW AH A cap al r w' (Kd.C_below hC hb) hcap (by rw [right_all, hr])
  have HF := Lib.hid fun z (w' : World) => far_all z w'
  by_cases c0 : right AW AH al = true
  · have HR1 := HR true c0
    by_cases c1 : (decide (0 < mn RN RD) && decide (mx RN RD < 65)) = true
    · have HQ := Lib.hid fun w' => (by have := rightR RN RD w'; rw [c1] at this; exact this : Calls Try.prog 19 #[.agg #[.int .i64 RN, .int .i64 RD]] w' (Ret (.bool true) w'))
      by_cases c2 : -96 ≤ PX ∧ PX ≤ 96
      · have f1 := farB_no c2.1 c2.2
        by_cases c3 : -96 ≤ PY ∧ PY ≤ 96
        · have f2 := farB_no c3.1 c3.2
          by_cases c4 : LO < 0
          · obtain rfl : m = false := by rw [← hm, Bool.and_eq_false_iff]; right; rw [Bool.eq_false_iff]; intro h; have := penOk_iff.1 h; omega
            exact bad_end hl hl2 hF (badL F AW AH PX PY RN RD LO HI INK A _ cap w f1 f2 c4 HR1 HQ HF)
          · by_cases c5 : 255 < HI
            · obtain rfl : m = false := by rw [← hm, Bool.and_eq_false_iff]; right; rw [Bool.eq_false_iff]; intro h; have := penOk_iff.1 h; omega
              exact bad_end hl hl2 hF (badH F AW AH PX PY RN RD LO HI INK A _ cap w f1 f2 c4 c5 HR1 HQ HF)
            · by_cases c6 : HI ≤ LO
              · obtain rfl : m = false := by rw [← hm, Bool.and_eq_false_iff]; right; rw [Bool.eq_false_iff]; intro h; have := penOk_iff.1 h; omega
                exact bad_end hl hl2 hF (badO F AW AH PX PY RN RD LO HI INK A _ cap w f1 f2 c4 c5 c6 HR1 HQ HF)
              · simp only [Bool.and_eq_true, decide_eq_true_eq] at c1
                have hp : penOk PX PY RN RD LO HI = true := penOk_iff.2 ⟨by have := c1.1; have := c1.2; unfold mn mx at *; split at * <;> split at * <;> omega, c2, c3, by omega, by omega, by omega⟩
                obtain rfl : m = true := by rw [← hm, c0, hp]; rfl
                exact good W H AW AH PX PY RN RD LO HI INK A cap F T al l w hW hW2 hH hH2 hl hl2 hal2 hcap hI hI2 hC hAT hF c0 hp
        · obtain rfl : m = false := by rw [← hm, Bool.and_eq_false_iff]; right; rw [Bool.eq_false_iff]; intro h; have := penOk_iff.1 h; omega
          exact bad_end hl hl2 hF (badY F AW AH PX PY RN RD LO HI INK A _ cap w f1 (farB_yes (by omega)) HR1 HQ HF)
      · obtain rfl : m = false := by rw [← hm, Bool.and_eq_false_iff]; right; rw [Bool.eq_false_iff]; intro h; have := penOk_iff.1 h; omega
        exact bad_end hl hl2 hF (badX F AW AH PX PY RN RD LO HI INK A _ cap w (farB_yes (by omega)) HR1 HQ HF)
    · rw [Bool.not_eq_true] at c1
      have HQ := Lib.hid fun w' => (by have := rightR RN RD w'; rw [c1] at this; exact this : Calls Try.prog 19 #[.agg #[.int .i64 RN, .int .i64 RD]] w' (Ret (.bool false) w'))
      obtain rfl : m = false := by
        rw [← hm, Bool.and_eq_false_iff]; right
        unfold penOk
        rw [c1]; simp
      exact bad_end hl hl2 hF (badR F AW AH PX PY RN RD LO HI INK A _ cap w HR1 HQ HF)
  · rw [Bool.not_eq_true] at c0
    obtain rfl : m = false := by rw [← hm, c0]; rfl
    have HQ := Lib.hid fun w' => (rightR RN RD w')
    exact bad_end hl hl2 hF (badF F AW AH PX PY RN RD LO HI INK A _ cap w (HR false c0))
end Go.Proofs.Ytfbnaicnmkkohaa.Any
