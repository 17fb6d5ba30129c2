/- FrameWrong: what may not be drawn is told, and nothing changes. Conditions: the field's row reads as a list of bytes. -/
import Derived.Test.YtfbnaicnmkkohaaWalkWrong
import Derived.Lib.SmallJoins
import Derived.Deep.Fields
import Derived.ChangeArms
import Derived.ChangeSlices
namespace Go.Proofs.Ytfbnaicnmkkohaa.WrongAll
open Go Go.RowKit Go.Lib Go.Proofs.YtfbnaicnmkkohaaW.PrintWords Go.Proofs.YtfbnaicnmkkohaaW.PrintLast Go.Proofs.YtfbnaicnmkkohaaW.PrintMore Go.Proofs.Ytfbnaicnmkkohaa.Core Go.Proofs.Ytfbnaicnmkkohaa.PFramePlace Go.Proofs.Ytfbnaicnmkkohaa.Repeat Go.Proofs.Ytfbnaicnmkkohaa.Frames Go.Proofs.Ytfbnaicnmkkohaa.Draw Go.Proofs.Ytfbnaicnmkkohaa.Drawn Go.Proofs.Ytfbnaicnmkkohaa.Awake Go.Proofs.Ytfbnaicnmkkohaa.Two Go.Proofs.Ytfbnaicnmkkohaa.Draw16 Go.Proofs.Ytfbnaicnmkkohaa.Parts Go.Proofs.Ytfbnaicnmkkohaa.May Go.Proofs.Ytfbnaicnmkkohaa.Any
set_option linter.unusedVariables false
theorem take_reads {w : World} {A : Option Addr} {n k : Nat} {l : List Int} (h : Kd.C (Kd.int .u8) w A n l) (hk : k ≤ n) : Kd.C (Kd.int .u8) w A k (l.take k) := by
  obtain ⟨h1, h2, h3⟩ := h
  refine ⟨by rw [List.length_take]; omega, by omega, fun h0 => ?_⟩
  obtain ⟨a, ha, hx⟩ := h3 (by omega)
  refine ⟨a, ha, fun j p hp => hx j p ?_⟩
  rw [List.getElem?_take] at hp
  split at hp
  · exact hp
  · cases hp
theorem may_of (AW AH PX PY RN RD LO HI INK : Int) (A : Option Addr) (cap : Nat) (al : List Int) (m : Bool) (w : World) (hC : Kd.C (Kd.int .u8) w A al.length al) (hcap : al.length ≤ cap) (hm : (right AW AH al && penOk PX PY RN RD LO HI) = m) :
    Calls Try.prog 17 #[.agg #[.int .i64 AW, .int .i64 AH, .slice A al.length cap], .agg #[.int .i64 PX, .int .i64 PY, .int .i64 RN, .int .i64 RD, .int .i64 LO, .int .i64 HI, .int .u8 INK]] w (Ret (.bool m) w) :=
  may AW AH PX PY RN RD LO HI INK (mn RN RD) (mx RN RD) (mx PX PY) (mn PX PY) A al.length cap (right AW AH al) _ _ _ _ _ _ _ m w rfl rfl rfl rfl rfl rfl rfl rfl rfl rfl rfl (by rw [← hm]; unfold penOk; simp only [Bool.and_assoc])
    (Lib.hid fun w' hb => bilin_Right.calls AW AH A cap al _ w' (Kd.C_below hC hb) hcap (right_all AW AH al))
theorem row_reads {w : World} {g c : Nat} {al : List Int} (h : Row w 0 g c al) (hl : al.length ≤ 1000) : Kd.C (Kd.int .u8) w (some ⟨g, 0, none⟩) al.length al := reads_cells (row_text h).1 (by omega)
theorem walk (AW AH : Int) (A : Option Addr) (n cap : Nat) (l : List Int) (PX PY RN RD LO HI INK op key aw ah ink t0 t1 t2 t3 t4 t5 t6 part num : Int) (w : World)
    (hr : Kd.C (Kd.int .u8) w A n l) (hlc : n ≤ cap) (hcm : cap ≤ maxLen) (hnil : A = none → n = 0 ∧ cap = 0) (hlb : ∀ z ∈ l, 0 ≤ z ∧ z ≤ 255)
    (x0 : (Lit.int .i64 PX).wf = true) (x1 : (Lit.int .i64 PY).wf = true) (x2 : (Lit.int .i64 RN).wf = true) (x3 : (Lit.int .i64 RD).wf = true) (x4 : (Lit.int .i64 LO).wf = true) (x5 : (Lit.int .i64 HI).wf = true) (x6 : (Lit.int .u8 INK).wf = true)
    (v0 : (Lit.int .u8 op).wf = true) (v1 : (Lit.int .u8 key).wf = true) (v2 : (Lit.int .u8 aw).wf = true) (v3 : (Lit.int .u8 ah).wf = true) (v4 : (Lit.int .u8 ink).wf = true)
    (u0 : (Lit.int .u8 t0).wf = true) (u1 : (Lit.int .u8 t1).wf = true) (u2 : (Lit.int .u8 t2).wf = true) (u3 : (Lit.int .u8 t3).wf = true) (u4 : (Lit.int .u8 t4).wf = true) (u5 : (Lit.int .u8 t5).wf = true) (u6 : (Lit.int .u8 t6).wf = true) (v5 : (Lit.int .u8 part).wf = true) (v6 : (Lit.int .i64 num).wf = true) :
    Calls Try.prog 4 #[.agg #[.int .i64 AW, .int .i64 AH, .slice A n cap], .agg #[.int .i64 PX, .int .i64 PY, .int .i64 RN, .int .i64 RD, .int .i64 LO, .int .i64 HI, .int .u8 INK], .agg #[.int .u8 op, .int .u8 key, .int .u8 aw, .int .u8 ah, .int .u8 ink], .agg #[.int .u8 t0, .int .u8 t1, .int .u8 t2, .int .u8 t3, .int .u8 t4, .int .u8 t5, .int .u8 t6], .int .u8 part, .int .i64 num] w fun e w' => e = .returned (.bool true) ∧ Below w.heap.size w w' := by
  unfold maxLen at hcm
  have b2 := bounds_u8 v2
  have b3 := bounds_u8 v3
  have b5 := bounds_u8 v5
  have b6 := bounds_u8 x6
  have a6 := bounds_u8 u6
  have hll : l.length = n := hr.1
  obtain ⟨k, hk⟩ : ∃ k : Nat, (if (300 : Int) < (n : Int) then 300 else (n : Int)) = (k : Int) := by
    by_cases c : (300 : Int) < (n : Int)
    · exact ⟨300, by rw [if_pos c]; rfl⟩
    · exact ⟨n, by rw [if_neg c]⟩
  have hkl : k ≤ n := by split at hk <;> omega
  have hkk : (l.take k).length = k := by rw [List.length_take]; omega
  have hC : Kd.C (Kd.int .u8) w A (l.take k).length (l.take k) := by rw [hkk]; exact take_reads hr hkl
  have hlt : ∀ z ∈ l.take k, 0 ≤ z ∧ z ≤ 255 := fun z hz => hlb z (List.mem_of_mem_take hz)
  generalize l.take k = al0 at *
  obtain ⟨W1, H1, al, hS, d1, d2, d3, d4, hal, hal2⟩ := field_of op key aw ah ink b2.1 b2.2 b3.1 b3.2
  obtain ⟨TX, TY, TN, TD, TL, TH, hT, _⟩ := pen_of t0 t1 t2 t3 t4 t5 t6 (bounds_u8 u0) (bounds_u8 u1) (bounds_u8 u2) (bounds_u8 u3) (bounds_u8 u4) (bounds_u8 u5)
  have hWH : W1 * H1 ≤ 12 * 12 := Nat.mul_le_mul d2 d4
  obtain ⟨Q0, Q1, Q2, Q3, Q4, Q5, hQ⟩ : ∃ Q0 Q1 Q2 Q3 Q4 Q5 : Int, (part % 6 = 0 ∧ Q0 = num ∧ Q1 = TY ∧ Q2 = TN ∧ Q3 = TD ∧ Q4 = TL ∧ Q5 = TH) ∨ (part % 6 = 1 ∧ Q0 = TX ∧ Q1 = num ∧ Q2 = TN ∧ Q3 = TD ∧ Q4 = TL ∧ Q5 = TH) ∨ (part % 6 = 2 ∧ Q0 = TX ∧ Q1 = TY ∧ Q2 = num ∧ Q3 = TD ∧ Q4 = TL ∧ Q5 = TH) ∨ (part % 6 = 3 ∧ Q0 = TX ∧ Q1 = TY ∧ Q2 = TN ∧ Q3 = num ∧ Q4 = TL ∧ Q5 = TH) ∨ (part % 6 = 4 ∧ Q0 = TX ∧ Q1 = TY ∧ Q2 = TN ∧ Q3 = TD ∧ Q4 = num ∧ Q5 = TH) ∨ (part % 6 = 5 ∧ Q0 = TX ∧ Q1 = TY ∧ Q2 = TN ∧ Q3 = TD ∧ Q4 = TL ∧ Q5 = num) := by
    have hc : part % 6 = 0 ∨ part % 6 = 1 ∨ part % 6 = 2 ∨ part % 6 = 3 ∨ part % 6 = 4 ∨ part % 6 = 5 := by omega
    rcases hc with h | h | h | h | h | h
    · exact ⟨num, TY, TN, TD, TL, TH, .inl ⟨h, rfl, rfl, rfl, rfl, rfl, rfl⟩⟩
    · exact ⟨TX, num, TN, TD, TL, TH, .inr (.inl ⟨h, rfl, rfl, rfl, rfl, rfl, rfl⟩)⟩
    · exact ⟨TX, TY, num, TD, TL, TH, .inr (.inr (.inl ⟨h, rfl, rfl, rfl, rfl, rfl, rfl⟩))⟩
    · exact ⟨TX, TY, TN, num, TL, TH, .inr (.inr (.inr (.inl ⟨h, rfl, rfl, rfl, rfl, rfl, rfl⟩)))⟩
    · exact ⟨TX, TY, TN, TD, num, TH, .inr (.inr (.inr (.inr (.inl ⟨h, rfl, rfl, rfl, rfl, rfl, rfl⟩))))⟩
    · exact ⟨TX, TY, TN, TD, TL, num, .inr (.inr (.inr (.inr (.inr ⟨h, rfl, rfl, rfl, rfl, rfl, rfl⟩))))⟩
  have hLF : (List.replicate 81 (30 : Int)).length = 81 := by rw [List.length_replicate]
  have hLFb : ∀ z ∈ List.replicate 81 (30 : Int), 0 ≤ z ∧ z ≤ 255 := fun z hz => by have := List.eq_of_mem_replicate hz; omega
  have hO := fun w => made 9 9 30 9 9 81 w rfl rfl rfl (by omega) (by omega)
  generalize List.replicate 81 (30 : Int) = LF at *
  have hrx : right W1 H1 al = true := right_of d1 (by omega) d3 (by omega) hal
  refine WalkWrong.wrong AW AH PX PY RN RD LO HI INK op key aw ah ink t0 t1 t2 t3 t4 t5 t6 TX TY TN TD TL TH Q0 Q1 Q2 Q3 Q4 Q5 part num (mn RN RD) (mx RN RD) A n cap k al0 al W1 H1 LF (right AW AH al0 && penOk TX TY TN TD TL TH) (right W1 H1 al && penOk Q0 Q1 Q2 Q3 Q4 Q5) (right W1 H1 al && penOk PX PY RN RD LO HI) _ _ w
    hlc (by omega) hk (by omega) b5.1 b5.2 (hid hLF) (by omega) (hid hQ) (hid hT) (hid fun F T w' hb hTw hF => ?_) (hid hS) (hid fun F T g c w' hR hgT hF => ?_) (hid fun g c w' hR => ?_) (hid fun F T g c L w' hL hLb hR hgT hF => ?_) (hid fun g c w' hR => ?_) (hid fun w' => rightR RN RD w') rfl rfl rfl rfl (hid fun w' hb => ?_) (hid hO)
  · have h := draw_all 9 9 AW AH TX TY TN TD TL TH t6 A cap F T al0 LF _ w' (by omega) (by omega) (by omega) (by omega) hLF hLFb hlt (by omega) a6.1 a6.2 (Kd.C_below hC hb) (fun h1 g off hA => by
      obtain ⟨g', off', hA', hg⟩ := cells_of_C hC h1
      rw [hA] at hA'
      simp only [Option.some.injEq, Addr.mk.injEq] at hA'
      obtain ⟨rfl, rfl, _⟩ := hA'
      have := World.block_lt_of_cell? _ _ (hg 0 (by omega))
      have h3 : g < w.heap.size := this
      omega) hF rfl
    rw [hkk] at h
    exact h
  · exact draw_all 9 9 W1 H1 Q0 Q1 Q2 Q3 Q4 Q5 t6 _ c F T al LF _ w' (by omega) (by omega) (by omega) (by omega) hLF hLFb hal2 (own_cap hR) a6.1 a6.2 (row_reads hR (by omega)) (fun _ g' off hA => by
      simp only [Option.some.injEq, Addr.mk.injEq] at hA
      omega) hF rfl
  · exact may_of W1 H1 Q0 Q1 Q2 Q3 Q4 Q5 t6 _ c al _ w' (row_reads hR (by omega)) (own_cap hR) rfl
  · exact draw_all 9 9 W1 H1 PX PY RN RD LO HI INK _ c F T al L _ w' (by omega) (by omega) (by omega) (by omega) hL hLb hal2 (own_cap hR) b6.1 b6.2 (row_reads hR (by omega)) (fun _ g' off hA => by
      simp only [Option.some.injEq, Addr.mk.injEq] at hA
      omega) hF rfl
  · exact may_of W1 H1 PX PY RN RD LO HI INK _ c al _ w' (row_reads hR (by omega)) (own_cap hR) rfl
  · have h := may_of AW AH TX TY TN TD TL TH t6 A cap al0 _ w' (Kd.C_below hC hb) (by omega) rfl
    rw [hkk] at h
    exact h
end Go.Proofs.Ytfbnaicnmkkohaa.WrongAll
namespace Go.Proofs.Ytfbnaicnmkkohaa.PenOpen
open Go Go.Joins Go.ChangeShapes Go.WideShapes Go.RowKit Go.Deep Go.Proofs.YtfbnaicnmkkohaaW.PrintWords
set_option linter.unusedVariables false
section
variable {H : Type} {enc : TypeId × Value → H} {P : Program} {w W : World} {base : Nat} {spare : Nat → Bool} {held : Bool}
theorem trod_bytes {fuel : Nat} {t e : TypeId} {v : Value} {x : DataW H × List MemPlace} (ht : P.underlying t = some (.slice e)) (he : P.underlying e = some (.int .u8)) (hce : P.cellsOf e = 1) (h : DataW.trod enc P w base spare held fuel t [v] = some x) :
    ∃ (A : Option Addr) (len cap : Nat) (l : List Int), v = .slice A len cap ∧ Kd.C (Kd.int .u8) w A len l ∧ len ≤ cap ∧ cap ≤ maxLen ∧ (A = none → len = 0 ∧ cap = 0) ∧ ∀ z ∈ l, 0 ≤ z ∧ z ≤ 255 := by
  rcases DataW.trod_slice ht h with ⟨h1, _⟩ | ⟨a, len, cap, elems, rest, n, _, h1, _, hb, hlc, hcm, hel, hx, _⟩
  · simp only [List.cons.injEq, and_true] at h1
    exact ⟨none, 0, 0, [], h1, ⟨rfl, Nat.zero_le _, fun h => absurd h (by omega)⟩, Nat.le_refl _, Nat.zero_le _, fun _ => ⟨rfl, rfl⟩, fun z hz => by cases hz⟩
  · simp only [List.cons.injEq, and_true] at h1
    have hc : ∀ i, i < len → ∃ z : Int, w.cell? (a.add i) = some (.int .u8 z) ∧ 0 ≤ z ∧ z ≤ 255 := by
      intro i hi
      have h2 := hx i hi
      rw [hce, Nat.mul_one, List.getElem?_eq_getElem (by omega)] at h2
      obtain ⟨cs, hcs, htr⟩ := Option.bind_eq_some_iff.mp h2
      obtain ⟨z, hz, _, hw⟩ := DataW.trod_int he htr
      subst hz
      exact ⟨z, cell_of_cells?_one hcs, bounds_u8 hw⟩
    let val : Nat → Int := fun i => match w.cell? (a.add i) with | some (.int _ z) => z | _ => 0
    have hv : ∀ i, i < len → w.cell? (a.add i) = some (.int .u8 (val i)) ∧ 0 ≤ val i ∧ val i ≤ 255 := by
      intro i hi
      obtain ⟨z, hz, hb⟩ := hc i hi
      have e : val i = z := by show (match w.cell? (a.add i) with | some (.int _ z) => z | _ => 0) = z; rw [hz]
      rw [e]; exact ⟨hz, hb⟩
    refine ⟨some a, len, cap, (List.range len).map val, h1, ⟨by simp, Nat.le_trans hlc hcm, fun _ => ⟨a, rfl, fun j p hp => ?_⟩⟩, hlc, hcm, (fun h => by cases h), fun z hz => ?_⟩
    · rw [List.getElem?_map] at hp
      have hj : j < len := by
        by_cases c : j < len
        · exact c
        · rw [List.getElem?_eq_none (by simp; omega)] at hp; cases hp
      rw [List.getElem?_range hj] at hp
      simp only [Option.map_some, Option.some.injEq] at hp
      subst hp
      refine ⟨[.int .u8 (val j)], rfl, rfl, fun i u hi => ?_⟩
      have hi0 : i = 0 := by
        rcases i with _ | i
        · rfl
        · simp at hi
      subst hi0
      simp at hi
      subst hi
      show w.cell? (a.add (j * 1 + 0)) = _
      rw [Nat.mul_one, Nat.add_zero]; exact (hv j hj).1
    · obtain ⟨i, hi, rfl⟩ := List.mem_map.mp hz
      exact (hv i (List.mem_range.mp hi)).2
theorem open_pen {v : Value} {d : DataW H} {p : List MemPlace} {r : Reach} {b0 : Nat} (hv : Value.okWide Try.prog W r b0 39 v) (h : DataW.Trod enc Try.prog W base spare held 39 v d p) :
    ∃ a0 a1 a2 a3 a4 a5 a6 : Int, v = .agg #[.int .i64 a0, .int .i64 a1, .int .i64 a2, .int .i64 a3, .int .i64 a4, .int .i64 a5, .int .u8 a6] ∧ (Lit.int .i64 a0).wf = true ∧ (Lit.int .i64 a1).wf = true ∧ (Lit.int .i64 a2).wf = true ∧ (Lit.int .i64 a3).wf = true ∧ (Lit.int .i64 a4).wf = true ∧ (Lit.int .i64 a5).wf = true ∧ (Lit.int .u8 a6).wf = true := by
  have k3 : Try.prog.cellsOf 3 = 1 := by kernel_rfl
  have k5 : Try.prog.cellsOf 5 = 1 := by kernel_rfl
  have k37 : Try.prog.cellsOf 37 = 2 := by kernel_rfl
  have k39 : Try.prog.cellsOf 39 = 7 := by kernel_rfl
  obtain ⟨cs, rfl, hsz⟩ := okWide_struct Try.underlying39 hv
  obtain ⟨l⟩ := cs
  match l, hsz.trans k39 with
  | [c0, c1, c2, c3, c4, c5, c6], _ =>
    obtain ⟨fuel, hf⟩ := h
    obtain ⟨xs, n, _, hx, _, hlen, hg⟩ := DataW.trod_struct Try.underlying39 hf
    match xs, hlen with
    | [y0, y1, y2, y3, y4, y5], _ =>
      have g0 : DataW.trod enc Try.prog W base spare held n 3 [c0] = some y0 := by simpa [Value.cells, k3] using hg 0 _ rfl
      have g1 : DataW.trod enc Try.prog W base spare held n 3 [c1] = some y1 := by simpa [Value.cells, k3] using hg 1 _ rfl
      have g2 : DataW.trod enc Try.prog W base spare held n 37 [c2, c3] = some y2 := by simpa [Value.cells, k37] using hg 2 _ rfl
      have g3 : DataW.trod enc Try.prog W base spare held n 3 [c4] = some y3 := by simpa [Value.cells, k3] using hg 3 _ rfl
      have g4 : DataW.trod enc Try.prog W base spare held n 3 [c5] = some y4 := by simpa [Value.cells, k3] using hg 4 _ rfl
      have g5 : DataW.trod enc Try.prog W base spare held n 5 [c6] = some y5 := by simpa [Value.cells, k5] using hg 5 _ rfl
      obtain ⟨xs2, n2, _, hx2, _, hlen2, hg2⟩ := DataW.trod_struct Try.underlying37 g2
      match xs2, hlen2 with
      | [z0, z1], _ =>
        have q0 : DataW.trod enc Try.prog W base spare held n2 3 [c2] = some z0 := by simpa [k3] using hg2 0 _ rfl
        have q1 : DataW.trod enc Try.prog W base spare held n2 3 [c3] = some z1 := by simpa [k3] using hg2 1 _ rfl
        obtain ⟨a0, e0, _, w0⟩ := DataW.trod_int Try.underlying3 g0
        obtain ⟨a1, e1, _, w1⟩ := DataW.trod_int Try.underlying3 g1
        obtain ⟨a2, e2, _, w2⟩ := DataW.trod_int Try.underlying3 q0
        obtain ⟨a3, e3, _, w3⟩ := DataW.trod_int Try.underlying3 q1
        obtain ⟨a4, e4, _, w4⟩ := DataW.trod_int Try.underlying3 g3
        obtain ⟨a5, e5, _, w5⟩ := DataW.trod_int Try.underlying3 g4
        obtain ⟨a6, e6, _, w6⟩ := DataW.trod_int Try.underlying5 g5
        simp only [List.cons.injEq, and_true] at e0 e1 e2 e3 e4 e5 e6
        subst e0 e1 e2 e3 e4 e5 e6
        exact ⟨a0, a1, a2, a3, a4, a5, a6, rfl, w0, w1, w2, w3, w4, w5, w6⟩
end
end Go.Proofs.Ytfbnaicnmkkohaa.PenOpen
