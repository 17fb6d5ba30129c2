/- Rows of acts and of tips that are handed in: what stands in memory. Conditions: as each states. -/
import Derived.Test.YtfbnaicnmkkohaaWalkDraw
import Derived.Deep.Slices
import Derived.Deep.Fields
import Derived.ChangeSame
import Derived.ChangeArms
import Derived.ChangeSlices
namespace Go.Proofs.Ytfbnaicnmkkohaa.Acts
open Go Go.RowKit Go.ChangeShapes Go.WideShapes Go.Deep Go.Proofs.YtfbnaicnmkkohaaW.PrintWords Go.Proofs.Ytfbnaicnmkkohaa.WalkDraw
set_option linter.unusedVariables false
section
variable {H : Type} {enc : TypeId × Value → H} {P : Program} {w : World} {base : Nat} {spare : Nat → Bool} {held : Bool}
theorem open_slice_fields {t e : TypeId} {fs : Array Field} {fuel : Nat} {cs : List Value} {x : DataW H × List MemPlace} (ht : P.underlying t = some (.slice e)) (he : P.underlying e = some (.struct fs))
    (hone : oneCellFields P fs = true) (hC : P.cellsOf e = fs.size) (h : DataW.trod enc P w base spare held fuel t cs = some x) :
    (cs = [.slice none 0 0] ∧ x = (.nil, [])) ∨
    ∃ (a : Addr) (len cap m : Nat) (D : Nat → DataW H) (Pl : Nat → List MemPlace), cs = [.slice (some a) len cap] ∧ base ≤ a.block ∧ len ≤ cap ∧ cap ≤ maxLen ∧ m = (if spare a.block then cap else len) ∧
      x = (.slice ((List.range len).map D) ((List.range (m - len)).map fun j => D (len + j)), MemPlace.row a (m * fs.size) ++ (List.range m).flatMap Pl) ∧
      ∀ i, i < m → ∃ (ys : List (DataW H × List MemPlace)) (n : Nat), D i = .agg (ys.map (·.1)) ∧ Pl i = ys.flatMap (·.2) ∧ ys.length = fs.size ∧
        ∀ (j : Nat) (f : Field), fs[j]? = some f → ∃ (v : Value) (y : DataW H × List MemPlace), w.cell? (a.add (i * fs.size + j)) = some v ∧ ys[j]? = some y ∧ DataW.trod enc P w base spare held n f.type [v] = some y := by
  rcases open_slice ht h with h0 | ⟨a, len, cap, m, n, D, Pl, hcs, hb, hl, hm, hmm, hx, hi⟩
  · exact .inl h0
  · refine .inr ⟨a, len, cap, m, D, Pl, hcs, hb, hl, hm, hmm, by rw [hC] at hx; exact hx, fun i him => ?_⟩
    obtain ⟨cs', hc, ht'⟩ := hi i him
    rw [hC] at hc
    obtain ⟨ys, n', hn', hy, hlen, hyl, hf⟩ := DataW.trod_struct he ht'
    obtain ⟨_, hcl, hat⟩ := World.cells?_some hc
    simp only [Prod.mk.injEq] at hy
    refine ⟨ys, n', hy.1, hy.2, hyl, fun j f hj => ?_⟩
    obtain ⟨ho, hk⟩ := hone_of hone j f hj
    have hjl : j < fs.size := (Array.getElem?_eq_some_iff.1 hj).1
    have hcell := hat j hjl
    have hv : cs'[j]? = some (cs'[j]'(by omega)) := List.getElem?_eq_getElem (by omega)
    have h1 := hf j f hj
    rw [ho, hk] at h1
    have hone' : (cs'.drop j).take 1 = [cs'[j]'(by omega)] := by
      rw [List.drop_eq_getElem_cons (by omega)]
      rfl
    rw [hone'] at h1
    have hys : ys[j]? = some (ys[j]'(by omega)) := List.getElem?_eq_getElem (by omega)
    refine ⟨_, _, ?_, hys, h1.trans hys⟩
    rw [← Go.Deep.add_add, hcell, hv]
end
section
variable {H : Type} {enc : TypeId × Value → H} {W : World}
theorem acts {v : Value} {d : DataW H} {p : List MemPlace} {r : Reach} {b0 : Nat} (hv : Value.okWide Try.prog W r b0 23 v) (h : DataW.Trod enc Try.prog W 0 (fun _ => true) true 23 v d p) :
    ∃ (A : Option Addr) (n c : Nat), v = .slice A n c ∧ n ≤ c ∧ c ≤ maxLen ∧ ∀ i, i < n → ActAt W A i := by
  obtain ⟨A0, n0, c0, rfl⟩ := okWide_slice Try.underlying23 hv
  obtain ⟨fuel, hf⟩ := h
  rcases open_slice_fields Try.underlying23 Try.underlying35 (by kernel_rfl) (by kernel_rfl) hf with ⟨h1, _⟩ | ⟨a, len, cap, m, D, Pl, h1, _, hlc, hcm, hm, _, hx⟩
  · simp [Value.cells] at h1
    obtain ⟨rfl, rfl, rfl⟩ := h1
    exact ⟨none, 0, 0, rfl, Nat.le_refl _, Nat.zero_le _, fun i hi => absurd hi (by omega)⟩
  · simp [Value.cells] at h1
    obtain ⟨rfl, rfl, rfl⟩ := h1
    refine ⟨_, _, _, rfl, hlc, hcm, fun i hi => ?_⟩
    have hmm : n0 ≤ m := by rw [hm]; simp; exact hlc
    have byte : ∀ i, i < n0 → ∀ (j : Nat) (hj : j < 5), ∃ z : Int, W.cell? (a.add (i * 5 + j)) = some (.int .u8 z) ∧ 0 ≤ z ∧ z ≤ 255 := by
      intro i hi j hj
      obtain ⟨ys, n, _, _, _, hfj⟩ := hx i (by omega)
      match j, hj with
      | 0, _ =>
        obtain ⟨u, y, hc, _, ht⟩ := hfj 0 _ rfl
        obtain ⟨z, hz, _, hw⟩ := DataW.trod_int Try.underlying5 ht
        simp at hz
        subst hz
        exact ⟨z, hc, bounds_u8 hw⟩
      | 1, _ =>
        obtain ⟨u, y, hc, _, ht⟩ := hfj 1 _ rfl
        obtain ⟨z, hz, _, hw⟩ := DataW.trod_int Try.underlying5 ht
        simp at hz
        subst hz
        exact ⟨z, hc, bounds_u8 hw⟩
      | 2, _ =>
        obtain ⟨u, y, hc, _, ht⟩ := hfj 2 _ rfl
        obtain ⟨z, hz, _, hw⟩ := DataW.trod_int Try.underlying5 ht
        simp at hz
        subst hz
        exact ⟨z, hc, bounds_u8 hw⟩
      | 3, _ =>
        obtain ⟨u, y, hc, _, ht⟩ := hfj 3 _ rfl
        obtain ⟨z, hz, _, hw⟩ := DataW.trod_int Try.underlying5 ht
        simp at hz
        subst hz
        exact ⟨z, hc, bounds_u8 hw⟩
      | 4, _ =>
        obtain ⟨u, y, hc, _, ht⟩ := hfj 4 _ rfl
        obtain ⟨z, hz, _, hw⟩ := DataW.trod_int Try.underlying5 ht
        simp at hz
        subst hz
        exact ⟨z, hc, bounds_u8 hw⟩
    have sp : a = ⟨a.block, a.off, none⟩ := by
      obtain ⟨z, hz, _⟩ := byte 0 (by omega) 0 (by omega)
      obtain ⟨ab, ao, asp⟩ := a
      cases asp with
      | none => rfl
      | some s =>
        exfalso
        simp [Addr.add, World.cell?] at hz
        split at hz <;> simp_all
    obtain ⟨g, off, hgo⟩ : ∃ g off, a = ⟨g, off, none⟩ := ⟨_, _, sp⟩
    rw [hgo] at byte ⊢
    have b2 : ∀ (j : Nat), j < 5 → ∃ z : Int, W.cell? ⟨g, off + (i * 5 + j), none⟩ = some (.int .u8 z) ∧ 0 ≤ z ∧ z ≤ 255 := fun j hj => by
      have := byte i hi j hj
      rw [Addr.add_mid] at this; exact this
    obtain ⟨z0, e0, y0⟩ := b2 0 (by omega)
    obtain ⟨z1, e1, y1⟩ := b2 1 (by omega)
    obtain ⟨z2, e2, y2⟩ := b2 2 (by omega)
    obtain ⟨z3, e3, y3⟩ := b2 3 (by omega)
    obtain ⟨z4, e4, y4⟩ := b2 4 (by omega)
    simp only [← Nat.add_assoc, Nat.add_zero] at e0 e1 e2 e3 e4
    exact ⟨g, off, z0, z1, z2, z3, z4, rfl, e0, e1, e2, e3, e4, y2.1, y2.2, y3.1, y3.2⟩
theorem tips {v : Value} {d : DataW H} {p : List MemPlace} {r : Reach} {b0 : Nat} (hv : Value.okWide Try.prog W r b0 24 v) (h : DataW.Trod enc Try.prog W 0 (fun _ => true) true 24 v d p) :
    ∃ (A : Option Addr) (n c : Nat), v = .slice A n c ∧ n ≤ c ∧ c ≤ maxLen ∧ ∀ i, i < n → TipAt W A i := by
  obtain ⟨A0, n0, c0, rfl⟩ := okWide_slice Try.underlying24 hv
  obtain ⟨fuel, hf⟩ := h
  rcases open_slice_fields Try.underlying24 Try.underlying41 (by kernel_rfl) (by kernel_rfl) hf with ⟨h1, _⟩ | ⟨a, len, cap, m, D, Pl, h1, _, hlc, hcm, hm, _, hx⟩
  · simp [Value.cells] at h1
    obtain ⟨rfl, rfl, rfl⟩ := h1
    exact ⟨none, 0, 0, rfl, Nat.le_refl _, Nat.zero_le _, fun i hi => absurd hi (by omega)⟩
  · simp [Value.cells] at h1
    obtain ⟨rfl, rfl, rfl⟩ := h1
    refine ⟨_, _, _, rfl, hlc, hcm, fun i hi => ?_⟩
    have hmm : n0 ≤ m := by rw [hm]; simp; exact hlc
    have byte : ∀ i, i < n0 → ∀ (j : Nat) (hj : j < 7), ∃ z : Int, W.cell? (a.add (i * 7 + j)) = some (.int .u8 z) ∧ 0 ≤ z ∧ z ≤ 255 := by
      intro i hi j hj
      obtain ⟨ys, n, _, _, _, hfj⟩ := hx i (by omega)
      match j, hj with
      | 0, _ =>
        obtain ⟨u, y, hc, _, ht⟩ := hfj 0 _ rfl
        obtain ⟨z, hz, _, hw⟩ := DataW.trod_int Try.underlying5 ht
        simp at hz
        subst hz
        exact ⟨z, hc, bounds_u8 hw⟩
      | 1, _ =>
        obtain ⟨u, y, hc, _, ht⟩ := hfj 1 _ rfl
        obtain ⟨z, hz, _, hw⟩ := DataW.trod_int Try.underlying5 ht
        simp at hz
        subst hz
        exact ⟨z, hc, bounds_u8 hw⟩
      | 2, _ =>
        obtain ⟨u, y, hc, _, ht⟩ := hfj 2 _ rfl
        obtain ⟨z, hz, _, hw⟩ := DataW.trod_int Try.underlying5 ht
        simp at hz
        subst hz
        exact ⟨z, hc, bounds_u8 hw⟩
      | 3, _ =>
        obtain ⟨u, y, hc, _, ht⟩ := hfj 3 _ rfl
        obtain ⟨z, hz, _, hw⟩ := DataW.trod_int Try.underlying5 ht
        simp at hz
        subst hz
        exact ⟨z, hc, bounds_u8 hw⟩
      | 4, _ =>
        obtain ⟨u, y, hc, _, ht⟩ := hfj 4 _ rfl
        obtain ⟨z, hz, _, hw⟩ := DataW.trod_int Try.underlying5 ht
        simp at hz
        subst hz
        exact ⟨z, hc, bounds_u8 hw⟩
      | 5, _ =>
        obtain ⟨u, y, hc, _, ht⟩ := hfj 5 _ rfl
        obtain ⟨z, hz, _, hw⟩ := DataW.trod_int Try.underlying5 ht
        simp at hz
        subst hz
        exact ⟨z, hc, bounds_u8 hw⟩
      | 6, _ =>
        obtain ⟨u, y, hc, _, ht⟩ := hfj 6 _ rfl
        obtain ⟨z, hz, _, hw⟩ := DataW.trod_int Try.underlying5 ht
        simp at hz
        subst hz
        exact ⟨z, hc, bounds_u8 hw⟩
    have sp : a = ⟨a.block, a.off, none⟩ := by
      obtain ⟨z, hz, _⟩ := byte 0 (by omega) 0 (by omega)
      obtain ⟨ab, ao, asp⟩ := a
      cases asp with
      | none => rfl
      | some s =>
        exfalso
        simp [Addr.add, World.cell?] at hz
        split at hz <;> simp_all
    obtain ⟨g, off, hgo⟩ : ∃ g off, a = ⟨g, off, none⟩ := ⟨_, _, sp⟩
    rw [hgo] at byte ⊢
    have b2 : ∀ (j : Nat), j < 7 → ∃ z : Int, W.cell? ⟨g, off + (i * 7 + j), none⟩ = some (.int .u8 z) ∧ 0 ≤ z ∧ z ≤ 255 := fun j hj => by
      have := byte i hi j hj
      rw [Addr.add_mid] at this; exact this
    obtain ⟨z0, e0, y0⟩ := b2 0 (by omega)
    obtain ⟨z1, e1, y1⟩ := b2 1 (by omega)
    obtain ⟨z2, e2, y2⟩ := b2 2 (by omega)
    obtain ⟨z3, e3, y3⟩ := b2 3 (by omega)
    obtain ⟨z4, e4, y4⟩ := b2 4 (by omega)
    obtain ⟨z5, e5, y5⟩ := b2 5 (by omega)
    obtain ⟨z6, e6, y6⟩ := b2 6 (by omega)
    simp only [← Nat.add_assoc, Nat.add_zero] at e0 e1 e2 e3 e4 e5 e6
    exact ⟨g, off, z0, z1, z2, z3, z4, z5, z6, rfl, ⟨e0, e1, e2, e3, e4, e5, e6⟩, y0, y1, y2, y3, y4, y5, y6⟩
end
end Go.Proofs.Ytfbnaicnmkkohaa.Acts
