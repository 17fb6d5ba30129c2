/- A row of bytes that is handed in reads as a list. Conditions: as each states. -/
import Derived.Test.YtignhpmfaodpjaaBase
import Derived.ChangeArms
import Derived.ChangeSlices
namespace Go.Proofs.Ytignhpmfaodpjaa.Bag
open Go Go.RowKit Go.ChangeShapes Go.Proofs.YtignhpmfaodpjaaW.PrintWords
set_option linter.unusedVariables false
section
variable {H : Type} {enc : TypeId × Value → H} {P : Program} {w : World} {base : Nat} {spare : Nat → Bool} {held : Bool}
theorem trod_bytes {fuel : Nat} {t e : TypeId} {v : Value} {x : DataW H × List MemPlace} (ht : P.underlying t = some (.slice e)) (he : P.underlying e = some (.int .u8)) (hce : P.cellsOf e = 1) (h : DataW.trod enc P w base spare held fuel t [v] = some x) :
    ∃ (A : Option Addr) (len cap : Nat) (l : List Int), v = .slice A len cap ∧ Kd.C (Kd.int .u8) w A len l ∧ len ≤ cap ∧ cap ≤ maxLen ∧ (A = none → len = 0 ∧ cap = 0) ∧ ∀ z ∈ l, 0 ≤ z ∧ z ≤ 255 := by
  rcases DataW.trod_slice ht h with ⟨h1, _⟩ | ⟨a, len, cap, elems, rest, n, _, h1, _, hb, hlc, hcm, hel, hx, _⟩
  · simp only [List.cons.injEq, and_true] at h1
    exact ⟨none, 0, 0, [], h1, ⟨rfl, Nat.zero_le _, fun h => absurd h (by omega)⟩, Nat.le_refl _, Nat.zero_le _, fun _ => ⟨rfl, rfl⟩, fun z hz => by cases hz⟩
  · simp only [List.cons.injEq, and_true] at h1
    have hc : ∀ i, i < len → ∃ z : Int, w.cell? (a.add i) = some (.int .u8 z) ∧ 0 ≤ z ∧ z ≤ 255 := by
      intro i hi
      have h2 := hx i hi
      rw [hce, Nat.mul_one, List.getElem?_eq_getElem (by omega)] at h2
      obtain ⟨cs, hcs, htr⟩ := Option.bind_eq_some_iff.mp h2
      obtain ⟨z, hz, _, hw⟩ := DataW.trod_int he htr
      subst hz
      exact ⟨z, cell_of_cells?_one hcs, bounds_u8 hw⟩
    let val : Nat → Int := fun i => match w.cell? (a.add i) with | some (.int _ z) => z | _ => 0
    have hv : ∀ i, i < len → w.cell? (a.add i) = some (.int .u8 (val i)) ∧ 0 ≤ val i ∧ val i ≤ 255 := by
      intro i hi
      obtain ⟨z, hz, hb⟩ := hc i hi
      have e : val i = z := by show (match w.cell? (a.add i) with | some (.int _ z) => z | _ => 0) = z; rw [hz]
      rw [e]; exact ⟨hz, hb⟩
    refine ⟨some a, len, cap, (List.range len).map val, h1, ⟨by simp, Nat.le_trans hlc hcm, fun _ => ⟨a, rfl, fun j p hp => ?_⟩⟩, hlc, hcm, (fun h => by cases h), fun z hz => ?_⟩
    · rw [List.getElem?_map] at hp
      have hj : j < len := by
        by_cases c : j < len
        · exact c
        · rw [List.getElem?_eq_none (by simp; omega)] at hp; cases hp
      rw [List.getElem?_range hj] at hp
      simp only [Option.map_some, Option.some.injEq] at hp
      subst hp
      refine ⟨[.int .u8 (val j)], rfl, rfl, fun i u hi => ?_⟩
      have hi0 : i = 0 := by
        rcases i with _ | i
        · rfl
        · simp at hi
      subst hi0
      simp at hi
      subst hi
      show w.cell? (a.add (j * 1 + 0)) = _
      rw [Nat.mul_one, Nat.add_zero]; exact (hv j hj).1
    · obtain ⟨i, hi, rfl⟩ := List.mem_map.mp hz
      exact (hv i (List.mem_range.mp hi)).2
end
end Go.Proofs.Ytignhpmfaodpjaa.Bag
