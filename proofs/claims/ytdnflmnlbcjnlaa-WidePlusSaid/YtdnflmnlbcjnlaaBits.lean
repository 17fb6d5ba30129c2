/- Rows of 128 bits in memory: how they are made, written and read. Conditions: as each states. -/
import Derived.Test.YtdnflmnlbcjnlaaArr
namespace Go.Proofs.Ytdnflmnlbcjnlaa.Bits
open Go Go.RowKit Go.Lib Go.Proofs.Ytdnflmnlbcjnlaa.Core Go.Proofs.YtdnflmnlbcjnlaaW.PrintWords Go.Proofs.YtdnflmnlbcjnlaaW.PrintLast Go.Proofs.YtdnflmnlbcjnlaaW.PrintMore Go.Proofs.Ytdnflmnlbcjnlaa.Arr
set_option linter.unusedVariables false
set_option linter.unusedSimpArgs false
theorem info24 : (Try.prog.info? 24).map (fun i => (i.zero, i.size, i.bytes)) = some (some (.agg (bl 0).toArray), 128, 128) := by kernel_rfl
theorem size24 : (Try.prog.info? 24).map (·.size) = some 128 := by kernel_rfl
theorem under24 : Try.prog.underlying 24 = some (.array 128 4) := by kernel_rfl
theorem zero24 : ∀ w, (zeroValue 24).run Try.prog w = .ok (.agg (bl 0).toArray) w := by
  obtain ⟨i, hi, he⟩ := Option.map_eq_some_iff.mp info24
  intro w
  simp only [Prod.mk.injEq] at he
  simp [zeroValue, typeInfo, hi, he.1]
/-- a block holds a row of bits, which may be written -/
def Bits (w : World) (b : Nat) (f : Nat → Bool) : Prop := ∀ j, j < 128 → w.cell? ⟨b, j, none⟩ = some (.bool (f j)) ∧ w.frozen? ⟨b, j, none⟩ = false
theorem bits_lt {w : World} {b : Nat} {f : Nat → Bool} (h : Bits w b f) : b < w.heap.size := World.block_lt_of_cell? _ _ (h 0 (by omega)).1
theorem bits_new {w : World} {b : Nat} (hb : w.heap.size = b) (x : BitVec 128) : Bits (w.alloc (.cells (bl x).toArray 24)) b x.getLsbD := by
  subst hb
  intro j hj
  refine ⟨row_new w x j hj, ?_⟩
  go_simp
theorem bits_later {w w1 : World} {b : Nat} {f : Nat → Bool} (hb : Below w.heap.size w w1) (h : Bits w b f) : Bits w1 b f := fun j hj =>
  ⟨cell_later hb (h j hj).1, (hb.frozen (p := ⟨b, j, none⟩) (bits_lt h)).trans (h j hj).2⟩
theorem bits_alloc {w : World} {b : Nat} {f : Nat → Bool} (h : Bits w b f) (o : Obj) : Bits (w.alloc o) b f := bits_later ((Below.refl _ _).alloc (Nat.le_refl _) _) h
theorem bits_drewN {w : World} {b : Nat} {f : Nat → Bool} (h : Bits w b f) (n : Nat) : Bits (w.drewN n) b f := h
theorem bits_set {w : World} {b k : Nat} {f : Nat → Bool} (h : Bits w b f) (hk : k < 128) (v : Bool) : Bits (w.setCell ⟨b, k, none⟩ (.bool v)) b (fun j => if j = k then v else f j) := by
  intro j hj
  rw [World.frozen?_setCell]
  refine ⟨?_, (h j hj).2⟩
  by_cases e : j = k
  · subst e; dsimp only; rw [if_pos rfl]; exact World.cell?_setCell_same _ _ _ (h j hj).1
  · have hne : (⟨b, k, none⟩ : Addr) ≠ ⟨b, j, none⟩ := by intro e2; injection e2 with _ e3; exact e e3.symm
    dsimp only; rw [if_neg e]; exact (World.cell?_setCell_other _ _ _ _ hne).trans (h j hj).1
theorem bits_far {w : World} {b c k : Nat} {f : Nat → Bool} (h : Bits w b f) (hbc : c ≠ b) (v : Value) : Bits (w.setCell ⟨c, k, none⟩ v) b f := by
  intro j hj
  rw [World.frozen?_setCell]
  refine ⟨?_, (h j hj).2⟩
  have hne : (⟨c, k, none⟩ : Addr) ≠ ⟨b, j, none⟩ := by intro e2; injection e2 with e3; exact hbc e3
  exact (World.cell?_setCell_other _ _ _ _ hne).trans (h j hj).1
theorem bits_congr {w : World} {b : Nat} {f g : Nat → Bool} (h : Bits w b f) (e : ∀ j, j < 128 → f j = g j) : Bits w b g := fun j hj => by
  rw [← e j hj]; exact h j hj
theorem bits_range {w : World} {b : Nat} {x : BitVec 128} (h : Bits w b x.getLsbD) : w.rangeAt b 0 (bl x) := by
  intro j v hv
  have hj : j < 128 := by
    have := (List.getElem?_eq_some_iff.mp hv).1; rwa [bl_len] at this
  rw [bl_get x hj] at hv
  injection hv with hv
  rw [Nat.zero_add, ← hv]; exact (h j hj).1
theorem bits_there {w : World} {b : Nat} {f : Nat → Bool} (h : Bits w b f) : w.there b 0 128 := fun j hj => by
  rw [Nat.zero_add, (h j hj).1]; exact ⟨rfl, (h j hj).2⟩
theorem bl_one (x : BitVec 128) : ∀ v ∈ bl x, v.oneCell' = true := by
  intro v hv
  obtain ⟨i, _, rfl⟩ := List.mem_map.mp hv; rfl
theorem load24 {w : World} {b : Nat} {x : BitVec 128} (h : Bits w b x.getLsbD) : (Instr.loadAt 24 (.pointer (some ⟨b, 0, none⟩))).run Try.prog w = .ok (.agg (bl x).toArray) w :=
  run_loadAt_mid w b 0 24 (bl x) _ (bits_range h) under24 rfl (by rw [bl_len]; exact size24)
theorem loadv24 {w : World} {b : Nat} {x : BitVec 128} (h : Bits w b x.getLsbD) : (loadVar 24 ⟨b, 0, none⟩).run Try.prog w = .ok (.agg (bl x).toArray) w :=
  run_loadVar_mid w b 0 24 (bl x) _ (bits_range h) under24 rfl (by rw [bl_len]; exact size24)
theorem store24 {w : World} {b : Nat} {f : Nat → Bool} (h : Bits w b f) (x : BitVec 128) : (Instr.storeAt 24 (.pointer (some ⟨b, 0, none⟩)) (.agg (bl x).toArray)).run Try.prog w = .ok () (w.setCells b 0 (bl x)) := by
  have := run_storeAt_mid (P := Try.prog) w b 0 24 (bl x).toArray (by rw [List.size_toArray, bl_len]; exact bits_there h) (by rw [List.size_toArray, bl_len]; exact size24) (all_oneCell_toArray (bl_one x))
  simpa using this
theorem bits_setCells {w : World} {b : Nat} {f : Nat → Bool} (h : Bits w b f) (x : BitVec 128) : Bits (w.setCells b 0 (bl x)) b x.getLsbD := by
  intro j hj
  have := World.cell?_setCells_in b (bl x) 0 w (fun i hi => by rw [bl_len] at hi; rw [Nat.zero_add, (h i hi).1]; rfl) j (by rw [bl_len]; exact hj)
  rw [Nat.zero_add] at this
  rw [this, World.frozen?_setCells]
  refine ⟨?_, (h j hj).2⟩
  have h2 := bl_get x hj
  rw [List.getElem?_eq_getElem (by rw [bl_len]; exact hj)] at h2
  exact h2
theorem below_setCells {B : Nat} {a w : World} (h : Below B a w) {b : Nat} (hb : B ≤ b) : ∀ (vs : List Value) (o : Nat), Below B a (w.setCells b o vs) := by
  intro vs
  induction vs generalizing w with
  | nil => intro o; exact h
  | cons v vs ih => intro o; exact ih (h.setCell hb v) (o + 1)
theorem bits_away {w : World} {b c : Nat} {f : Nat → Bool} (h : Bits w b f) (hbc : c ≠ b) (x : List Value) : Bits (w.setCells c 0 x) b f := by
  intro j hj
  rw [World.frozen?_setCells, World.cell?_setCells_out c x 0 w ⟨b, j, none⟩ (fun e _ => absurd e.symm hbc)]
  exact h j hj
end Go.Proofs.Ytdnflmnlbcjnlaa.Bits
