/- What the laws of chapter 17 share: the document's examples stand, a row of the call's own reads as its list, an act's texels. Conditions: as each states. -/
import Derived.Test.YtignhpmfaodpjaaWalkSome
import Derived.Test.YtignhpmfaodpjaaGlue
namespace Go.Proofs.Ytignhpmfaodpjaa.Base
open Go Go.RowKit Go.Proofs.YtignhpmfaodpjaaW.PrintWords Go.Proofs.YtignhpmfaodpjaaW.PrintLast Go.Proofs.YtignhpmfaodpjaaW.PrintMore Go.Proofs.Ytignhpmfaodpjaa.Core Go.Proofs.Ytignhpmfaodpjaa.PBilinFlat Go.Proofs.Ytignhpmfaodpjaa.WalkField Go.Proofs.Ytignhpmfaodpjaa.WalkSome Go.Proofs.Ytignhpmfaodpjaa.Glue
set_option linter.unusedVariables false
set_option linter.unusedSimpArgs false
abbrev Ret (v : Value) (w : World) (e : Ending) (w' : World) : Prop := e = .returned v ∧ Below w.heap.size w w'
theorem awake_calls (w : World) : Calls Try.prog 10 #[] w (Ret (.bool true) w) := punchcutlaw17_awake.calls 200 true w (by decide +kernel)
/-- a row of bytes of the call's own reads as its list -/
theorem reads_own {w : World} {base g cap : Nat} {l : List Int} (h : w.ownsRow base 5 1 (.slice (some ⟨g, 0, none⟩) l.length cap) l.length (l.map (Value.int .u8))) : Kd.C (Kd.int .u8) w (some ⟨g, 0, none⟩) l.length l ∧ l.length ≤ cap ∧ base ≤ g ∧ g < w.heap.size := by
  have hc := h.cellAt
  rcases h.2 with ⟨h0, _⟩ | ⟨g', cap', cur, hv, hg, hh, hn, hm, _⟩
  · simp at h0
  · simp only [Value.slice.injEq, Option.some.injEq, Addr.mk.injEq, and_true, true_and] at hv
    obtain ⟨rfl, rfl⟩ := hv
    refine ⟨⟨rfl, by unfold maxLen at hm; omega, fun _ => ⟨⟨g, 0, none⟩, rfl, fun j p hp => ?_⟩⟩, hn, hg, blk_lt hh⟩
    refine ⟨[.int .u8 p], rfl, rfl, fun i u hi => ?_⟩
    have hj : j < l.length := (List.getElem?_eq_some_iff.1 hp).1
    have hi0 : i = 0 := by
      rcases i with _ | i
      · rfl
      · simp at hi
    subst hi0
    simp at hi
    subst hi
    have := hc j (by omega)
    rw [List.getElem?_map, hp] at this
    show w.cell? ((⟨g, 0, none⟩ : Addr).add (j * 1 + 0)) = _
    by_cases h0 : j = 0 <;> simpa [Addr.add, h0] using this
theorem tx_bd (ink : Int) (k : Nat) : 0 ≤ tx ink k ∧ tx ink k ≤ 255 := bounds_u8 (wf_bits _ _ _ _)
theorem texels_bd (ink : Int) (n : Nat) : ∀ x ∈ texels ink n, 0 ≤ x ∧ x ≤ 255 := by
  intro x hx
  unfold texels at hx
  obtain ⟨k, _, rfl⟩ := List.mem_map.1 hx
  exact tx_bd ink k
theorem texels_get (ink : Int) {n j : Nat} (h : j < n) : (texels ink n)[j]? = some (tx ink j) := by simp [texels, h]
theorem texels_rd (ink : Int) {n : Nat} {j : Int} (h : j.toNat < n) : rd (texels ink n) j = tx ink j.toNat := by
  unfold rd
  rw [List.getD_eq_getElem?_getD, texels_get ink h]; rfl
/-- bilin.At at a field that is right -/
theorem at_calls {W H : Int} {l : List Int} (hW : 1 ≤ W) (hW2 : W ≤ 64) (hH : 1 ≤ H) (hH2 : H ≤ 64) (hlen : (l.length : Int) = W * H) (hl : ∀ x ∈ l, 0 ≤ x ∧ x ≤ 255)
    {x y d : Int} (hd : 1 ≤ d) (hd2 : d ≤ 1024) (hx : -1048576 ≤ x) (hx2 : x ≤ 1048576) (hy : -1048576 ≤ y) (hy2 : y ≤ 1048576) {num den : Int}
    (e1 : val W H l x y d / (Int.gcd (val W H l x y d) (2 * d * (2 * d)) : Nat) = num) (e2 : 2 * d * (2 * d) / (Int.gcd (val W H l x y d) (2 * d * (2 * d)) : Nat) = den)
    (w : World) (A : Option Addr) (cap : Nat) (hr : Kd.C (Kd.int .u8) w A l.length l) (hc : l.length ≤ cap) :
    Calls Try.prog 12 #[.agg #[.int .i64 W, .int .i64 H, .slice A l.length cap], .int .i64 x, .int .i64 y, .int .i64 d] w (Ret (.tuple #[.agg #[.int .i64 num, .int .i64 den], .int .i64 0]) w) := by
  subst e1 e2
  exact bilin_At.calls 4194400 W H A cap l x y d _ _ _ w hr hc (at_f (Nat.le_refl _) hW hW2 hH hH2 hlen hl hd hd2 hx hx2 hy hy2)
theorem area_bd {W H : Int} (hW : 1 ≤ W) (hW2 : W ≤ 12) (hH : 1 ≤ H) (hH2 : H ≤ 12) : 1 ≤ W * H ∧ W * H ≤ 144 := by
  have h1 : W * H ≤ 12 * 12 := Int.mul_le_mul hW2 hH2 (by omega) (by omega)
  have h2 : 0 < W * H := Int.mul_pos (by omega) (by omega)
  omega
theorem tex_at {W H i k : Int} {l : List Int} (hi : 0 ≤ i) (hi2 : i < W) (hk : 0 ≤ k) (hk2 : k < H) : tex W H l i k = rd l (k * W + i) := by
  unfold tex
  rw [mn_of_ge (show k ≤ H - 1 by omega), mn_of_ge (show i ≤ W - 1 by omega), mx_of_le hk, mx_of_le hi]
theorem tmod_bd {x d : Int} (hd : 0 < d) : -d < Int.tmod x d ∧ Int.tmod x d < d := by
  have h : (Int.tmod x d).natAbs < d.natAbs := by rw [Int.natAbs_tmod]; exact Nat.mod_lt _ (by omega)
  omega
end Go.Proofs.Ytignhpmfaodpjaa.Base
