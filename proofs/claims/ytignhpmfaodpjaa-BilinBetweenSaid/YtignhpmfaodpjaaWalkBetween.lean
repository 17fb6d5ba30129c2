/- BilinBetween's walk: what is between is no greater than the greatest texel, and no less than the least. Conditions: the arguments are of their kinds. -/
import Derived.Test.YtignhpmfaodpjaaBase
namespace Go.Proofs.Ytignhpmfaodpjaa.WalkBetween
open Go Go.RowKit Go.Proofs.YtignhpmfaodpjaaW.PrintWords Go.Proofs.YtignhpmfaodpjaaW.PrintLast Go.Proofs.YtignhpmfaodpjaaW.PrintMore Go.Proofs.Ytignhpmfaodpjaa.Core Go.Proofs.Ytignhpmfaodpjaa.PBilinFlat Go.Proofs.Ytignhpmfaodpjaa.WalkField Go.Proofs.Ytignhpmfaodpjaa.WalkSome Go.Proofs.Ytignhpmfaodpjaa.Glue Go.Proofs.Ytignhpmfaodpjaa.Base
set_option linter.unusedVariables false
set_option linter.unusedSimpArgs false
attribute [local go_sem ↓] Go.wp_at_zero Go.wp_at_succ
attribute [local go_sem] max2_int min2_int
def low (l : List Int) (k : Nat) : Int := (l.take k).foldl mn 255
def high (l : List Int) (k : Nat) : Int := (l.take k).foldl mx 0
theorem take_next {l : List Int} {k : Nat} (h : k < l.length) : l.take (k + 1) = l.take k ++ [l.getD k 0] := by
  rw [List.take_succ_eq_append_getElem h, List.getD_eq_getElem?_getD, List.getElem?_eq_getElem h]; rfl
theorem low_next {l : List Int} {k : Nat} (h : k < l.length) : low l (k + 1) = if l.getD k 0 < low l k then l.getD k 0 else low l k := by
  unfold low; rw [take_next h, List.foldl_append]; rfl
theorem high_next {l : List Int} {k : Nat} (h : k < l.length) : high l (k + 1) = if high l k < l.getD k 0 then l.getD k 0 else high l k := by
  unfold high; rw [take_next h, List.foldl_append]; rfl
theorem low_bd {l : List Int} (hl : ∀ z ∈ l, 0 ≤ z ∧ z ≤ 255) (k : Nat) (hk : k ≤ l.length) : 0 ≤ low l k ∧ low l k ≤ 255 ∧ ∀ j, j < k → low l k ≤ l.getD j 0 := by
  induction k with
  | zero => exact ⟨by show (0 : Int) ≤ 255; omega, by show (255 : Int) ≤ 255; omega, fun j hj => by omega⟩
  | succ k ih =>
    have ih := ih (by omega)
    have hc : 0 ≤ l.getD k 0 ∧ l.getD k 0 ≤ 255 := by rw [List.getD_eq_getElem?_getD, List.getElem?_eq_getElem (by omega : k < l.length)]; exact hl _ (List.getElem_mem _)
    rw [low_next (by omega)]
    refine ⟨by split <;> omega, by split <;> omega, fun j hj => ?_⟩
    by_cases h : j = k
    · subst h; split <;> omega
    · have := ih.2.2 j (by omega); split <;> omega
theorem high_bd {l : List Int} (hl : ∀ z ∈ l, 0 ≤ z ∧ z ≤ 255) (k : Nat) (hk : k ≤ l.length) : 0 ≤ high l k ∧ high l k ≤ 255 ∧ ∀ j, j < k → l.getD j 0 ≤ high l k := by
  induction k with
  | zero => exact ⟨by show (0 : Int) ≤ 0; omega, by show (0 : Int) ≤ 255; omega, fun j hj => by omega⟩
  | succ k ih =>
    have ih := ih (by omega)
    have hc : 0 ≤ l.getD k 0 ∧ l.getD k 0 ≤ 255 := by rw [List.getD_eq_getElem?_getD, List.getElem?_eq_getElem (by omega : k < l.length)]; exact hl _ (List.getElem_mem _)
    rw [high_next (by omega)]
    refine ⟨by split <;> omega, by split <;> omega, fun j hj => ?_⟩
    by_cases h : j = k
    · subst h; split <;> omega
    · have := ih.2.2 j (by omega); split <;> omega
set_option maxHeartbeats 1000000 in
theorem between (op key aw ah ink x y t W H m n d num den LO HI P Q : Int) (l : List Int) (w : World)
    (HA : Hid (∀ (w : World) (A : Option Addr) (cap : Nat), Kd.C (Kd.int .u8) w A l.length l → l.length ≤ cap → Calls Try.prog 12 #[.agg #[.int .i64 W, .int .i64 H, .slice A l.length cap], .int .i64 m, .int .i64 n, .int .i64 d] w (Ret (.tuple #[.agg #[.int .i64 num, .int .i64 den], .int .i64 0]) w)))
    (HS : Hid (∀ w, Calls Try.prog 11 #[.agg #[.int .u8 op, .int .u8 key, .int .u8 aw, .int .u8 ah, .int .u8 ink], .int .i16 x, .int .i16 y, .int .u8 t] w (SomeMade w W H m n d l)))
    (hLO : low l l.length = LO) (hHI : high l l.length = HI) (hP : wrap64 (LO * den) = P) (hQ : wrap64 (HI * den) = Q) (hPn : P ≤ num) (hQn : num ≤ Q)
    (hlen : l.length ≤ 1000) (hl : ∀ z ∈ l, 0 ≤ z ∧ z ≤ 255) :
    Calls Try.prog 6 #[.agg #[.int .u8 op, .int .u8 key, .int .u8 aw, .int .u8 ah, .int .u8 ink], .int .i16 x, .int .i16 y, .int .u8 t] w (Ret (.bool true) w) := by
  have HL := Lib.hid hl
  have HLO := Lib.hid hLO
  have HHI := Lib.hid hHI
  clear hl hLO hHI
  go_enter Try.func6, Try.ntmps6
  go_wp2_with (first | (go_at_call 10; refine (awake_calls _).mono ?_; rintro e w1 ⟨rfl, hw1⟩; obtain ⟨hc1, hf1⟩ := bcell hw1) | (go_at_call 11; refine (HS.out _).mono ?_; rintro e w2 ⟨g, cap, rfl, ho2, hw2⟩) | (go_at_call 12; refine (HA.out _ _ _ (reads_own (ho2.alloc _)).1 (reads_own ho2).2.1).mono ?_; rintro e w3 ⟨rfl, hw3⟩; have k2 : w3.cell? ⟨w2.heap.size, 2, none⟩ = some (.slice (some ⟨g, 0, none⟩) l.length cap) := cell_later hw3 (by go_simp); have kz : w2.heap.size < w3.heap.size := (by have := hw3.size; simp [Nat.add_one_le_iff] at this; exact this)))
  have kg : g < w3.heap.size := Nat.lt_of_lt_of_le (reads_own ho2).2.2.2 (Nat.le_of_lt kz)
  have kc : ∀ k : Nat, k < l.length → w3.cell? ⟨g, k, none⟩ = some (.int .u8 (l.getD k 0)) := by
    intro k hk
    refine cell_later hw3 ?_
    have := (ho2.alloc (.cells #[.int .i64 W, .int .i64 H, .slice (some ⟨g, 0, none⟩) l.length cap] 28)).cellAt k (by omega)
    rw [this, List.getElem?_map, List.getD_eq_getElem?_getD, List.getElem?_eq_getElem hk]; rfl
  have KC := Lib.hid kc
  clear kc
  go_loop [15, 16, 42] (fun s15 s16 s42 => ∃ k : Nat, k ≤ l.length ∧ s42 = .int .i64 k ∧ s15 = .int .i64 (low l k) ∧ s16 = .int .i64 (high l k)) (fun _ _ i => l.length - (intOf i).toNat)
  case atStart => exact ⟨0, Nat.zero_le _, rfl, rfl, rfl⟩
  case round =>
    obtain ⟨k, hk, rfl, rfl, rfl⟩ := hrel
    by_cases hlt : k < l.length
    · have hc := KC.out k hlt
      have hb : 0 ≤ l.getD k 0 ∧ l.getD k 0 ≤ 255 := by rw [List.getD_eq_getElem?_getD, List.getElem?_eq_getElem hlt]; exact HL.out _ (List.getElem_mem hlt)
      obtain ⟨hb1, hb2⟩ := hb
      have hn1 := low_next hlt
      have hn2 := high_next hlt
      generalize l.getD k 0 = c at *
      have HN1 := Lib.hid hn1
      have HN2 := Lib.hid hn2
      clear hn1 hn2
      go_wp2
      refine ⟨⟨k + 1, by omega, by go_num, by rw [HN1.out], by rw [HN2.out]⟩, by simp [intOf]; omega⟩
    · obtain rfl : k = l.length := by omega
      rw [HLO.out, HHI.out]
      have hg1 : wrap64 (LO * den) ≤ num := by rw [hP]; exact hPn
      go_wp2
      go_ret
      refine ⟨rfl, below_alloc (below_step (below_alloc (below_step (below_step (below_alloc (Below.refl _ _) _) hw1) hw2) _) hw3) _⟩
theorem walk (op key aw ah ink x y t : Int) (w : World) (w0 : (Lit.int .u8 op).wf = true) (w1 : (Lit.int .u8 key).wf = true) (w2 : (Lit.int .u8 aw).wf = true) (w3 : (Lit.int .u8 ah).wf = true) (w4 : (Lit.int .u8 ink).wf = true)
    (w5 : (Lit.int .i16 x).wf = true) (w6 : (Lit.int .i16 y).wf = true) (w7 : (Lit.int .u8 t).wf = true) :
    Calls Try.prog 6 #[.agg #[.int .u8 op, .int .u8 key, .int .u8 aw, .int .u8 ah, .int .u8 ink], .int .i16 x, .int .i16 y, .int .u8 t] w fun e w' => e = .returned (.bool true) ∧ Below w.heap.size w w' := by
  have hw := bounds_u8 w2
  have hh := bounds_u8 w3
  have hx := bounds_i16 w5
  have hy := bounds_i16 w6
  have ht := bounds_u8 w7
  have hS := fun w => some_calls op key aw ah ink x y t w hw.1 hw.2 hh.1 hh.2 ht.1 ht.2 hx.1 hx.2 hy.1 hy.2
  have hW : 1 ≤ 1 + aw % 12 ∧ 1 + aw % 12 ≤ 12 := by omega
  have hH : 1 ≤ 1 + ah % 12 ∧ 1 + ah % 12 ≤ 12 := by omega
  generalize 1 + aw % 12 = W at *
  generalize 1 + ah % 12 = H at *
  have ha := area_bd hW.1 hW.2 hH.1 hH.2
  have hm := tmod_bd (x := x) (d := 20 * (1 + t)) (by omega)
  have hn := tmod_bd (x := y) (d := 20 * (1 + t)) (by omega)
  generalize Int.tmod x (20 * (1 + t)) = m at *
  generalize Int.tmod y (20 * (1 + t)) = n at *
  have hlen : ((texels ink (W * H).toNat).length : Int) = W * H := by rw [texels_length]; omega
  have hl := texels_bd ink (W * H).toNat
  generalize texels ink (W * H).toNat = l at *
  have hlo := low_bd hl l.length (Nat.le_refl _)
  have hhi := high_bd hl l.length (Nat.le_refl _)
  have hb : ∀ i k, low l l.length ≤ tex W H l i k ∧ tex W H l i k ≤ high l l.length := by
    intro i k
    unfold tex
    have h := index_bd (i := i) (k := k) hW.1 (by omega) hH.1 (by omega)
    have hc : H * W = W * H := Int.mul_comm _ _
    generalize mx 0 (mn (H - 1) k) * W + mx 0 (mn (W - 1) i) = j at *
    exact ⟨hlo.2.2 j.toNat (by omega), hhi.2.2 j.toNat (by omega)⟩
  have hv := val_bd (W := W) (H := H) (l := l) (x := m) (y := n) (d := 1 + t) (by omega) hb
  have hdd0 : 0 < 2 * (1 + t) * (2 * (1 + t)) := Int.mul_pos (by omega) (by omega)
  have hdd : 2 * (1 + t) * (2 * (1 + t)) ≤ 512 * 512 := Int.mul_le_mul (by omega) (by omega) (by omega) (by omega)
  have hA := at_calls (x := m) (y := n) (d := 1 + t) hW.1 (by omega) hH.1 (by omega) hlen hl (by omega) (by omega) (by omega) (by omega) (by omega) (by omega) rfl rfl
  generalize 2 * (1 + t) * (2 * (1 + t)) = D at *
  generalize val W H l m n (1 + t) = V at *
  have hV0 : 0 ≤ V := by have := Int.mul_nonneg hlo.1 (show 0 ≤ D by omega); omega
  obtain ⟨p1, p2, p3, p4, p5, p6, p7⟩ := of_parts (n := V) (d := D) hV0 (by omega)
  generalize ((Int.gcd V D : Nat) : Int) = g at *
  generalize V / g = num at *
  generalize D / g = den at *
  have hq1 : low l l.length * den ≤ num := by
    have : low l l.length * (g * den) ≤ g * num := by rw [p3, p2]; exact hv.1
    rw [Int.mul_left_comm] at this
    exact Int.le_of_mul_le_mul_left this (by omega)
  have hq2 : num ≤ high l l.length * den := by
    have : g * num ≤ high l l.length * (g * den) := by rw [p3, p2]; exact hv.2
    rw [Int.mul_left_comm] at this
    exact Int.le_of_mul_le_mul_left this (by omega)
  have b1 : low l l.length * den ≤ 255 * (512 * 512) := Int.mul_le_mul hlo.2.1 (by omega) (by omega) (by omega)
  have b2 : 0 ≤ low l l.length * den := Int.mul_nonneg hlo.1 (by omega)
  have b3 : high l l.length * den ≤ 255 * (512 * 512) := Int.mul_le_mul hhi.2.1 (by omega) (by omega) (by omega)
  have b4 : 0 ≤ high l l.length * den := Int.mul_nonneg hhi.1 (by omega)
  exact between op key aw ah ink x y t W H m n (1 + t) num den _ _ _ _ l w hA hS rfl rfl (w64 (by omega) (by omega)) (w64 (by omega) (by omega)) hq1 hq2 (by omega) hl
end Go.Proofs.Ytignhpmfaodpjaa.WalkBetween
