/- What frame.Of, slices.Clone and Pixels tell. Conditions: as each states. -/
import Derived.Test.YtfbnaicnmkkohaaRepeat
import Derived.Deep.AppendLies
namespace Go.Proofs.Ytfbnaicnmkkohaa.Frames
open Go Go.RowKit Go.Lib Go.Proofs.YtfbnaicnmkkohaaW.PrintWords Go.Proofs.YtfbnaicnmkkohaaW.PrintLast Go.Proofs.YtfbnaicnmkkohaaW.PrintMore Go.Proofs.Ytfbnaicnmkkohaa.Core Go.Proofs.Ytfbnaicnmkkohaa.PFramePlace Go.Proofs.Ytfbnaicnmkkohaa.Repeat
set_option linter.unusedVariables false
set_option linter.unusedSimpArgs false
attribute [local go_sem ↓] Go.wp_at_zero Go.wp_at_succ
attribute [local go_sem] max2_int min2_int
/-- a frame in memory: its own block, its pixels' block -/
def Frm (w : World) (F T : Nat) (W H : Int) (l : List Int) : Prop :=
  w.heap[F]? = some (.cells #[.int .i64 W, .int .i64 H, .slice (some ⟨T, 0, none⟩) l.length l.length] 63 (0, 0)) ∧ w.heap[T]? = some (.cells (l.map (Value.int .u8)).toArray 5 (0, 0)) ∧ F ≠ T
def Made (w : World) (W H : Int) (l : List Int) (e : Ending) (w' : World) : Prop :=
  ∃ F T, e = .returned (.pointer (some ⟨F, 0, none⟩)) ∧ w.heap.size ≤ F ∧ w.heap.size ≤ T ∧ Frm w' F T W H l ∧ Below w.heap.size w w'
set_option maxHeartbeats 1000000 in
theorem made (a b t W H : Int) (n : Nat) (w : World) (hW : mx 1 (mn a 96) = W) (hH : mx 1 (mn b 96) = H) (hn : W * H = (n : Int)) (h1 : 1 ≤ n) (h2 : n ≤ 100000) :
    Calls Try.prog 10 #[.int .i64 a, .int .i64 b, .int .u8 t] w (Made w W H (List.replicate n t)) := by
  have p1 : (if 96 < a then 96 else a) = mn a 96 := rfl
  have p2 : (if 1 < mn a 96 then mn a 96 else 1) = W := hW
  have p3 : (if 96 < b then 96 else b) = mn b 96 := rfl
  have p4 : (if 1 < mn b 96 then mn b 96 else 1) = H := hH
  have p5 : IntKind.i64.wrap (W * H) = (n : Int) := by rw [hn, IntKind.wrap_i64]; omega
  generalize mn a 96 = ma at *
  generalize mn b 96 = mb at *
  clear hW hH hn
  go_enter Try.func10, Try.ntmps10
  go_wp2_with (go_at_call 23; refine (rep t n w.heap.size _ h1 h2 (by go_simp)).mono ?_; rintro e w1 ⟨T, rfl, hT, hc, hb1⟩)
  go_ret
  have hs : (w.alloc (.cells #[.int .u8 t] 5)).heap.size = w.heap.size + 1 := by simp
  rw [hs] at hT
  have hB : Below w.heap.size w w1 := below_step (below_alloc (Below.refl _ _) _) hb1
  have hz := hB.size
  have lT := blk_lt hc
  refine ⟨w1.heap.size, T, rfl, hz, by omega, ⟨?_, ?_, by omega⟩, below_alloc hB _⟩
  · rw [List.length_replicate]; exact blk_new w1 _
  · rw [List.map_replicate]; exact blk_alloc hc _
theorem not_nil (A : Option Addr) (n c : Nat) (w : World) : (binOp .eql 28 (.slice A n c) (.slice none 0 0)).run Try.prog w = .ok (.bool A.isNone) w := by
  have h : ∀ d : Nat, (Op.equalIn (d + 1) 28 (.slice A n c) (.slice none 0 0)).run Try.prog w = .ok A.isNone w := fun d => by
    cases A <;> simp [Op.equalIn, run_underlying Try.underlying28]
  simp only [binOp]
  simp [Op.equal, Op.maxDepth, h 9999]
theorem row_cells {w : World} {T j : Nat} {l : List Int} {u : Value} (hT : ∀ j, j < l.length → w.cell? ⟨T, j, none⟩ = some (.int .u8 (l.getD j 0))) (hu : (l.map (Value.int .u8))[j]? = some u) {o : Obj} : (w.alloc o).cell? ((⟨T, 0, none⟩ : Addr).add j) = some u := by
  have hj : j < l.length := by
    have := (List.getElem?_eq_some_iff.1 hu).1; simpa using this
  have h := hT j hj
  rw [List.getElem?_map, List.getElem?_eq_getElem hj] at hu
  rw [List.getD_eq_getElem?_getD, List.getElem?_eq_getElem hj] at h
  rw [Addr.add_mid, Nat.zero_add]
  refine (cell_later (below_alloc (Below.refl _ _) _) h).trans ?_
  simpa using hu
theorem frm_cells {w : World} {T : Nat} {l : List Int} (h : w.heap[T]? = some (.cells (l.map (Value.int .u8)).toArray 5 (0, 0))) : ∀ j, j < l.length → w.cell? ⟨T, j, none⟩ = some (.int .u8 (l.getD j 0)) := by
  intro j hj
  rw [blk_cell h j, List.getElem?_toArray, List.getElem?_map, List.getElem?_eq_getElem hj, List.getD_eq_getElem?_getD, List.getElem?_eq_getElem hj]; rfl
/-- a copy in new memory -/
def Cloned (w : World) (l : List Int) (e : Ending) (w' : World) : Prop :=
  ∃ g cap : Nat, e = .returned (.slice (some ⟨g, 0, none⟩) l.length cap) ∧ w'.ownsRow w.heap.size 5 1 (.slice (some ⟨g, 0, none⟩) l.length cap) l.length (l.map (Value.int .u8)) ∧ Below w.heap.size w w'
set_option maxHeartbeats 1000000 in
theorem clone (l : List Int) (T cp : Nat) (w : World) (h1 : 1 ≤ l.length) (h2 : l.length ≤ 100000) (hT : ∀ j, j < l.length → w.cell? ⟨T, j, none⟩ = some (.int .u8 (l.getD j 0))) :
    Calls Try.prog 24 #[.slice (some ⟨T, 0, none⟩) l.length cp] w (Cloned w l) := by
  obtain ⟨i0, hi, hz0, hz1, hz2⟩ := info_parts byte_info
  have heq := fun w => not_nil (some ⟨T, 0, none⟩) l.length cp w
  go_enter Try.func24, Try.ntmps24
  go_upto_region 3 with fail
  refine wp_region_lit ?_
  refine wpList_plain (by rfl) fun K hK => ?_
  go_simp
  refine hK _ _ ?_
  refine wpList_plain (by rfl) fun K2 hK2 => ?_
  go_simp
  refine hK2 _ _ ?_
  clear hK hK2
  refine wpList_append_lies _ (by rfl) _ _ 28 (by rfl) w.heap.size 5 i0 (.int .u8 0) 1 1 Try.underlying28 hi hz0 hz1 hz2 rfl (by omega) (.slice (some ⟨w.heap.size, 0, none⟩) 0 0) 0 [] (by rfl) (World.ownsRow_made w #[] 0 (Nat.le_refl _) (by unfold maxLen; omega) rfl) ⟨T, 0, none⟩ l.length cp (l.map (Value.int .u8)) (by rfl) (by simp) (fun j u hu => row_cells hT hu) (by simp [Value.oneCell']) (by omega) (by unfold maxLen; omega) (by omega) (by simp) (w.heap.size + 1) (by simp) ?_
  intro g cap w1 hown hgrow hat hlt
  simp only [Nat.zero_add, List.nil_append] at hown ⊢
  go_wp2_with fail
  go_ret
  refine ⟨g, cap, rfl, hown, ?_⟩
  refine (below_alloc (Below.refl _ _) _).grown hgrow (by simp) fun b hb => ?_
  simp [Value.ownBlock] at hb; omega
theorem keepD {W : World} {a : Addr} {v : Value} (h : W.cell? a = some v) : W.drew.cell? a = some v := h
theorem keepS {W : World} {p a : Addr} {u v : Value} (hn : ¬ p.block = a.block) (h : W.cell? a = some v) : (W.setCell p u).cell? a = some v := by
  rw [World.cell?_setCell_far _ _ _ _ hn]; exact h
/-- what Pixels tells: the frame's numbers, and its pixels in new memory -/
def Shown (w : World) (W H : Int) (l : List Int) (e : Ending) (w' : World) : Prop :=
  ∃ g cap : Nat, e = .returned (.agg #[.int .i64 W, .int .i64 H, .slice (some ⟨g, 0, none⟩) l.length cap]) ∧ w'.ownsRow w.heap.size 5 1 (.slice (some ⟨g, 0, none⟩) l.length cap) l.length (l.map (Value.int .u8)) ∧ Below w.heap.size w w'
set_option maxHeartbeats 1000000 in
theorem pixels (W H : Int) (l : List Int) (F T : Nat) (w : World) (h1 : 1 ≤ l.length) (h2 : l.length ≤ 100000) (hF : Frm w F T W H l) : Calls Try.prog 12 #[.pointer (some ⟨F, 0, none⟩)] w (Shown w W H l) := by
  have f0 : w.cell? ⟨F, 0, none⟩ = some (.int .i64 W) := blk_cell hF.1 0
  have f1 : w.cell? ⟨F, 1, none⟩ = some (.int .i64 H) := blk_cell hF.1 1
  have f2 : w.cell? ⟨F, 2, none⟩ = some (.slice (some ⟨T, 0, none⟩) l.length l.length) := blk_cell hF.1 2
  have lF : F < w.heap.size := World.block_lt_of_cell? _ _ f0
  have hT := Lib.hid (frm_cells hF.2.1)
  go_enter Try.func12, Try.ntmps12
  go_wp2_with fail
  have g0 := cell_later (below_alloc (Below.refl _ _) (.cells #[.int .i64 0, .int .i64 0, .slice none 0 0] 30)) f0
  have g1 := cell_later (below_alloc (Below.refl _ _) (.cells #[.int .i64 0, .int .i64 0, .slice none 0 0] 30)) f1
  have g2 := cell_later (below_alloc (Below.refl _ _) (.cells #[.int .i64 0, .int .i64 0, .slice none 0 0] 30)) f2
  have r0 : (w.alloc (.cells #[.int .i64 0, .int .i64 0, .slice none 0 0] 30)).cell? ⟨w.heap.size, 0, none⟩ = some (.int .i64 0) := by go_simp
  have r1 : (w.alloc (.cells #[.int .i64 0, .int .i64 0, .slice none 0 0] 30)).cell? ⟨w.heap.size, 1, none⟩ = some (.int .i64 0) := by go_simp
  have r2 : (w.alloc (.cells #[.int .i64 0, .int .i64 0, .slice none 0 0] 30)).cell? ⟨w.heap.size, 2, none⟩ = some (.slice none 0 0) := by go_simp
  have q0 : (w.alloc (.cells #[.int .i64 0, .int .i64 0, .slice none 0 0] 30)).frozen? ⟨w.heap.size, 0, none⟩ = false := by go_simp
  have q1 : (w.alloc (.cells #[.int .i64 0, .int .i64 0, .slice none 0 0] 30)).frozen? ⟨w.heap.size, 1, none⟩ = false := by go_simp
  have q2 : (w.alloc (.cells #[.int .i64 0, .int .i64 0, .slice none 0 0] 30)).frozen? ⟨w.heap.size, 2, none⟩ = false := by go_simp
  have hTA : Hid (∀ j, j < l.length → (w.alloc (.cells #[.int .i64 0, .int .i64 0, .slice none 0 0] 30)).cell? ⟨T, j, none⟩ = some (.int .u8 (l.getD j 0))) := fun j hj => cell_later (below_alloc (Below.refl _ _) _) (hT.out j hj)
  have hsz : (w.alloc (.cells #[.int .i64 0, .int .i64 0, .slice none 0 0] 30)).heap.size = w.heap.size + 1 := by simp
  have hB : Below w.heap.size w (w.alloc (.cells #[.int .i64 0, .int .i64 0, .slice none 0 0] 30)) := below_alloc (Below.refl _ _) _
  have hne : ¬ w.heap.size = F := by omega
  clear hT f0 f1 f2
  generalize w.alloc (.cells #[.int .i64 0, .int .i64 0, .slice none 0 0] 30) = wa at *
  go_region_held3 (fun w' => w'.cell? ⟨F, 0, none⟩ = some (.int .i64 W) ∧ w'.cell? ⟨F, 1, none⟩ = some (.int .i64 H) ∧ w'.cell? ⟨F, 2, none⟩ = some (.slice (some ⟨T, 0, none⟩) l.length l.length))
    ((go_split_ands; (repeat' apply And.intro) <;> (repeat' (first | with_reducible assumption | with_reducible refine keepD ?_ | with_reducible refine keepS ?_ ?_ | (refine cell_later hb ?_; assumption)))))
    (first | (go_at_call 24; refine (clone l T l.length wa.drew h1 h2 (fun j hj => hTA.out j hj)).mono ?_; rintro e w1 ⟨g, cap, rfl, ho, hb⟩; have x0 : w1.cell? ⟨w.heap.size, 0, none⟩ = some (.int .i64 0) := cell_later hb r0; have x1 : w1.cell? ⟨w.heap.size, 1, none⟩ = some (.int .i64 0) := cell_later hb r1; have x2 : w1.cell? ⟨w.heap.size, 2, none⟩ = some (.slice none 0 0) := cell_later hb r2; have lr : w.heap.size < wa.heap.size := (by omega); have y0 : w1.frozen? ⟨w.heap.size, 0, none⟩ = false := (hb.frozen (p := ⟨w.heap.size, 0, none⟩) lr).trans q0; have y1 : w1.frozen? ⟨w.heap.size, 1, none⟩ = false := (hb.frozen (p := ⟨w.heap.size, 1, none⟩) lr).trans q1; have y2 : w1.frozen? ⟨w.heap.size, 2, none⟩ = false := (hb.frozen (p := ⟨w.heap.size, 2, none⟩) lr).trans q2; have hbw : Below wa.heap.size wa w1 := below_step (below_drew1 (Below.refl _ _)) hb))
  have ho2 : w1.ownsRow (w.heap.size + 1) 5 1 (.slice (some ⟨g, 0, none⟩) l.length cap) l.length (l.map (Value.int .u8)) := own_less ho (by show w.heap.size + 1 ≤ wa.heap.size; omega)
  have hb2 : Below w.heap.size w w1 := below_step hB hbw
  go_wp2_with fail
  exact bodyPost_ret (v := .agg #[.int .i64 W, .int .i64 H, .slice (some ⟨g, 0, none⟩) l.length cap]) (by simp [results, Try.results12, go_sem, x0, x1, x2, y0, y1, y2]) rfl ⟨g, cap, rfl,
    own_less (ownsRow_setCell_below (ownsRow_setCell_below (ownsRow_setCell_below ho2 (a := ⟨w.heap.size, 0, none⟩) (by show w.heap.size < _; omega) _) (a := ⟨w.heap.size, 1, none⟩) (by show w.heap.size < _; omega) _) (a := ⟨w.heap.size, 2, none⟩) (by show w.heap.size < _; omega) _) (by omega),
    below_set (below_set (below_set hb2 (Nat.le_refl _)) (Nat.le_refl _)) (Nat.le_refl _)⟩
end Go.Proofs.Ytfbnaicnmkkohaa.Frames
