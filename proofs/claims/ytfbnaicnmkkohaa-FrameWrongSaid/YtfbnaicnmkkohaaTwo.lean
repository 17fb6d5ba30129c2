/- A field and a pen in new memory, in whatever order they were made. Conditions: as each states. -/
import Derived.Test.YtfbnaicnmkkohaaAwake
import Derived.Test.YtfbnaicnmkkohaaWalkSome
import Derived.Deep.DeepCutAuto
namespace Go.Proofs.Ytfbnaicnmkkohaa.Two
open Go Go.RowKit Go.Lib Go.Proofs.YtfbnaicnmkkohaaW.PrintWords Go.Proofs.YtfbnaicnmkkohaaW.PrintLast Go.Proofs.YtfbnaicnmkkohaaW.PrintMore Go.Proofs.Ytfbnaicnmkkohaa.Core Go.Proofs.Ytfbnaicnmkkohaa.PFramePlace Go.Proofs.Ytfbnaicnmkkohaa.Repeat Go.Proofs.Ytfbnaicnmkkohaa.Frames Go.Proofs.Ytfbnaicnmkkohaa.Draw Go.Proofs.Ytfbnaicnmkkohaa.Drawn Go.Proofs.Ytfbnaicnmkkohaa.Awake
set_option linter.unusedVariables false
set_option linter.unusedSimpArgs false
theorem sz1 (w : World) (o : Obj) : (w.alloc o).heap.size = w.heap.size + 1 := by simp
theorem keepA {W : World} {a : Addr} {v : Value} {o : Obj} (h : W.cell? a = some v) : (W.alloc o).cell? a = some v := by
  rw [World.cell?_alloc_some _ _ _ (by simp [h])]; exact h
/-- a new field's block -/
def FreshB (w : World) (b : Nat) : Prop := w.heap[b]? = some (.cells #[.int .i64 0, .int .i64 0, .slice none 0 0] 30 (0, 0))
/-- a new pen's block -/
def FreshP (w : World) (b : Nat) : Prop := w.heap[b]? = some (.cells #[.int .i64 0, .int .i64 0, .int .i64 0, .int .i64 0, .int .i64 0, .int .i64 0, .int .u8 0] 39 (0, 0))
theorem fb_new {w : World} {b : Nat} (h : w.heap.size = b) : FreshB (w.alloc (.cells #[.int .i64 0, .int .i64 0, .slice none 0 0] 30)) b := by subst h; exact blk_new _ _
theorem fp_new {w : World} {b : Nat} (h : w.heap.size = b) : FreshP (w.alloc (.cells #[.int .i64 0, .int .i64 0, .int .i64 0, .int .i64 0, .int .i64 0, .int .i64 0, .int .u8 0] 39)) b := by subst h; exact blk_new _ _
theorem fb_alloc {w : World} {b : Nat} {o : Obj} (h : FreshB w b) : FreshB (w.alloc o) b := blk_alloc h _
theorem fp_alloc {w : World} {b : Nat} {o : Obj} (h : FreshP w b) : FreshP (w.alloc o) b := blk_alloc h _
theorem fb_drew {w : World} {b : Nat} (h : FreshB w b) : FreshB w.drew b := h
theorem fp_drew {w : World} {b : Nat} (h : FreshP w b) : FreshP w.drew b := h
theorem fb_later {w w1 : World} {b : Nat} (hb : Below w.heap.size w w1) (h : FreshB w b) : FreshB w1 b := blk_below h hb
theorem fp_later {w w1 : World} {b : Nat} (hb : Below w.heap.size w w1) (h : FreshP w b) : FreshP w1 b := blk_below h hb
theorem fb_laterD {w w1 : World} {b : Nat} (hb : Below w.drew.heap.size w.drew w1) (h : FreshB w b) : FreshB w1 b := fb_later hb h
theorem fp_laterD {w w1 : World} {b : Nat} (hb : Below w.drew.heap.size w.drew w1) (h : FreshP w b) : FreshP w1 b := fp_later hb h
theorem fb_cells {w : World} {b : Nat} (h : FreshB w b) : (w.cell? ⟨b, 0, none⟩ = some (.int .i64 0) ∧ w.cell? ⟨b, 1, none⟩ = some (.int .i64 0) ∧ w.cell? ⟨b, 2, none⟩ = some (.slice none 0 0)) ∧ (w.frozen? ⟨b, 0, none⟩ = false ∧ w.frozen? ⟨b, 1, none⟩ = false ∧ w.frozen? ⟨b, 2, none⟩ = false) :=
  ⟨⟨blk_cell h 0, blk_cell h 1, blk_cell h 2⟩, blk_frozen h 0, blk_frozen h 1, blk_frozen h 2⟩
theorem fp_cells {w : World} {b : Nat} (h : FreshP w b) : (w.cell? ⟨b, 0, none⟩ = some (.int .i64 0) ∧ w.cell? ⟨b, 1, none⟩ = some (.int .i64 0) ∧ w.cell? ⟨b, 2, none⟩ = some (.int .i64 0) ∧ w.cell? ⟨b, 3, none⟩ = some (.int .i64 0) ∧ w.cell? ⟨b, 4, none⟩ = some (.int .i64 0) ∧ w.cell? ⟨b, 5, none⟩ = some (.int .i64 0) ∧ w.cell? ⟨b, 6, none⟩ = some (.int .u8 0)) ∧ (w.frozen? ⟨b, 0, none⟩ = false ∧ w.frozen? ⟨b, 1, none⟩ = false ∧ w.frozen? ⟨b, 2, none⟩ = false ∧ w.frozen? ⟨b, 3, none⟩ = false ∧ w.frozen? ⟨b, 4, none⟩ = false ∧ w.frozen? ⟨b, 5, none⟩ = false ∧ w.frozen? ⟨b, 6, none⟩ = false) :=
  ⟨⟨blk_cell h 0, blk_cell h 1, blk_cell h 2, blk_cell h 3, blk_cell h 4, blk_cell h 5, blk_cell h 6⟩, blk_frozen h 0, blk_frozen h 1, blk_frozen h 2, blk_frozen h 3, blk_frozen h 4, blk_frozen h 5, blk_frozen h 6⟩
/-- texels in new memory -/
def Row (w : World) (base g cap : Nat) (l : List Int) : Prop := w.ownsRow base 5 1 (.slice (some ⟨g, 0, none⟩) l.length cap) l.length (l.map (Value.int .u8))
theorem row_alloc {w : World} {base g cap : Nat} {l : List Int} {o : Obj} (h : Row w base g cap l) : Row (w.alloc o) base g cap l := own_alloc h _
theorem row_drew {w : World} {base g cap : Nat} {l : List Int} (h : Row w base g cap l) : Row w.drew base g cap l := h
theorem row_later {w w1 : World} {base g cap : Nat} {l : List Int} (hb : Below w.heap.size w w1) (h : Row w base g cap l) : Row w1 base g cap l :=
  own_move h fun k hk => hb.block k (own_lt h k hk)
theorem row_laterD {w w1 : World} {base g cap : Nat} {l : List Int} (hb : Below w.drew.heap.size w.drew w1) (h : Row w base g cap l) : Row w1 base g cap l := row_later hb h
theorem row_set {w : World} {base g cap : Nat} {l : List Int} {t : TypeId} {cs : Array Value} {b : Nat} (h : Row w base g cap l) (hb : w.heap[b]? = some (.cells cs t (0, 0))) (ht : 5 ≠ t) (i : Nat) (u : Value) : Row (w.setCell ⟨b, i, none⟩ u) base g cap l :=
  own_setCell h (own_ne h hb ht) u
/-- a field and a pen -/
def Two (B : Nat) (wr : World) (b p g cap : Nat) (W H : Int) (l : List Int) (pen : Array Value) : Prop :=
  wr.heap[b]? = some (.cells #[.int .i64 W, .int .i64 H, .slice (some ⟨g, 0, none⟩) l.length cap] 30 (0, 0)) ∧
  wr.heap[p]? = some (.cells pen 39 (0, 0)) ∧ Row wr B g cap l ∧ B ≤ b ∧ B ≤ p
theorem two_drew {B : Nat} {wr : World} {b p g cap : Nat} {W H : Int} {l : List Int} {pen : Array Value} (h : Two B wr b p g cap W H l pen) : Two B wr.drew b p g cap W H l pen := h
abbrev setB (X : World) (b : Nat) (W H : Int) (sl : Value) : World := ((X.setCell ⟨b, 0, none⟩ (.int .i64 W)).setCell ⟨b, 1, none⟩ (.int .i64 H)).setCell ⟨b, 2, none⟩ sl
abbrev setP (X : World) (p : Nat) (q0 q1 q2 q3 q4 q5 q6 : Int) : World := ((((((X.setCell ⟨p, 0, none⟩ (.int .i64 q0)).setCell ⟨p, 1, none⟩ (.int .i64 q1)).setCell ⟨p, 2, none⟩ (.int .i64 q2)).setCell ⟨p, 3, none⟩ (.int .i64 q3)).setCell ⟨p, 4, none⟩ (.int .i64 q4)).setCell ⟨p, 5, none⟩ (.int .i64 q5)).setCell ⟨p, 6, none⟩ (.int .u8 q6)
def LaidB (X : World) (b : Nat) (W H : Int) (sl : Value) : Prop := X.heap[b]? = some (.cells #[.int .i64 W, .int .i64 H, sl] 30 (0, 0))
def LaidP (X : World) (p : Nat) (q0 q1 q2 q3 q4 q5 q6 : Int) : Prop := X.heap[p]? = some (.cells #[.int .i64 q0, .int .i64 q1, .int .i64 q2, .int .i64 q3, .int .i64 q4, .int .i64 q5, .int .u8 q6] 39 (0, 0))
section
variable {X : World} {b p B g cap : Nat} {W H : Int} {sl : Value} {l : List Int} {q0 q1 q2 q3 q4 q5 q6 : Int} {o : Obj}
theorem lb_new (h : X.heap.size = b) : LaidB (X.alloc (.cells #[.int .i64 W, .int .i64 H, sl] 30)) b W H sl := by subst h; exact blk_new _ _
theorem lp_new (h : X.heap.size = p) : LaidP (X.alloc (.cells #[.int .i64 q0, .int .i64 q1, .int .i64 q2, .int .i64 q3, .int .i64 q4, .int .i64 q5, .int .u8 q6] 39)) p q0 q1 q2 q3 q4 q5 q6 := by subst h; exact blk_new _ _
theorem lb_alloc (h : LaidB X b W H sl) : LaidB (X.alloc o) b W H sl := blk_alloc h _
theorem lp_alloc (h : LaidP X p q0 q1 q2 q3 q4 q5 q6) : LaidP (X.alloc o) p q0 q1 q2 q3 q4 q5 q6 := blk_alloc h _
theorem lb_drew (h : LaidB X b W H sl) : LaidB X.drew b W H sl := h
theorem lp_drew (h : LaidP X p q0 q1 q2 q3 q4 q5 q6) : LaidP X.drew p q0 q1 q2 q3 q4 q5 q6 := h
theorem lb_set (h : FreshB X b) : LaidB (setB X b W H sl) b W H sl := blk_put (blk_put (blk_put h 0 _ rfl) 1 _ rfl) 2 _ rfl
theorem lp_set (h : FreshP X p) : LaidP (setP X p q0 q1 q2 q3 q4 q5 q6) p q0 q1 q2 q3 q4 q5 q6 := blk_put (blk_put (blk_put (blk_put (blk_put (blk_put (blk_put h 0 _ rfl) 1 _ rfl) 2 _ rfl) 3 _ rfl) 4 _ rfl) 5 _ rfl) 6 _ rfl
theorem setB_other {c : Nat} {t : TypeId} {cs : Array Value} (h : X.heap[c]? = some (.cells cs t (0, 0))) (hb : FreshB X b) (ht : t ≠ 30) : (setB X b W H sl).heap[c]? = some (.cells cs t (0, 0)) := by
  have hn : c ≠ b := blk_ne h hb ht
  exact blk_far (blk_far (blk_far h (p := ⟨b, 0, none⟩) hn _) (p := ⟨b, 1, none⟩) hn _) (p := ⟨b, 2, none⟩) hn _
theorem setP_other {c : Nat} {t : TypeId} {cs : Array Value} (h : X.heap[c]? = some (.cells cs t (0, 0))) (hb : FreshP X p) (ht : t ≠ 39) : (setP X p q0 q1 q2 q3 q4 q5 q6).heap[c]? = some (.cells cs t (0, 0)) := by
  have hn : c ≠ p := blk_ne h hb ht
  exact blk_far (blk_far (blk_far (blk_far (blk_far (blk_far (blk_far h (p := ⟨p, 0, none⟩) hn _) (p := ⟨p, 1, none⟩) hn _) (p := ⟨p, 2, none⟩) hn _) (p := ⟨p, 3, none⟩) hn _) (p := ⟨p, 4, none⟩) hn _) (p := ⟨p, 5, none⟩) hn _) (p := ⟨p, 6, none⟩) hn _
theorem fp_setB (h : FreshP X p) (hb : FreshB X b) : FreshP (setB X b W H sl) p := setB_other h hb (by decide)
theorem fb_setP (h : FreshB X b) (hp : FreshP X p) : FreshB (setP X p q0 q1 q2 q3 q4 q5 q6) b := setP_other h hp (by decide)
theorem lp_setB (h : LaidP X p q0 q1 q2 q3 q4 q5 q6) (hb : FreshB X b) : LaidP (setB X b W H sl) p q0 q1 q2 q3 q4 q5 q6 := setB_other h hb (by decide)
theorem lb_setP (h : LaidB X b W H sl) (hp : FreshP X p) : LaidB (setP X p q0 q1 q2 q3 q4 q5 q6) b W H sl := setP_other h hp (by decide)
theorem row_setB (h : Row X B g cap l) (hb : FreshB X b) : Row (setB X b W H sl) B g cap l :=
  row_set (row_set (row_set h hb (by decide) 0 _) (blk_put hb 0 _ rfl) (by decide) 1 _) (blk_put (blk_put hb 0 _ rfl) 1 _ rfl) (by decide) 2 _
theorem row_setP (h : Row X B g cap l) (hp : FreshP X p) : Row (setP X p q0 q1 q2 q3 q4 q5 q6) B g cap l := by
  have p0 := blk_put hp 0 (.int .i64 q0) rfl
  have p1 := blk_put p0 1 (.int .i64 q1) rfl
  have p2 := blk_put p1 2 (.int .i64 q2) rfl
  have p3 := blk_put p2 3 (.int .i64 q3) rfl
  have p4 := blk_put p3 4 (.int .i64 q4) rfl
  have p5 := blk_put p4 5 (.int .i64 q5) rfl
  exact row_set (row_set (row_set (row_set (row_set (row_set (row_set h hp (by decide) 0 _) p0 (by decide) 1 _) p1 (by decide) 2 _) p2 (by decide) 3 _) p3 (by decide) 4 _) p4 (by decide) 5 _) p5 (by decide) 6 _
theorem below_setB {w0 : World} (h : Below w0.heap.size w0 X) (hb : w0.heap.size ≤ b) : Below w0.heap.size w0 (setB X b W H sl) := below_set (below_set (below_set h hb) hb) hb
theorem below_setP {w0 : World} (h : Below w0.heap.size w0 X) (hb : w0.heap.size ≤ p) : Below w0.heap.size w0 (setP X p q0 q1 q2 q3 q4 q5 q6) := below_set (below_set (below_set (below_set (below_set (below_set (below_set h hb) hb) hb) hb) hb) hb) hb
theorem szB : (setB X b W H sl).heap.size = X.heap.size := by simp
theorem szP : (setP X p q0 q1 q2 q3 q4 q5 q6).heap.size = X.heap.size := by simp
theorem two_mk (h1 : LaidB X b W H (.slice (some ⟨g, 0, none⟩) l.length cap)) (h2 : LaidP X p q0 q1 q2 q3 q4 q5 q6) (h3 : Row X B g cap l) (lb : B ≤ b) (lp : B ≤ p) : Two B X b p g cap W H l #[.int .i64 q0, .int .i64 q1, .int .i64 q2, .int .i64 q3, .int .i64 q4, .int .i64 q5, .int .u8 q6] := ⟨h1, h2, h3, lb, lp⟩
end
end Go.Proofs.Ytfbnaicnmkkohaa.Two
