/- BilinFlip's walk: a field that is turned round at its middle has the same, turned round. Conditions: as each states. -/
import Derived.Test.YtignhpmfaodpjaaWalkSame
import Derived.Deep.RegionHeld3
import Derived.Deep.DrawnRows
import Derived.Lib.Hide
import Derived.WalkSpells
namespace Go.Proofs.Ytignhpmfaodpjaa.WalkFlip
open Go Go.RowKit Go.Lib Go.Proofs.YtignhpmfaodpjaaW.PrintWords Go.Proofs.YtignhpmfaodpjaaW.PrintLast Go.Proofs.YtignhpmfaodpjaaW.PrintMore Go.Proofs.Ytignhpmfaodpjaa.Core Go.Proofs.Ytignhpmfaodpjaa.PBilinFlat Go.Proofs.Ytignhpmfaodpjaa.WalkField Go.Proofs.Ytignhpmfaodpjaa.WalkSome Go.Proofs.Ytignhpmfaodpjaa.Glue Go.Proofs.Ytignhpmfaodpjaa.Base
set_option linter.unusedVariables false
set_option linter.unusedSimpArgs false
attribute [local go_sem ↓] Go.wp_at_zero Go.wp_at_succ
/-- the last first, so many -/
def back (l : List Int) (k : Nat) : List Int := l.reverse.take k
/-- what the loop keeps: the base world wf holds the field f at block b, its texels at g; g's own field lies at block c -/
def FlipInv (wf : World) (W H : Int) (l : List Int) (c : Nat) (s39 : Value) (w' : World) : Prop :=
  ∃ (k : Nat) (v : Value), s39 = .int .i64 k ∧ k ≤ l.length ∧ w'.heap[c]? = some (.cells #[.int .i64 W, .int .i64 H, v] 28 (0, 0)) ∧
    w'.ownsRow wf.heap.size 5 1 v k ((back l k).map (Value.int .u8)) ∧ Below c wf w' ∧ wf.heap.size ≤ w'.heap.size
theorem reads_cells {w : World} {g : Nat} {l : List Int} (hk : ∀ k, k < l.length → w.cell? ⟨g, k, none⟩ = some (.int .u8 (l.getD k 0))) (hm : l.length ≤ 1000) : Kd.C (Kd.int .u8) w (some ⟨g, 0, none⟩) l.length l := by
  refine ⟨rfl, by omega, fun _ => ⟨⟨g, 0, none⟩, rfl, fun j p hp => ?_⟩⟩
  refine ⟨[.int .u8 p], rfl, rfl, fun i u hi => ?_⟩
  have hj : j < l.length := (List.getElem?_eq_some_iff.1 hp).1
  have hi0 : i = 0 := by
    rcases i with _ | i
    · rfl
    · simp at hi
  subst hi0
  simp at hi
  subst hi
  have := hk j hj
  rw [List.getD_eq_getElem?_getD, hp] at this
  show w.cell? ((⟨g, 0, none⟩ : Addr).add (j * 1 + 0)) = _
  by_cases h0 : j = 0 <;> simpa [Addr.add, h0] using this
theorem FlipInv.next {wf wr w1 : World} {W H q : Int} {l : List Int} {c k gq capq : Nat} {v : Value} {o : Obj} (hk : k < l.length) (hc : c < wf.heap.size) (hbk : back l (k + 1) = back l k ++ [q])
    (hown : wr.ownsRow wf.heap.size 5 1 v k ((back l k).map (Value.int .u8))) (hbel : Below c wf wr) (hge : wf.heap.size ≤ wr.heap.size) (hgrow : (wr.alloc o).drew.grownBy w1 v.ownBlock)
    (hown1 : w1.ownsRow wf.heap.size 5 1 (.slice (some ⟨gq, 0, none⟩) (k + 1) capq) (k + 1) ((back l k).map (Value.int .u8) ++ [.int .u8 q])) (hF : w1.heap[c]? = some (.cells #[.int .i64 W, .int .i64 H, v] 28 (0, 0))) :
    FlipInv wf W H l c (.int .i64 ((k : Int) + 1)) (w1.setCell ⟨c, 2, none⟩ (.slice (some ⟨gq, 0, none⟩) (k + 1) capq)) := by
  refine ⟨k + 1, .slice (some ⟨gq, 0, none⟩) (k + 1) capq, by congr 1, by omega, blk_put hF 2 _ rfl, ?_, ?_, ?_⟩
  · have := ownsRow_setCell_below hown1 (a := ⟨c, 2, none⟩) (by show c < _; omega) (.slice (some ⟨gq, 0, none⟩) (k + 1) capq)
    rw [hbk, List.map_append]; exact this
  · refine Below.setCell ?_ (Nat.le_refl c) _
    refine ((hbel.alloc (by omega) o).drew).grown hgrow (by simp; omega) fun b hb => ?_
    rcases hown.2 with ⟨rfl, _⟩ | ⟨g', cap', cur', rfl, hg', _⟩
    · simp [Value.ownBlock] at hb
    · simp [Value.ownBlock] at hb; omega
  · have := hgrow.size
    simp at this ⊢; omega
set_option maxHeartbeats 1000000 in
theorem flip (op key aw ah ink x y t W H m n d m2 n2 num den : Int) (l : List Int) (w : World) (hlen : l.length ≤ 1000) (hlp : 0 < l.length) (WD HD : Int) (g1 : IntKind.i64.wrap (W * d) = WD) (g2 : IntKind.i64.wrap (WD - m) = m2) (g3 : IntKind.i64.wrap (H * d) = HD) (g4 : IntKind.i64.wrap (HD - n) = n2)
    (HA : Hid (∀ (w : World) (A : Option Addr) (cap : Nat), Kd.C (Kd.int .u8) w A l.length l → l.length ≤ cap → Calls Try.prog 12 #[.agg #[.int .i64 W, .int .i64 H, .slice A l.length cap], .int .i64 m, .int .i64 n, .int .i64 d] w (Ret (.tuple #[.agg #[.int .i64 num, .int .i64 den], .int .i64 0]) w)))
    (HA2 : Hid (∀ (w : World) (A : Option Addr) (cap : Nat), Kd.C (Kd.int .u8) w A l.length l.reverse → l.length ≤ cap → Calls Try.prog 12 #[.agg #[.int .i64 W, .int .i64 H, .slice A l.length cap], .int .i64 m2, .int .i64 n2, .int .i64 d] w (Ret (.tuple #[.agg #[.int .i64 num, .int .i64 den], .int .i64 0]) w)))
    (HM : Hid (∀ (w : World) (A : Option Addr) (cap : Nat), Kd.C (Kd.int .u8) w A l.length l → l.length ≤ cap → Calls Try.prog 15 #[.agg #[.int .i64 W, .int .i64 H, .slice A l.length cap], .agg #[.int .i64 W, .int .i64 H, .slice A l.length cap]] w (Ret (.bool true) w)))
    (HS : Hid (∀ w, Calls Try.prog 11 #[.agg #[.int .u8 op, .int .u8 key, .int .u8 aw, .int .u8 ah, .int .u8 ink], .int .i16 x, .int .i16 y, .int .u8 t] w (SomeMade w W H m n d l))) :
    Calls Try.prog 7 #[.agg #[.int .u8 op, .int .u8 key, .int .u8 aw, .int .u8 ah, .int .u8 ink], .int .i16 x, .int .i16 y, .int .u8 t] w (Ret (.bool true) w) := by
  obtain ⟨i0, hi, hz0, hz1, hz2⟩ := info_parts byte_info
  go_enter Try.func7, Try.ntmps7
  go_upto_region 6 with (first | (go_at_call 10; refine (awake_calls _).mono ?_; rintro e w1 ⟨rfl, hw1⟩; obtain ⟨hc1, hf1⟩ := bcell hw1) | (go_at_call 11; refine (HS.out _).mono ?_; rintro e w2 ⟨g, cap, rfl, ho2, hw2⟩))
  have kc : ∀ k : Nat, k < l.length → w2.cell? ⟨g, k, none⟩ = some (.int .u8 (l.getD k 0)) := by
    intro k hk
    have := ho2.cellAt k (by omega)
    rw [this, List.getElem?_map, List.getD_eq_getElem?_getD, List.getElem?_eq_getElem hk]; rfl
  have kg : g < w2.heap.size := (reads_own ho2).2.2.2
  have kcap : l.length ≤ cap := (reads_own ho2).2.1
  have ha1 : Below w2.heap.size w2 ((w2.alloc (.cells #[.int .i64 W, .int .i64 H, .slice (some ⟨g, 0, none⟩) l.length cap] 28)).alloc (.cells #[.int .i64 W, .int .i64 H, .slice none 0 0] 28)) := below_alloc (below_alloc (Below.refl _ _) _) _
  have KC : Hid (∀ k : Nat, k < l.length → ((w2.alloc (.cells #[.int .i64 W, .int .i64 H, .slice (some ⟨g, 0, none⟩) l.length cap] 28)).alloc (.cells #[.int .i64 W, .int .i64 H, .slice none 0 0] 28)).cell? ⟨g, k, none⟩ = some (.int .u8 (l.getD k 0))) := fun k hk => cell_later ha1 (kc k hk)
  have f0 : ((w2.alloc (.cells #[.int .i64 W, .int .i64 H, .slice (some ⟨g, 0, none⟩) l.length cap] 28)).alloc (.cells #[.int .i64 W, .int .i64 H, .slice none 0 0] 28)).cell? ⟨w2.heap.size, 0, none⟩ = some (.int .i64 W) := by go_simp
  have f1 : ((w2.alloc (.cells #[.int .i64 W, .int .i64 H, .slice (some ⟨g, 0, none⟩) l.length cap] 28)).alloc (.cells #[.int .i64 W, .int .i64 H, .slice none 0 0] 28)).cell? ⟨w2.heap.size, 1, none⟩ = some (.int .i64 H) := by go_simp
  have f2 : ((w2.alloc (.cells #[.int .i64 W, .int .i64 H, .slice (some ⟨g, 0, none⟩) l.length cap] 28)).alloc (.cells #[.int .i64 W, .int .i64 H, .slice none 0 0] 28)).cell? ⟨w2.heap.size, 2, none⟩ = some (.slice (some ⟨g, 0, none⟩) l.length cap) := by go_simp
  have hG : ((w2.alloc (.cells #[.int .i64 W, .int .i64 H, .slice (some ⟨g, 0, none⟩) l.length cap] 28)).alloc (.cells #[.int .i64 W, .int .i64 H, .slice none 0 0] 28)).heap[w2.heap.size + 1]? = some (.cells #[.int .i64 W, .int .i64 H, .slice none 0 0] 28 (0, 0)) := by
    have := blk_new (w2.alloc (.cells #[.int .i64 W, .int .i64 H, .slice (some ⟨g, 0, none⟩) l.length cap] 28)) (.cells #[.int .i64 W, .int .i64 H, .slice none 0 0] 28)
    rw [World.size_alloc] at this; exact this
  have ho := (ho2.alloc (.cells #[.int .i64 W, .int .i64 H, .slice (some ⟨g, 0, none⟩) l.length cap] 28)).alloc (.cells #[.int .i64 W, .int .i64 H, .slice none 0 0] 28)
  have hsz : ((w2.alloc (.cells #[.int .i64 W, .int .i64 H, .slice (some ⟨g, 0, none⟩) l.length cap] 28)).alloc (.cells #[.int .i64 W, .int .i64 H, .slice none 0 0] 28)).heap.size = w2.heap.size + 1 + 1 := by simp
  have hB : Below w.heap.size w ((w2.alloc (.cells #[.int .i64 W, .int .i64 H, .slice (some ⟨g, 0, none⟩) l.length cap] 28)).alloc (.cells #[.int .i64 W, .int .i64 H, .slice none 0 0] 28)) := below_alloc (below_alloc (below_step (below_step (below_alloc (Below.refl _ _) _) hw1) hw2) _) _
  have hws := (below_step (below_step (below_alloc (Below.refl w.heap.size w) _) hw1) hw2).size
  clear kc ha1 ho2 hw1 hw2 hc1 hf1
  generalize ((w2.alloc (.cells #[.int .i64 W, .int .i64 H, .slice (some ⟨g, 0, none⟩) l.length cap] 28)).alloc (.cells #[.int .i64 W, .int .i64 H, .slice none 0 0] 28)) = wf at *
  go_loopw [39] (FlipInv wf W H l (w2.heap.size + 1)) (fun i _ => (l.length - intOf i).toNat)
  case atStart => exact ⟨0, .slice none 0 0, rfl, Nat.zero_le _, hG, ⟨rfl, .inl ⟨rfl, rfl⟩⟩, Below.refl _ _, Nat.le_refl _⟩
  case round =>
    obtain ⟨k, v, rfl, hk, hblk, hown, hbel, hge⟩ := hrel
    have e0 : wr.cell? ⟨w2.heap.size, 0, none⟩ = some (.int .i64 W) := (hbel.cell (p := ⟨w2.heap.size, 0, none⟩) (by show w2.heap.size < _; omega)).trans f0
    have e1 : wr.cell? ⟨w2.heap.size, 1, none⟩ = some (.int .i64 H) := (hbel.cell (p := ⟨w2.heap.size, 1, none⟩) (by show w2.heap.size < _; omega)).trans f1
    have e2 : wr.cell? ⟨w2.heap.size, 2, none⟩ = some (.slice (some ⟨g, 0, none⟩) l.length cap) := (hbel.cell (p := ⟨w2.heap.size, 2, none⟩) (by show w2.heap.size < _; omega)).trans f2
    have c2 : wr.cell? ⟨w2.heap.size + 1, 2, none⟩ = some v := blk_cell hblk 2
    have c2f := blk_frozen hblk 2
    by_cases hlt : k < l.length
    · obtain ⟨j, hj⟩ : ∃ j, j = l.length - 1 - k := ⟨_, rfl⟩
      have p0 : (k : Int) < (l.length : Int) := by omega
      have p1 : IntKind.i64.wrap ((l.length : Int) - 1) = (l.length : Int) - 1 := by rw [IntKind.wrap_i64]; omega
      have p2 : IntKind.i64.wrap ((l.length : Int) - 1 - (k : Int)) = (j : Int) := by rw [IntKind.wrap_i64]; omega
      have p3 : (0 : Int) ≤ (j : Int) := by omega
      have p4 : (j : Int) < (l.length : Int) := by omega
      have p5 : IntKind.i64.wrap ((k : Int) + 1) = (k : Int) + 1 := by rw [IntKind.wrap_i64]; omega
      have ct : wr.cell? ⟨g, j, none⟩ = some (.int .u8 (l.getD j 0)) := (hbel.cell (p := ⟨g, j, none⟩) (by show g < _; omega)).trans (KC.out j (by omega))
      have hbk : back l (k + 1) = back l k ++ [l.getD j 0] := by
        unfold back
        rw [List.take_add_one, List.getElem?_reverse hlt, ← hj, List.getD_eq_getElem?_getD, List.getElem?_eq_getElem (by omega)]; rfl
      generalize l.getD j 0 = q at *
      have HB := Lib.hid hblk
      clear hblk hj
      go_upto_region 8 with fail
      refine wp_region_held_drew (S := fun w' => (w'.cell? ⟨w2.heap.size, 2, none⟩ = some (.slice (some ⟨g, 0, none⟩) l.length cap) ∧ w'.cell? ⟨g, j, none⟩ = some (.int .u8 q))) (by kernel_rfl) ⟨e2, ct⟩ (fun hHeld0 => ?_)
      refine wpAnyH_take (i := 0) (oi := { dst := some 42, op := Op.fieldAddr 28 (Operand.tmp 13) 2, type := 0, pos := "law.go:101", after := #[], guard := none }) (v := ?v0) rfl (by kernel_rfl) (by kernel_rfl) (by kernel_rfl) (fun _ _ _ h => h) (Or.inl ⟨by rfl, ?hy0⟩) (by assumption) ?rest0
      case hy0 => (intro w hSw; (try dsimp only at hSw); go_simp; try with_reducible rfl)
      try simp only [Act.put, List.setIfInBounds_toArray, List.set_cons_zero, List.set_cons_succ]
      refine wpAnyH_take (i := 2) (oi := { dst := some 44, op := Op.fieldAddr 28 (Operand.tmp 9) 2, type := 0, pos := "law.go:101", after := #[], guard := none }) (v := ?v2) rfl (by kernel_rfl) (by kernel_rfl) (by kernel_rfl) (fun _ _ _ h => h) (Or.inl ⟨by rfl, ?hy2⟩) (by assumption) ?rest2
      case hy2 => (intro w hSw; (try dsimp only at hSw); go_simp; try with_reducible rfl)
      try simp only [Act.put, List.setIfInBounds_toArray, List.set_cons_zero, List.set_cons_succ]
      refine wpAnyH_take (i := 3) (oi := { dst := some 45, op := Op.load 26 (Operand.tmp 44), type := 26, pos := "law.go:101", after := #[{ on := 2, ground := Ground.data }], guard := none }) (v := ?v3) rfl (by kernel_rfl) (by kernel_rfl) (by kernel_rfl) (fun _ _ _ h => h) (Or.inl ⟨by rfl, ?hy3⟩) (by assumption) ?rest3
      case hy3 => (intro w hSw; (try dsimp only at hSw); go_simp; try with_reducible rfl)
      try simp only [Act.put, List.setIfInBounds_toArray, List.set_cons_zero, List.set_cons_succ]
      refine wpAnyH_take (i := 4) (oi := { dst := some 46, op := Op.fieldAddr 28 (Operand.tmp 9) 2, type := 0, pos := "law.go:101", after := #[], guard := none }) (v := ?v4) rfl (by kernel_rfl) (by kernel_rfl) (by kernel_rfl) (fun _ _ _ h => h) (Or.inl ⟨by rfl, ?hy4⟩) (by assumption) ?rest4
      case hy4 => (intro w hSw; (try dsimp only at hSw); go_simp; try with_reducible rfl)
      try simp only [Act.put, List.setIfInBounds_toArray, List.set_cons_zero, List.set_cons_succ]
      refine wpAnyH_take (i := 5) (oi := { dst := some 47, op := Op.load 26 (Operand.tmp 46), type := 26, pos := "law.go:101", after := #[{ on := 4, ground := Ground.data }], guard := none }) (v := ?v5) rfl (by kernel_rfl) (by kernel_rfl) (by kernel_rfl) (fun _ _ _ h => h) (Or.inl ⟨by rfl, ?hy5⟩) (by assumption) ?rest5
      case hy5 => (intro w hSw; (try dsimp only at hSw); go_simp; try with_reducible rfl)
      try simp only [Act.put, List.setIfInBounds_toArray, List.set_cons_zero, List.set_cons_succ]
      refine wpAnyH_take (i := 6) (oi := { dst := some 48, op := Op.call { callee := Callee.builtin Builtin.len, args := #[Operand.tmp 47], argTypes := #[26] }, type := 3, pos := "law.go:101", after := #[{ on := 5, ground := Ground.data }], guard := none }) (v := ?v6) rfl (by kernel_rfl) (by kernel_rfl) (by kernel_rfl) (fun _ _ _ h => h) (Or.inl ⟨by rfl, ?hy6⟩) (by assumption) ?rest6
      case hy6 => (intro w hSw; (try dsimp only at hSw); go_simp; try with_reducible rfl)
      try simp only [Act.put, List.setIfInBounds_toArray, List.set_cons_zero, List.set_cons_succ]
      refine wpAnyH_take (i := 7) (oi := { dst := some 49, op := Op.binOp BinOp.sub 3 (Operand.tmp 48) (Operand.const (Value.int IntKind.i64 1)) 3, type := 3, pos := "law.go:101", after := #[{ on := 6, ground := Ground.data }], guard := none }) (v := ?v7) rfl (by kernel_rfl) (by kernel_rfl) (by kernel_rfl) (fun _ _ _ h => h) (Or.inl ⟨by rfl, ?hy7⟩) (by assumption) ?rest7
      case hy7 => (intro w hSw; (try dsimp only at hSw); go_simp; try with_reducible rfl)
      try simp only [Act.put, List.setIfInBounds_toArray, List.set_cons_zero, List.set_cons_succ]
      refine wpAnyH_take (i := 8) (oi := { dst := some 50, op := Op.move (Operand.tmp 14), type := 3, pos := "law.go:101", after := #[], guard := none }) (v := ?v8) rfl (by kernel_rfl) (by kernel_rfl) (by kernel_rfl) (fun _ _ _ h => h) (Or.inl ⟨by rfl, ?hy8⟩) (by assumption) ?rest8
      case hy8 => (intro w hSw; (try dsimp only at hSw); go_simp; try with_reducible rfl)
      try simp only [Act.put, List.setIfInBounds_toArray, List.set_cons_zero, List.set_cons_succ]
      refine wpAnyH_take (i := 9) (oi := { dst := some 51, op := Op.binOp BinOp.sub 3 (Operand.tmp 49) (Operand.tmp 50) 3, type := 3, pos := "law.go:101", after := #[{ on := 7, ground := Ground.data }, { on := 8, ground := Ground.data }], guard := none }) (v := ?v9) rfl (by kernel_rfl) (by kernel_rfl) (by kernel_rfl) (fun _ _ _ h => h) (Or.inl ⟨by rfl, ?hy9⟩) (by assumption) ?rest9
      case hy9 => (intro w hSw; (try dsimp only at hSw); go_simp; try with_reducible rfl)
      try simp only [Act.put, List.setIfInBounds_toArray, List.set_cons_zero, List.set_cons_succ]
      refine wpAnyH_take (i := 10) (oi := { dst := some 52, op := Op.indexAddr 26 (Operand.tmp 45) (Operand.tmp 51), type := 0, pos := "law.go:101", after := #[{ on := 3, ground := Ground.data }, { on := 9, ground := Ground.data }], guard := none }) (v := ?v10) rfl (by kernel_rfl) (by kernel_rfl) (by kernel_rfl) (fun _ _ _ h => h) (Or.inl ⟨by rfl, ?hy10⟩) (by assumption) ?rest10
      case hy10 => (intro w hSw; (try dsimp only at hSw); go_simp; try with_reducible rfl)
      try simp only [Act.put, List.setIfInBounds_toArray, List.set_cons_zero, List.set_cons_succ]
      refine wpAnyH_take (i := 11) (oi := { dst := some 53, op := Op.load 5 (Operand.tmp 52), type := 5, pos := "law.go:101", after := #[{ on := 10, ground := Ground.data }], guard := none }) (v := ?v11) rfl (by kernel_rfl) (by kernel_rfl) (by kernel_rfl) (fun _ _ _ h => h) (Or.inl ⟨by rfl, ?hy11⟩) (by assumption) ?rest11
      case hy11 => (intro w hSw; (try dsimp only at hSw); go_simp; try with_reducible rfl)
      try simp only [Act.put, List.setIfInBounds_toArray, List.set_cons_zero, List.set_cons_succ]
      
      refine wpAnyH_ready (rs := [1, 12]) (by kernel_rfl) (by simp) ?_
      refine AllReadyH.cons (o := { dst := some 43, op := Op.load 26 (Operand.tmp 42), type := 26, pos := "law.go:101", after := #[{ on := 0, ground := Ground.data }], guard := none }) rfl (fun K hK => ?_) (AllReadyH.cons (o := { dst := some 54, op := Op.buildSlice 26 1 #[(0, Operand.tmp 53)], type := 26, pos := "law.go:101", after := #[{ on := 11, ground := Ground.data }], guard := none }) rfl (fun K hK => ?_) AllReadyH.nil)
      · go_simp
        refine hK.out _ _ ⟨hHeld0.1, hHeld0.2⟩ (fun hHeldL => ?_)
        clear hK K
        try simp only [Act.put, List.setIfInBounds_toArray, List.set_cons_zero, List.set_cons_succ]
        refine wpAnyH_ready (rs := [12]) (by kernel_rfl) (by simp) ?_
        refine AllReadyH.cons (o := { dst := some 54, op := Op.buildSlice 26 1 #[(0, Operand.tmp 53)], type := 26, pos := "law.go:101", after := #[{ on := 11, ground := Ground.data }], guard := none }) rfl (fun K hK => ?_) AllReadyH.nil
        go_simp
        refine hK.out _ _ ⟨(cell_later (below_alloc (Below.refl _ _) _) e2 : (wr.alloc (.cells #[.int .u8 q] 5)).cell? _ = _), (cell_later (below_alloc (Below.refl _ _) _) ct : (wr.alloc (.cells #[.int .u8 q] 5)).cell? _ = _)⟩ (fun hHeldB => ?_)
        clear hK K
        try simp only [Act.put, List.setIfInBounds_toArray, List.set_cons_zero, List.set_cons_succ]
        
        refine wpAnyH_ready (rs := [13]) (by kernel_rfl) (by simp) ?_
        refine AllReadyH.cons (o := { dst := some 55, op := Op.call { callee := Callee.builtin Builtin.append, args := #[Operand.tmp 43, Operand.tmp 54], argTypes := #[26, 26] }, type := 26, pos := "law.go:101", after := #[{ on := 1, ground := Ground.data }, { on := 12, ground := Ground.data }], guard := none }) rfl (fun K hK => ?_) AllReadyH.nil
        refine step_append_lies _ (by rfl) _ _ 26 (by rfl) wf.heap.size 5 i0 (.int .u8 0) 1 1 Try.underlying26 hi hz0 hz1 hz2 rfl (by omega) v k _ (by rfl) (own_drew (hown.alloc (.cells #[.int .u8 q] 5))) ⟨wr.heap.size, 0, none⟩ 1 1 [.int .u8 q] (by rfl) (by rfl) (cell_one_new _ _ _) (by simp [Value.oneCell']) (by omega) (by unfold maxLen; omega) (by omega) (by simp; omega) (wr.heap.size + 1) (by simp) ?_
        intro gq capq w1 hown1 hgrow hat hlt1
        refine hK.out _ _ ⟨?_, ?_⟩ (fun hHeld => ?_)
        · exact (hgrow.cell_far ⟨w2.heap.size, 2, none⟩ (World.block_lt_of_cell? _ _ (cell_later (below_alloc (Below.refl _ _) _) e2 : (wr.alloc (.cells #[.int .u8 q] 5)).cell? _ = _)) (own_apart2 (c := w2.heap.size) hown (by omega))).trans (cell_later (below_alloc (Below.refl _ _) _) e2 : (wr.alloc (.cells #[.int .u8 q] 5)).cell? _ = _)
        · exact (hgrow.cell_far ⟨g, j, none⟩ (World.block_lt_of_cell? _ _ (cell_later (below_alloc (Below.refl _ _) _) ct : (wr.alloc (.cells #[.int .u8 q] 5)).cell? _ = _)) (own_apart2 (c := g) hown (by omega))).trans (cell_later (below_alloc (Below.refl _ _) _) ct : (wr.alloc (.cells #[.int .u8 q] 5)).cell? _ = _)
        clear hK K
        try simp only [Act.put, List.setIfInBounds_toArray, List.set_cons_zero, List.set_cons_succ]
        have hF1 := blk_grown (blk_drew (blk_alloc HB.out (.cells #[.int .u8 q] 5))) hgrow (own_apart2 hown (by omega))
        have hc2 : w1.cell? ⟨w2.heap.size + 1, 2, none⟩ = some v := blk_cell hF1 2
        have hfz2 := blk_frozen hF1 2
        refine wpAnyH_take (i := 14) (oi := { dst := some 56, op := Op.fieldAddr 28 (Operand.tmp 13) 2, type := 0, pos := "law.go:101", after := #[{ on := 0, ground := Ground.phase }, { on := 1, ground := Ground.phase }, { on := 2, ground := Ground.phase }, { on := 3, ground := Ground.phase }, { on := 4, ground := Ground.phase }, { on := 5, ground := Ground.phase }, { on := 6, ground := Ground.phase }, { on := 7, ground := Ground.phase }, { on := 8, ground := Ground.phase }, { on := 9, ground := Ground.phase }, { on := 10, ground := Ground.phase }, { on := 11, ground := Ground.phase }, { on := 12, ground := Ground.phase }, { on := 13, ground := Ground.phase }], guard := none }) (v := ?v14a) rfl (by kernel_rfl) (by kernel_rfl) (by kernel_rfl) (fun _ _ _ h => h) (Or.inl ⟨by rfl, ?hy14a⟩) (by assumption) ?rest14a
        case hy14a => (intro w hSw; (try dsimp only at hSw); go_simp; try with_reducible rfl)
        try simp only [Act.put, List.setIfInBounds_toArray, List.set_cons_zero, List.set_cons_succ]
        refine wpAnyH_ready (rs := [15]) (by kernel_rfl) (by simp) ?_
        refine AllReadyH.cons (o := { dst := none, op := Op.store 26 (Operand.tmp 56) (Operand.tmp 55), type := 0, pos := "law.go:101", after := #[{ on := 14, ground := Ground.data }, { on := 13, ground := Ground.data }, { on := 13, ground := Ground.chain }, { on := 0, ground := Ground.phase }, { on := 1, ground := Ground.phase }, { on := 2, ground := Ground.phase }, { on := 3, ground := Ground.phase }, { on := 4, ground := Ground.phase }, { on := 5, ground := Ground.phase }, { on := 6, ground := Ground.phase }, { on := 7, ground := Ground.phase }, { on := 8, ground := Ground.phase }, { on := 9, ground := Ground.phase }, { on := 10, ground := Ground.phase }, { on := 11, ground := Ground.phase }, { on := 12, ground := Ground.phase }, { on := 13, ground := Ground.phase }], guard := none }) rfl (fun K hK => ?_) AllReadyH.nil
        go_simp
        refine hK.out _ _ ⟨?_, ?_⟩ (fun hHeld2 => ?_)
        · exact (World.cell?_setCell_far _ _ _ _ (by show w2.heap.size + 1 ≠ w2.heap.size; omega)).trans hHeld.1
        · exact (World.cell?_setCell_far _ _ _ _ (by show w2.heap.size + 1 ≠ g; omega)).trans hHeld.2
        clear hK K
        try simp only [Act.put, List.setIfInBounds_toArray, List.set_cons_zero, List.set_cons_succ]
        refine wpAnyH_done (by kernel_rfl) ?_ _
        go_wp2_with fail
        refine ⟨?_, by simp [intOf]; omega⟩
        exact FlipInv.next hlt (by omega) hbk hown hbel hge hgrow hown1 hF1
      · go_simp
        refine hK.out _ _ ⟨(cell_later (below_alloc (Below.refl _ _) _) e2 : (wr.alloc (.cells #[.int .u8 q] 5)).cell? _ = _), (cell_later (below_alloc (Below.refl _ _) _) ct : (wr.alloc (.cells #[.int .u8 q] 5)).cell? _ = _)⟩ (fun hHeldB => ?_)
        clear hK K
        try simp only [Act.put, List.setIfInBounds_toArray, List.set_cons_zero, List.set_cons_succ]
        have c2n : (wr.alloc (.cells #[.int .u8 q] 5)).drew.cell? ⟨w2.heap.size + 1, 2, none⟩ = some v := (cell_later (below_alloc (Below.refl _ _) _) c2 : (wr.alloc (.cells #[.int .u8 q] 5)).cell? _ = _)
        refine wpAnyH_ready (rs := [1]) (by kernel_rfl) (by simp) ?_
        refine AllReadyH.cons (o := { dst := some 43, op := Op.load 26 (Operand.tmp 42), type := 26, pos := "law.go:101", after := #[{ on := 0, ground := Ground.data }], guard := none }) rfl (fun K hK => ?_) AllReadyH.nil
        go_simp
        refine hK.out _ _ ⟨hHeldB.1, hHeldB.2⟩ (fun hHeldL => ?_)
        clear hK K
        try simp only [Act.put, List.setIfInBounds_toArray, List.set_cons_zero, List.set_cons_succ]
        
        refine wpAnyH_ready (rs := [13]) (by kernel_rfl) (by simp) ?_
        refine AllReadyH.cons (o := { dst := some 55, op := Op.call { callee := Callee.builtin Builtin.append, args := #[Operand.tmp 43, Operand.tmp 54], argTypes := #[26, 26] }, type := 26, pos := "law.go:101", after := #[{ on := 1, ground := Ground.data }, { on := 12, ground := Ground.data }], guard := none }) rfl (fun K hK => ?_) AllReadyH.nil
        refine step_append_lies _ (by rfl) _ _ 26 (by rfl) wf.heap.size 5 i0 (.int .u8 0) 1 1 Try.underlying26 hi hz0 hz1 hz2 rfl (by omega) v k _ (by rfl) (own_drew (hown.alloc (.cells #[.int .u8 q] 5))) ⟨wr.heap.size, 0, none⟩ 1 1 [.int .u8 q] (by rfl) (by rfl) (cell_one_new _ _ _) (by simp [Value.oneCell']) (by omega) (by unfold maxLen; omega) (by omega) (by simp; omega) (wr.heap.size + 1) (by simp) ?_
        intro gq capq w1 hown1 hgrow hat hlt1
        refine hK.out _ _ ⟨?_, ?_⟩ (fun hHeld => ?_)
        · exact (hgrow.cell_far ⟨w2.heap.size, 2, none⟩ (World.block_lt_of_cell? _ _ (cell_later (below_alloc (Below.refl _ _) _) e2 : (wr.alloc (.cells #[.int .u8 q] 5)).cell? _ = _)) (own_apart2 (c := w2.heap.size) hown (by omega))).trans (cell_later (below_alloc (Below.refl _ _) _) e2 : (wr.alloc (.cells #[.int .u8 q] 5)).cell? _ = _)
        · exact (hgrow.cell_far ⟨g, j, none⟩ (World.block_lt_of_cell? _ _ (cell_later (below_alloc (Below.refl _ _) _) ct : (wr.alloc (.cells #[.int .u8 q] 5)).cell? _ = _)) (own_apart2 (c := g) hown (by omega))).trans (cell_later (below_alloc (Below.refl _ _) _) ct : (wr.alloc (.cells #[.int .u8 q] 5)).cell? _ = _)
        clear hK K
        try simp only [Act.put, List.setIfInBounds_toArray, List.set_cons_zero, List.set_cons_succ]
        have hF1 := blk_grown (blk_drew (blk_alloc HB.out (.cells #[.int .u8 q] 5))) hgrow (own_apart2 hown (by omega))
        have hc2 : w1.cell? ⟨w2.heap.size + 1, 2, none⟩ = some v := blk_cell hF1 2
        have hfz2 := blk_frozen hF1 2
        refine wpAnyH_take (i := 14) (oi := { dst := some 56, op := Op.fieldAddr 28 (Operand.tmp 13) 2, type := 0, pos := "law.go:101", after := #[{ on := 0, ground := Ground.phase }, { on := 1, ground := Ground.phase }, { on := 2, ground := Ground.phase }, { on := 3, ground := Ground.phase }, { on := 4, ground := Ground.phase }, { on := 5, ground := Ground.phase }, { on := 6, ground := Ground.phase }, { on := 7, ground := Ground.phase }, { on := 8, ground := Ground.phase }, { on := 9, ground := Ground.phase }, { on := 10, ground := Ground.phase }, { on := 11, ground := Ground.phase }, { on := 12, ground := Ground.phase }, { on := 13, ground := Ground.phase }], guard := none }) (v := ?v14b) rfl (by kernel_rfl) (by kernel_rfl) (by kernel_rfl) (fun _ _ _ h => h) (Or.inl ⟨by rfl, ?hy14b⟩) (by assumption) ?rest14b
        case hy14b => (intro w hSw; (try dsimp only at hSw); go_simp; try with_reducible rfl)
        try simp only [Act.put, List.setIfInBounds_toArray, List.set_cons_zero, List.set_cons_succ]
        refine wpAnyH_ready (rs := [15]) (by kernel_rfl) (by simp) ?_
        refine AllReadyH.cons (o := { dst := none, op := Op.store 26 (Operand.tmp 56) (Operand.tmp 55), type := 0, pos := "law.go:101", after := #[{ on := 14, ground := Ground.data }, { on := 13, ground := Ground.data }, { on := 13, ground := Ground.chain }, { on := 0, ground := Ground.phase }, { on := 1, ground := Ground.phase }, { on := 2, ground := Ground.phase }, { on := 3, ground := Ground.phase }, { on := 4, ground := Ground.phase }, { on := 5, ground := Ground.phase }, { on := 6, ground := Ground.phase }, { on := 7, ground := Ground.phase }, { on := 8, ground := Ground.phase }, { on := 9, ground := Ground.phase }, { on := 10, ground := Ground.phase }, { on := 11, ground := Ground.phase }, { on := 12, ground := Ground.phase }, { on := 13, ground := Ground.phase }], guard := none }) rfl (fun K hK => ?_) AllReadyH.nil
        go_simp
        refine hK.out _ _ ⟨?_, ?_⟩ (fun hHeld2 => ?_)
        · exact (World.cell?_setCell_far _ _ _ _ (by show w2.heap.size + 1 ≠ w2.heap.size; omega)).trans hHeld.1
        · exact (World.cell?_setCell_far _ _ _ _ (by show w2.heap.size + 1 ≠ g; omega)).trans hHeld.2
        clear hK K
        try simp only [Act.put, List.setIfInBounds_toArray, List.set_cons_zero, List.set_cons_succ]
        refine wpAnyH_done (by kernel_rfl) ?_ _
        go_wp2_with fail
        refine ⟨?_, by simp [intOf]; omega⟩
        exact FlipInv.next hlt (by omega) hbk hown hbel hge hgrow hown1 hF1
    · obtain rfl : k = l.length := by omega
      obtain ⟨gq, capq, rfl, hg, hgl⟩ := hown.form hlp
      have hbl : back l l.length = l.reverse := by unfold back; rw [List.take_of_length_le (by simp)]
      rw [hbl] at hown
      have hR := reads_own (l := l.reverse) (by rw [List.length_reverse]; exact hown)
      rw [List.length_reverse] at hR
      have hcq : l.length ≤ capq := hR.2.1
      have KR : Hid (∀ j : Nat, j < l.reverse.length → wr.cell? ⟨gq, j, none⟩ = some (.int .u8 (l.reverse.getD j 0))) := fun j hj => by
        have := hown.cellAt j (by simpa using hj)
        rw [this, List.getElem?_map, List.getD_eq_getElem?_getD, List.getElem?_eq_getElem hj]; rfl
      have KF : Hid (∀ j : Nat, j < l.length → wr.cell? ⟨g, j, none⟩ = some (.int .u8 (l.getD j 0))) := fun j hj => (hbel.cell (p := ⟨g, j, none⟩) (by show g < _; omega)).trans (KC.out j hj)
      have c0 : wr.cell? ⟨w2.heap.size + 1, 0, none⟩ = some (.int .i64 W) := blk_cell hblk 0
      have c1 : wr.cell? ⟨w2.heap.size + 1, 1, none⟩ = some (.int .i64 H) := blk_cell hblk 1
      have lc : w2.heap.size + 1 < wr.heap.size := World.block_lt_of_cell? _ _ c0
      have hBr : Below w.heap.size w wr := hB.trans (hbel.mono (by omega))
      have hlr : l.reverse.length ≤ 1000 := by simpa using hlen
      clear hblk hown hR hgl hg c2f
      go_upto_region 12 with (first
        | (go_at_call_of 12 (Value.int IntKind.i64 m); refine (HA.out _ _ _ (reads_cells KF.out hlen) kcap).mono ?_; rintro e w3 ⟨rfl, hw3⟩; have x0 := cell_later hw3 e0; have x1 := cell_later hw3 e1; have x2 := cell_later hw3 e2; have y0 := cell_later hw3 c0; have y1 := cell_later hw3 c1; have y2 := cell_later hw3 c2; have lx : w2.heap.size + 1 < w3.heap.size := World.block_lt_of_cell? _ _ y0; have lx0 : w2.heap.size < w3.heap.size := World.block_lt_of_cell? _ _ x0; have ha3 : Below w3.heap.size w3 (w3.alloc (.cells #[.int .i64 num, .int .i64 den] 32)) := below_alloc (Below.refl _ _) _; have KR3 := reads_cells (w := w3.alloc (.cells #[.int .i64 num, .int .i64 den] 32)) (g := gq) (l := l.reverse) (fun j hj => cell_later ha3 (cell_later hw3 (KR.out j hj))) hlr; rw [List.length_reverse] at KR3; have KRH := Lib.hid KR3; clear KR3)
        | (go_at_call_of 12 (Value.int IntKind.i64 m2); refine (HA2.out _ _ _ KRH.out hcq).mono ?_; rintro e w4 ⟨rfl, hw4⟩))
      have ha4 : Below w4.heap.size w4 (w4.alloc (.cells #[.int .i64 num, .int .i64 den] 32)) := below_alloc (Below.refl _ _) _
      have z0 := cell_later ha4 (cell_later hw4 (cell_later (below_alloc (Below.refl _ _) (.cells #[.int .i64 num, .int .i64 den] 32)) x0))
      have z1 := cell_later ha4 (cell_later hw4 (cell_later (below_alloc (Below.refl _ _) (.cells #[.int .i64 num, .int .i64 den] 32)) x1))
      have z2 := cell_later ha4 (cell_later hw4 (cell_later (below_alloc (Below.refl _ _) (.cells #[.int .i64 num, .int .i64 den] 32)) x2))
      have v0 := cell_later ha4 (cell_later hw4 (show (w3.alloc (.cells #[.int .i64 num, .int .i64 den] 32)).cell? ⟨w3.heap.size, 0, none⟩ = some (.int .i64 num) by go_simp))
      have v1 := cell_later ha4 (cell_later hw4 (show (w3.alloc (.cells #[.int .i64 num, .int .i64 den] 32)).cell? ⟨w3.heap.size, 1, none⟩ = some (.int .i64 den) by go_simp))
      have u0 : (w4.alloc (.cells #[.int .i64 num, .int .i64 den] 32)).cell? ⟨w4.heap.size, 0, none⟩ = some (.int .i64 num) := by go_simp
      have u1 : (w4.alloc (.cells #[.int .i64 num, .int .i64 den] 32)).cell? ⟨w4.heap.size, 1, none⟩ = some (.int .i64 den) := by go_simp
      have KFZ := Lib.hid (reads_cells (w := w4.alloc (.cells #[.int .i64 num, .int .i64 den] 32)) (g := g) (l := l) (fun j hj => cell_later ha4 (cell_later hw4 (cell_later (below_alloc (Below.refl _ _) (.cells #[.int .i64 num, .int .i64 den] 32)) (cell_later hw3 (KF.out j hj))))) hlen)
      have hBz : Below w.heap.size w (w4.alloc (.cells #[.int .i64 num, .int .i64 den] 32)) := below_alloc (below_step (below_alloc (below_step hBr hw3) _) hw4) _
      clear ha4 hw4 hw3 x0 x1 x2 y0 y1 y2 e0 e1 e2 c0 c1 c2 f0 f1 f2 hG hbel hBr KR KF KRH hB ho
      generalize w4.alloc (.cells #[.int .i64 num, .int .i64 den] 32) = wz at *
      go_wp2_with (go_at_call 15; refine (HM.out _ _ _ KFZ.out kcap).mono ?_; rintro e w5 ⟨rfl, hw5⟩)
      go_ret
      exact ⟨rfl, below_step hBz hw5⟩
end Go.Proofs.Ytignhpmfaodpjaa.WalkFlip
