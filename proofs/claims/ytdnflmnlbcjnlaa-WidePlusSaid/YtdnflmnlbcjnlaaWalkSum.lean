/- WidePlus's walk: a sum of pairs is what it is bit by bit. Conditions: as each states. -/
import Derived.Test.YtdnflmnlbcjnlaaWalkComp
import Derived.Test.YtdnflmnlbcjnlaaWalkPlus
import Derived.Deep.DeepCutAuto
namespace Go.Proofs.Ytdnflmnlbcjnlaa.WalkSum
open Go Go.RowKit Go.Lib Go.Proofs.Ytdnflmnlbcjnlaa.Glue Go.Proofs.YtdnflmnlbcjnlaaW.PrintWords Go.Proofs.YtdnflmnlbcjnlaaW.PrintLast Go.Proofs.YtdnflmnlbcjnlaaW.PrintMore Go.Proofs.Ytdnflmnlbcjnlaa.Core Go.Proofs.Ytdnflmnlbcjnlaa.PWideMul Go.Proofs.Ytdnflmnlbcjnlaa.Arr Go.Proofs.Ytdnflmnlbcjnlaa.Bits Go.Proofs.Ytdnflmnlbcjnlaa.Arr2 Go.Proofs.Ytdnflmnlbcjnlaa.Arr3 Go.Proofs.Ytdnflmnlbcjnlaa.Arr4 Go.Proofs.Ytdnflmnlbcjnlaa.WalkMul
set_option linter.unusedVariables false
set_option linter.unusedSimpArgs false
attribute [local go_sem ↓] Go.wp_at_zero Go.wp_at_succ
theorem keepA {W : World} {a : Addr} {v : Value} {o : Obj} (h : W.cell? a = some v) : (W.alloc o).cell? a = some v := cell_later ((Below.refl _ _).alloc (Nat.le_refl _) _) h
theorem keepC {W : World} {b : Nat} {vs : List Value} {a : Addr} {v : Value} (hn : ¬ a.block = b) (h : W.cell? a = some v) : (W.setCells b 0 vs).cell? a = some v := by
  rw [World.cell?_setCells_out b vs 0 W a (fun e _ => absurd e hn)]; exact h
theorem range_later {w w1 : World} {b : Nat} {cs : List Value} (hb : Below w.heap.size w w1) (h : w.rangeAt b 0 cs) : w1.rangeAt b 0 cs := fun j v hv => cell_later hb (h j v hv)
theorem range_drew {w : World} {b : Nat} {cs : List Value} (h : w.rangeAt b 0 cs) : w.drew.rangeAt b 0 cs := h
set_option maxHeartbeats 4000000 in
theorem sums (ph pl qh ql sh sl : Int) (o : Bool) (x y z : BitVec 128) (w : World)
    (HP : Hid (∀ w, Calls Try.prog 20 #[Value.agg #[Value.int IntKind.u64 ph, Value.int IntKind.u64 pl], Value.agg #[Value.int IntKind.u64 qh, Value.int IntKind.u64 ql]] w (Ret (.tuple #[Value.agg #[Value.int IntKind.u64 sh, Value.int IntKind.u64 sl], .bool o]) w)))
    (HX : Hid (∀ w, Calls Try.prog 11 #[Value.agg #[Value.int IntKind.u64 ph, Value.int IntKind.u64 pl]] w (Ret (.agg (bl x).toArray) w)))
    (HY : Hid (∀ w, Calls Try.prog 11 #[Value.agg #[Value.int IntKind.u64 qh, Value.int IntKind.u64 ql]] w (Ret (.agg (bl y).toArray) w)))
    (HZ : Hid (∀ w, Calls Try.prog 11 #[Value.agg #[Value.int IntKind.u64 sh, Value.int IntKind.u64 sl]] w (Ret (.agg (bl z).toArray) w)))
    (HS : Hid (∀ w, Calls Try.prog 21 #[Value.agg (bl x).toArray, Value.agg (bl y).toArray] w (Ret (.tuple #[.agg (bl z).toArray, .bool o]) w))) :
    Calls Try.prog 7 #[Value.agg #[Value.int IntKind.u64 ph, Value.int IntKind.u64 pl], Value.agg #[Value.int IntKind.u64 qh, Value.int IntKind.u64 ql]] w (Ret (.bool true) w) := by
  have hz := zero24
  have hq := eq24 z
  have hu := under24
  have hi : (Try.prog.info? 24).map (·.size) = some (bl z).length := by rw [bl_len]; exact size24
  have hl := bl_len z
  have h1 := bl_one z
  go_enter Try.func7, Try.ntmps7
  go_upto_region 4 with (first
    | (go_at_call 10; refine (awake_calls _).mono ?_; rintro e w1 ⟨rfl, hw1⟩; have k0 := cell_later hw1 (show ((w.alloc (.cells #[.int .u64 ph, .int .u64 pl] 27)).alloc (.cells #[.int .u64 qh, .int .u64 ql] 27)).cell? ⟨w.heap.size, 0, none⟩ = some (.int .u64 ph) by go_simp); have k1 := cell_later hw1 (show ((w.alloc (.cells #[.int .u64 ph, .int .u64 pl] 27)).alloc (.cells #[.int .u64 qh, .int .u64 ql] 27)).cell? ⟨w.heap.size, 1, none⟩ = some (.int .u64 pl) by go_simp); have k2 := cell_later hw1 (show ((w.alloc (.cells #[.int .u64 ph, .int .u64 pl] 27)).alloc (.cells #[.int .u64 qh, .int .u64 ql] 27)).cell? ⟨w.heap.size + 1, 0, none⟩ = some (.int .u64 qh) by go_simp); have k3 := cell_later hw1 (show ((w.alloc (.cells #[.int .u64 ph, .int .u64 pl] 27)).alloc (.cells #[.int .u64 qh, .int .u64 ql] 27)).cell? ⟨w.heap.size + 1, 1, none⟩ = some (.int .u64 ql) by go_simp); have hB : Below w.heap.size w w1 := below_step (below_alloc (below_alloc (Below.refl _ _) _) _) hw1; clear hw1)
    | (go_at_call 20; refine (HP.out _).mono ?_; rintro e w2 ⟨rfl, hw2⟩; have m0 := cell_later hw2 k0; have m1 := cell_later hw2 k1; have m2 := cell_later hw2 k2; have m3 := cell_later hw2 k3; have hB2 := below_step hB hw2; clear k0 k1 k2 k3 hB hw2))
  have hBb : Below w.heap.size w (w2.alloc (.cells #[.int .u64 sh, .int .u64 sl] 27)) := below_alloc hB2 _
  have q0 := keepA (o := .cells #[.int .u64 sh, .int .u64 sl] 27) m0
  have q1 := keepA (o := .cells #[.int .u64 sh, .int .u64 sl] 27) m1
  have q2 := keepA (o := .cells #[.int .u64 sh, .int .u64 sl] 27) m2
  have q3 := keepA (o := .cells #[.int .u64 sh, .int .u64 sl] 27) m3
  have q4 : (w2.alloc (.cells #[.int .u64 sh, .int .u64 sl] 27)).cell? ⟨w2.heap.size, 0, none⟩ = some (.int .u64 sh) := by go_simp
  have q5 : (w2.alloc (.cells #[.int .u64 sh, .int .u64 sl] 27)).cell? ⟨w2.heap.size, 1, none⟩ = some (.int .u64 sl) := by go_simp
  have hs1 : w.heap.size + 1 < w2.heap.size := World.block_lt_of_cell? _ _ m2
  have hs2 : w2.heap.size < (w2.alloc (.cells #[.int .u64 sh, .int .u64 sl] 27)).heap.size := World.block_lt_of_cell? _ _ q4
  clear m0 m1 m2 m3 hB2
  generalize w2.alloc (.cells #[.int .u64 sh, .int .u64 sl] 27) = wb at *
  go_cut [7, 8] (fun s7 s8 wr => ∃ g : Nat, s7 = .pointer (some ⟨g, 0, none⟩) ∧ s8 = .bool o ∧ wr.rangeAt g 0 (bl z) ∧ Below wb.heap.size wb wr)
  case first =>
    generalize hL : bl z = L at *
    go_region_held3 (fun w' => w'.cell? ⟨w.heap.size, 0, none⟩ = some (.int .u64 ph) ∧ w'.cell? ⟨w.heap.size, 1, none⟩ = some (.int .u64 pl) ∧ w'.cell? ⟨w.heap.size + 1, 0, none⟩ = some (.int .u64 qh) ∧ w'.cell? ⟨w.heap.size + 1, 1, none⟩ = some (.int .u64 ql) ∧ w'.cell? ⟨w2.heap.size, 0, none⟩ = some (.int .u64 sh) ∧ w'.cell? ⟨w2.heap.size, 1, none⟩ = some (.int .u64 sl))
      ((go_split_ands; (repeat' apply And.intro) <;> (repeat' (first | with_reducible assumption | with_reducible refine keepA ?_ | with_reducible refine keepD ?_ | with_reducible refine keepC ?_ ?_ | (dsimp only; omega)))))
      (first
        | (go_at_call_of 11 (#[Value.agg #[Value.int IntKind.u64 ph, Value.int IntKind.u64 pl]] : Array Value); refine (HX.out _).mono ?_; rintro e t1 ⟨rfl, hbq⟩; have Bt1 : Below wb.heap.size wb t1 := below_step (by (repeat' (first | with_reducible assumption | with_reducible exact Below.refl _ _ | with_reducible refine below_alloc ?_ _ | with_reducible refine below_drew1 ?_ | with_reducible refine below_set ?_ ?_ | omega))) hbq; have st1 := Bt1.size; have kt10 : t1.cell? ⟨w.heap.size, 0, none⟩ = some (.int .u64 ph) := cell_later hbq (by go_split_ands; assumption); have kt11 : t1.cell? ⟨w.heap.size, 1, none⟩ = some (.int .u64 pl) := cell_later hbq (by go_split_ands; assumption); have kt12 : t1.cell? ⟨w.heap.size + 1, 0, none⟩ = some (.int .u64 qh) := cell_later hbq (by go_split_ands; assumption); have kt13 : t1.cell? ⟨w.heap.size + 1, 1, none⟩ = some (.int .u64 ql) := cell_later hbq (by go_split_ands; assumption); have kt14 : t1.cell? ⟨w2.heap.size, 0, none⟩ = some (.int .u64 sh) := cell_later hbq (by go_split_ands; assumption); have kt15 : t1.cell? ⟨w2.heap.size, 1, none⟩ = some (.int .u64 sl) := cell_later hbq (by go_split_ands; assumption); have Nt1 : (t1.alloc (.cells (bl 0#128).toArray 24)).there t1.heap.size 0 128 := bits_there (bits_new rfl 0#128); (try (have Zt10 : Bits t1 (wb.heap.size) (0#128).getLsbD := (by first | (exact bits_later hbq (bits_new rfl 0#128)) | (exact bits_later (w := World.drew _) hbq (bits_new rfl 0#128)) | (refine bits_later hbq ?_; with_reducible assumption)); have Tt10 := bits_there Zt10; have Dt10 := bits_lt Zt10; have Et10 := Nat.ne_of_lt Dt10)))
        | (go_at_call_of 11 (#[Value.agg #[Value.int IntKind.u64 qh, Value.int IntKind.u64 ql]] : Array Value); refine (HY.out _).mono ?_; rintro e t2 ⟨rfl, hbq⟩; have Bt2 : Below wb.heap.size wb t2 := below_step (by (repeat' (first | with_reducible assumption | with_reducible exact Below.refl _ _ | with_reducible refine below_alloc ?_ _ | with_reducible refine below_drew1 ?_ | with_reducible refine below_set ?_ ?_ | omega))) hbq; have st2 := Bt2.size; have kt20 : t2.cell? ⟨w.heap.size, 0, none⟩ = some (.int .u64 ph) := cell_later hbq (by go_split_ands; assumption); have kt21 : t2.cell? ⟨w.heap.size, 1, none⟩ = some (.int .u64 pl) := cell_later hbq (by go_split_ands; assumption); have kt22 : t2.cell? ⟨w.heap.size + 1, 0, none⟩ = some (.int .u64 qh) := cell_later hbq (by go_split_ands; assumption); have kt23 : t2.cell? ⟨w.heap.size + 1, 1, none⟩ = some (.int .u64 ql) := cell_later hbq (by go_split_ands; assumption); have kt24 : t2.cell? ⟨w2.heap.size, 0, none⟩ = some (.int .u64 sh) := cell_later hbq (by go_split_ands; assumption); have kt25 : t2.cell? ⟨w2.heap.size, 1, none⟩ = some (.int .u64 sl) := cell_later hbq (by go_split_ands; assumption); have Nt2 : (t2.alloc (.cells (bl 0#128).toArray 24)).there t2.heap.size 0 128 := bits_there (bits_new rfl 0#128); (try (have Zt20 : Bits t2 (wb.heap.size) (0#128).getLsbD := (by first | (exact bits_later hbq (bits_new rfl 0#128)) | (exact bits_later (w := World.drew _) hbq (bits_new rfl 0#128)) | (refine bits_later hbq ?_; with_reducible assumption)); have Tt20 := bits_there Zt20; have Dt20 := bits_lt Zt20; have Et20 := Nat.ne_of_lt Dt20)); (try (have Zt21 : Bits t2 (t1.heap.size) (0#128).getLsbD := (by first | (exact bits_later hbq (bits_new rfl 0#128)) | (exact bits_later (w := World.drew _) hbq (bits_new rfl 0#128)) | (refine bits_later hbq ?_; with_reducible assumption)); have Tt21 := bits_there Zt21; have Dt21 := bits_lt Zt21; have Et21 := Nat.ne_of_lt Dt21)))
        | (go_at_call_of 21 (#[Value.agg (bl x).toArray, Value.agg (bl y).toArray] : Array Value); refine (HS.out _).mono ?_; rintro e t3 ⟨rfl, hbq⟩; have Bt3 : Below wb.heap.size wb t3 := below_step (by (repeat' (first | with_reducible assumption | with_reducible exact Below.refl _ _ | with_reducible refine below_alloc ?_ _ | with_reducible refine below_drew1 ?_ | with_reducible refine below_set ?_ ?_ | omega))) hbq; have st3 := Bt3.size; have kt30 : t3.cell? ⟨w.heap.size, 0, none⟩ = some (.int .u64 ph) := cell_later hbq (by go_split_ands; assumption); have kt31 : t3.cell? ⟨w.heap.size, 1, none⟩ = some (.int .u64 pl) := cell_later hbq (by go_split_ands; assumption); have kt32 : t3.cell? ⟨w.heap.size + 1, 0, none⟩ = some (.int .u64 qh) := cell_later hbq (by go_split_ands; assumption); have kt33 : t3.cell? ⟨w.heap.size + 1, 1, none⟩ = some (.int .u64 ql) := cell_later hbq (by go_split_ands; assumption); have kt34 : t3.cell? ⟨w2.heap.size, 0, none⟩ = some (.int .u64 sh) := cell_later hbq (by go_split_ands; assumption); have kt35 : t3.cell? ⟨w2.heap.size, 1, none⟩ = some (.int .u64 sl) := cell_later hbq (by go_split_ands; assumption); have Nt3 : (t3.alloc (.cells (bl 0#128).toArray 24)).there t3.heap.size 0 128 := bits_there (bits_new rfl 0#128); (try (have Zt30 : Bits t3 (wb.heap.size) (0#128).getLsbD := (by first | (exact bits_later hbq (bits_new rfl 0#128)) | (exact bits_later (w := World.drew _) hbq (bits_new rfl 0#128)) | (refine bits_later hbq ?_; with_reducible assumption)); have Tt30 := bits_there Zt30; have Dt30 := bits_lt Zt30; have Et30 := Nat.ne_of_lt Dt30)); (try (have Zt31 : Bits t3 (t1.heap.size) (0#128).getLsbD := (by first | (exact bits_later hbq (bits_new rfl 0#128)) | (exact bits_later (w := World.drew _) hbq (bits_new rfl 0#128)) | (refine bits_later hbq ?_; with_reducible assumption)); have Tt31 := bits_there Zt31; have Dt31 := bits_lt Zt31; have Et31 := Nat.ne_of_lt Dt31)); (try (have Zt32 : Bits t3 (t2.heap.size) (0#128).getLsbD := (by first | (exact bits_later hbq (bits_new rfl 0#128)) | (exact bits_later (w := World.drew _) hbq (bits_new rfl 0#128)) | (refine bits_later hbq ?_; with_reducible assumption)); have Tt32 := bits_there Zt32; have Dt32 := bits_lt Zt32; have Et32 := Nat.ne_of_lt Dt32))))
    all_goals (go_wp2_with fail; go_meet)
    all_goals
      refine ⟨_, rfl, rfl, ?_, below_setCells ?_ ?_ _ _⟩
      · refine World.rangeAt_setCells_same _ _ _ _ ?_
        rw [hl]; assumption
      · (repeat' (first | with_reducible assumption | with_reducible exact Below.refl _ _ | with_reducible refine below_alloc ?_ _ | with_reducible refine below_drew1 ?_ | with_reducible refine below_set ?_ ?_ | omega))
      · omega
  case rest =>
    obtain ⟨g, rfl, rfl, hR, hbr⟩ := hcut
    have r4 := cell_later hbr q4
    have r5 := cell_later hbr q5
    have hBc := below_step hBb hbr
    clear q0 q1 q2 q3 q4 q5 hbr hBb hs1 hs2
    go_upto_region 5 with fail
    generalize hL : bl z = L at *
    go_region_held3 (fun w' => w'.cell? ⟨w2.heap.size, 0, none⟩ = some (.int .u64 sh) ∧ w'.cell? ⟨w2.heap.size, 1, none⟩ = some (.int .u64 sl) ∧ w'.rangeAt g 0 L)
      ((go_split_ands; (repeat' apply And.intro) <;> (repeat' (first | with_reducible assumption | with_reducible refine keepD ?_ | with_reducible refine range_drew ?_ | (refine cell_later hbq ?_; assumption) | (refine range_later hbq ?_; assumption)))))
      (first
        | (go_at_call_of 11 (#[Value.agg #[Value.int IntKind.u64 sh, Value.int IntKind.u64 sl]] : Array Value); refine (HZ.out _).mono ?_; rintro e t5 ⟨rfl, hbq⟩; have Bt5 : Below wc.heap.size wc t5 := below_step (by (repeat' (first | with_reducible assumption | with_reducible exact Below.refl _ _ | with_reducible refine below_alloc ?_ _ | with_reducible refine below_drew1 ?_ | with_reducible refine below_set ?_ ?_ | omega))) hbq))
    go_wp2_with fail
    go_ret
    exact ⟨rfl, below_step hBc (by assumption)⟩
theorem bits_add (x y : BitVec 128) : x + y = BitVec.ofNat 128 (x.toNat + y.toNat) := by
  apply BitVec.eq_of_toNat_eq; rw [BitVec.toNat_add, BitVec.toNat_ofNat]
theorem walk (ph pl qh ql : Int) (w : World) (wa : (Lit.int .u64 ph).wf = true) (wb : (Lit.int .u64 pl).wf = true) (wc : (Lit.int .u64 qh).wf = true) (wd : (Lit.int .u64 ql).wf = true) :
    Calls Try.prog 7 #[.agg #[.int .u64 ph, .int .u64 pl], .agg #[.int .u64 qh, .int .u64 ql]] w (Ret (.bool true) w) := by
  have ha := bounds_u64 wa
  have hb := bounds_u64 wb
  have hc := bounds_u64 wc
  have hd := bounds_u64 wd
  have es : pv ph pl + pv qh ql = pv (WalkPlus.hi ph pl qh ql) (WalkPlus.lo pl ql) := by
    rw [bits_add, WalkComp.pv_toNat (by omega) (by omega) (by omega) (by omega), WalkComp.pv_toNat (by omega) (by omega) (by omega) (by omega)]
    unfold pv WalkPlus.hi WalkPlus.lo
    apply BitVec.eq_of_toNat_eq
    rw [BitVec.toNat_ofNat, BitVec.toNat_ofNat]
    omega
  have eo : BitVec.carry 128 (pv ph pl) (pv qh ql) false = WalkPlus.over ph pl qh ql := by
    unfold BitVec.carry WalkPlus.over
    rw [WalkComp.pv_toNat (by omega) (by omega) (by omega) (by omega), WalkComp.pv_toNat (by omega) (by omega) (by omega) (by omega)]
    rw [decide_eq_decide]
    simp only [Bool.toNat_false]
    omega
  have hP := fun w => WalkPlus.plus_calls ph pl qh ql w (by omega) (by omega) (by omega) (by omega) (by omega) (by omega) (by omega) (by omega)
  have hS := fun w => plus (pv ph pl) (pv qh ql) w
  rw [es, eo] at hS
  exact sums ph pl qh ql _ _ _ _ _ _ w (hid hP) (hid fun w => Arr3.bits ph pl w (by omega) (by omega) (by omega) (by omega)) (hid fun w => Arr3.bits qh ql w (by omega) (by omega) (by omega) (by omega))
    (hid fun w => Arr3.bits _ _ w (by unfold WalkPlus.hi; omega) (by unfold WalkPlus.hi; omega) (by unfold WalkPlus.lo; omega) (by unfold WalkPlus.lo; omega)) (hid hS)
end Go.Proofs.Ytdnflmnlbcjnlaa.WalkSum
