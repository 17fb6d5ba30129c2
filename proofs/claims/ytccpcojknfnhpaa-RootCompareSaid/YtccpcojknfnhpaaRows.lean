/-
  No cell of these rows narrows 'for every input' (looked for: loops, veiled, ifaces, maps, wideKeys, modest, calm, conditions, laid).
  DERIVED. THE GIVEN ROWS OF THIS SEAT. 7 by the template 'for every input the law returns true; each argument reads behind the call as it read before'; 0 by the template 'total and deterministic' (their statements: YtccpcojknfnhpaaTotals.lean).
  GIVEN WITH THE SEED: the statements are not yours to turn. If you find one false, say at which input.
  Laid BY PROGRAM, IN A SANDBOX (cutbox-rows.mjs): the forced cells as the released guide's own fill.sh prints them over the translation 8b19f8258b030ca7… (all of the seat's roots in one cut). By AI agents, Wed Nov 11 2026. No macro, syntax, notation, axiom, sorry.
-/
import Derived.Test.YtccpcojknfnhpaaChecked
import GoSem.Claim
import GoSem.ClaimJoined
import GoSem.ClaimMapViews
import Derived.JoinedTies
import Derived.KernelRfl
namespace Go.Proofs.Ytccpcojknfnhpaa
/- THE CELL 'sum', in the pinned program and in every row, IS THE sha256 OF THE DUMP (.gsa) THAT YtccpcojknfnhpaaProg.lean LOADS. Nothing in Lean hashes anything: it is a label: what it is worth is what the hold of that sum in a sandbox is worth. -/
noncomputable def Try.pinned : Pinned := { name := "ytccpcojknfnhpaa", sum := "8b19f8258b030ca7c9fd305f717321730f31e82b05c56f4468e40ed82e06d5e6", checked := Try.checked }
namespace Rows
def none {H : Type} : Left H := { results := [], args := [] }

/-- 'punchcutlaw02.RootSqrt': WHATEVER THE INPUT: true; the input reads as it did. -/
def rootSqrtSpec : ChangeSpec := { name := "rootSqrt", fn := fun _ => fun
  | [d1, d2] => { results := [.lit (.bool true)], args := [d1, d2] }
  | _ => none }
def rootSqrtRow : OpenClaim := { program := "ytccpcojknfnhpaa", sum := "8b19f8258b030ca7c9fd305f717321730f31e82b05c56f4468e40ed82e06d5e6", func := "punchcut/punchcutlaw02.RootSqrt", spec := "rootSqrt", apart := false }
def RootSqrtSaid : Prop := rootSqrtRow.holds Try.pinned (OpenSpec.ofChange rootSqrtSpec)

/-- ITS FALSE NEIGHBOUR: 'it returns false'. Refute it at one input. -/
def rootSqrtWrong : ChangeSpec := { name := "rootSqrt", fn := fun _ => fun
  | [d1, d2] => { results := [.lit (.bool false)], args := [d1, d2] }
  | _ => none }
def RootSqrtWrongFalsely : Prop := rootSqrtRow.holds Try.pinned (OpenSpec.ofChange rootSqrtWrong)

/-- 'punchcutlaw02.RootScaled': WHATEVER THE INPUT: true; the input reads as it did. -/
def rootScaledSpec : ChangeSpec := { name := "rootScaled", fn := fun _ => fun
  | [d1, d2, d3] => { results := [.lit (.bool true)], args := [d1, d2, d3] }
  | _ => none }
def rootScaledRow : OpenClaim := { program := "ytccpcojknfnhpaa", sum := "8b19f8258b030ca7c9fd305f717321730f31e82b05c56f4468e40ed82e06d5e6", func := "punchcut/punchcutlaw02.RootScaled", spec := "rootScaled", apart := false }
def RootScaledSaid : Prop := rootScaledRow.holds Try.pinned (OpenSpec.ofChange rootScaledSpec)

/-- ITS FALSE NEIGHBOUR: 'it returns false'. Refute it at one input. -/
def rootScaledWrong : ChangeSpec := { name := "rootScaled", fn := fun _ => fun
  | [d1, d2, d3] => { results := [.lit (.bool false)], args := [d1, d2, d3] }
  | _ => none }
def RootScaledWrongFalsely : Prop := rootScaledRow.holds Try.pinned (OpenSpec.ofChange rootScaledWrong)

/-- 'punchcutlaw02.RootFloor': WHATEVER THE INPUT: true; the input reads as it did. -/
def rootFloorSpec : ChangeSpec := { name := "rootFloor", fn := fun _ => fun
  | [d1, d2] => { results := [.lit (.bool true)], args := [d1, d2] }
  | _ => none }
def rootFloorRow : OpenClaim := { program := "ytccpcojknfnhpaa", sum := "8b19f8258b030ca7c9fd305f717321730f31e82b05c56f4468e40ed82e06d5e6", func := "punchcut/punchcutlaw02.RootFloor", spec := "rootFloor", apart := false }
def RootFloorSaid : Prop := rootFloorRow.holds Try.pinned (OpenSpec.ofChange rootFloorSpec)

/-- ITS FALSE NEIGHBOUR: 'it returns false'. Refute it at one input. -/
def rootFloorWrong : ChangeSpec := { name := "rootFloor", fn := fun _ => fun
  | [d1, d2] => { results := [.lit (.bool false)], args := [d1, d2] }
  | _ => none }
def RootFloorWrongFalsely : Prop := rootFloorRow.holds Try.pinned (OpenSpec.ofChange rootFloorWrong)

/-- 'punchcutlaw02.RootRises': WHATEVER THE INPUT: true; the input reads as it did. -/
def rootRisesSpec : ChangeSpec := { name := "rootRises", fn := fun _ => fun
  | [d1, d2] => { results := [.lit (.bool true)], args := [d1, d2] }
  | _ => none }
def rootRisesRow : OpenClaim := { program := "ytccpcojknfnhpaa", sum := "8b19f8258b030ca7c9fd305f717321730f31e82b05c56f4468e40ed82e06d5e6", func := "punchcut/punchcutlaw02.RootRises", spec := "rootRises", apart := false }
def RootRisesSaid : Prop := rootRisesRow.holds Try.pinned (OpenSpec.ofChange rootRisesSpec)

/-- ITS FALSE NEIGHBOUR: 'it returns false'. Refute it at one input. -/
def rootRisesWrong : ChangeSpec := { name := "rootRises", fn := fun _ => fun
  | [d1, d2] => { results := [.lit (.bool false)], args := [d1, d2] }
  | _ => none }
def RootRisesWrongFalsely : Prop := rootRisesRow.holds Try.pinned (OpenSpec.ofChange rootRisesWrong)

/-- 'punchcutlaw02.RootWhole': WHATEVER THE INPUT: true; the input reads as it did. -/
def rootWholeSpec : ChangeSpec := { name := "rootWhole", fn := fun _ => fun
  | [d1, d2, d3] => { results := [.lit (.bool true)], args := [d1, d2, d3] }
  | _ => none }
def rootWholeRow : OpenClaim := { program := "ytccpcojknfnhpaa", sum := "8b19f8258b030ca7c9fd305f717321730f31e82b05c56f4468e40ed82e06d5e6", func := "punchcut/punchcutlaw02.RootWhole", spec := "rootWhole", apart := false }
def RootWholeSaid : Prop := rootWholeRow.holds Try.pinned (OpenSpec.ofChange rootWholeSpec)

/-- ITS FALSE NEIGHBOUR: 'it returns false'. Refute it at one input. -/
def rootWholeWrong : ChangeSpec := { name := "rootWhole", fn := fun _ => fun
  | [d1, d2, d3] => { results := [.lit (.bool false)], args := [d1, d2, d3] }
  | _ => none }
def RootWholeWrongFalsely : Prop := rootWholeRow.holds Try.pinned (OpenSpec.ofChange rootWholeWrong)

/-- 'punchcutlaw02.RootOf': WHATEVER THE INPUT: true; the input reads as it did. -/
def rootOfSpec : ChangeSpec := { name := "rootOf", fn := fun _ => fun
  | [d1, d2] => { results := [.lit (.bool true)], args := [d1, d2] }
  | _ => none }
def rootOfRow : OpenClaim := { program := "ytccpcojknfnhpaa", sum := "8b19f8258b030ca7c9fd305f717321730f31e82b05c56f4468e40ed82e06d5e6", func := "punchcut/punchcutlaw02.RootOf", spec := "rootOf", apart := false }
def RootOfSaid : Prop := rootOfRow.holds Try.pinned (OpenSpec.ofChange rootOfSpec)

/-- ITS FALSE NEIGHBOUR: 'it returns false'. Refute it at one input. -/
def rootOfWrong : ChangeSpec := { name := "rootOf", fn := fun _ => fun
  | [d1, d2] => { results := [.lit (.bool false)], args := [d1, d2] }
  | _ => none }
def RootOfWrongFalsely : Prop := rootOfRow.holds Try.pinned (OpenSpec.ofChange rootOfWrong)

/-- 'punchcutlaw02.RootCompare': WHATEVER THE INPUT: true; the input reads as it did. -/
def rootCompareSpec : ChangeSpec := { name := "rootCompare", fn := fun _ => fun
  | [d1, d2, d3, d4, d5] => { results := [.lit (.bool true)], args := [d1, d2, d3, d4, d5] }
  | _ => none }
def rootCompareRow : OpenClaim := { program := "ytccpcojknfnhpaa", sum := "8b19f8258b030ca7c9fd305f717321730f31e82b05c56f4468e40ed82e06d5e6", func := "punchcut/punchcutlaw02.RootCompare", spec := "rootCompare", apart := false }
def RootCompareSaid : Prop := rootCompareRow.holds Try.pinned (OpenSpec.ofChange rootCompareSpec)

/-- ITS FALSE NEIGHBOUR: 'it returns false'. Refute it at one input. -/
def rootCompareWrong : ChangeSpec := { name := "rootCompare", fn := fun _ => fun
  | [d1, d2, d3, d4, d5] => { results := [.lit (.bool false)], args := [d1, d2, d3, d4, d5] }
  | _ => none }
def RootCompareWrongFalsely : Prop := rootCompareRow.holds Try.pinned (OpenSpec.ofChange rootCompareWrong)

/- THE SECOND FORM. 'bulk': how many values and letters a reading holds, each counted each time it is reached (what is shared counts as often as it is met; a slice's spare places count too). A statement '..UptoSaid' is the law's where the arguments, and the package variables that the reading takes, are together of bulk at most 1048576: NARROWER than '..Said'. Prove '..Said' where nothing that the law and all that it calls make is longer than what came in: it says more and counts as full. Else prove '..UptoSaid'. A law counts once. -/
mutual
def uptoBulk {H : Type} : DataW H → Nat
  | .lit (.string bytes) => bytes.length + 1
  | .lit _ => 1
  | .nil => 1
  | .ptr d => uptoBulk d + 1
  | .slice elems spare => uptoBulkAll elems + uptoBulkAll spare + 1
  | .agg parts => uptoBulkAll parts + 1
  | .iface _ d => uptoBulk d + 1
  | .map entries => uptoBulkEntries entries + 1
  | .held _ => 1
def uptoBulkAll {H : Type} : List (DataW H) → Nat
  | [] => 0
  | d :: r => uptoBulk d + uptoBulkAll r
def uptoBulkEntries {H : Type} : List (Lit × DataW H) → Nat
  | [] => 0
  | x :: r => uptoBulkEntry x + uptoBulkEntries r
def uptoBulkEntry {H : Type} : Lit × DataW H → Nat
  | (.string bytes, d) => bytes.length + uptoBulk d + 1
  | (_, d) => uptoBulk d + 1
 end
def uptoSmall : (H : Type) → List (DataW H) → Bool := fun _ ds => decide (uptoBulkAll ds ≤ 1048576)
def OpenSpec.upto (s : _root_.Go.ChangeSpec) : _root_.Go.OpenSpec := { _root_.Go.OpenSpec.ofChange s with cond := some uptoSmall }

/-- 'punchcutlaw02.RootSqrt', WHERE WHAT IT READS IS OF BULK AT MOST 1048576: true; the input reads as it did. -/
def rootSqrtUptoRow : OpenClaim := { program := "ytccpcojknfnhpaa", sum := "8b19f8258b030ca7c9fd305f717321730f31e82b05c56f4468e40ed82e06d5e6", func := "punchcut/punchcutlaw02.RootSqrt", spec := "rootSqrt", apart := false, narrowed := true }
def RootSqrtUptoSaid : Prop := rootSqrtUptoRow.holds Try.pinned (OpenSpec.upto rootSqrtSpec)

/-- 'punchcutlaw02.RootScaled', WHERE WHAT IT READS IS OF BULK AT MOST 1048576: true; the input reads as it did. -/
def rootScaledUptoRow : OpenClaim := { program := "ytccpcojknfnhpaa", sum := "8b19f8258b030ca7c9fd305f717321730f31e82b05c56f4468e40ed82e06d5e6", func := "punchcut/punchcutlaw02.RootScaled", spec := "rootScaled", apart := false, narrowed := true }
def RootScaledUptoSaid : Prop := rootScaledUptoRow.holds Try.pinned (OpenSpec.upto rootScaledSpec)

/-- 'punchcutlaw02.RootFloor', WHERE WHAT IT READS IS OF BULK AT MOST 1048576: true; the input reads as it did. -/
def rootFloorUptoRow : OpenClaim := { program := "ytccpcojknfnhpaa", sum := "8b19f8258b030ca7c9fd305f717321730f31e82b05c56f4468e40ed82e06d5e6", func := "punchcut/punchcutlaw02.RootFloor", spec := "rootFloor", apart := false, narrowed := true }
def RootFloorUptoSaid : Prop := rootFloorUptoRow.holds Try.pinned (OpenSpec.upto rootFloorSpec)

/-- 'punchcutlaw02.RootRises', WHERE WHAT IT READS IS OF BULK AT MOST 1048576: true; the input reads as it did. -/
def rootRisesUptoRow : OpenClaim := { program := "ytccpcojknfnhpaa", sum := "8b19f8258b030ca7c9fd305f717321730f31e82b05c56f4468e40ed82e06d5e6", func := "punchcut/punchcutlaw02.RootRises", spec := "rootRises", apart := false, narrowed := true }
def RootRisesUptoSaid : Prop := rootRisesUptoRow.holds Try.pinned (OpenSpec.upto rootRisesSpec)

/-- 'punchcutlaw02.RootWhole', WHERE WHAT IT READS IS OF BULK AT MOST 1048576: true; the input reads as it did. -/
def rootWholeUptoRow : OpenClaim := { program := "ytccpcojknfnhpaa", sum := "8b19f8258b030ca7c9fd305f717321730f31e82b05c56f4468e40ed82e06d5e6", func := "punchcut/punchcutlaw02.RootWhole", spec := "rootWhole", apart := false, narrowed := true }
def RootWholeUptoSaid : Prop := rootWholeUptoRow.holds Try.pinned (OpenSpec.upto rootWholeSpec)

/-- 'punchcutlaw02.RootOf', WHERE WHAT IT READS IS OF BULK AT MOST 1048576: true; the input reads as it did. -/
def rootOfUptoRow : OpenClaim := { program := "ytccpcojknfnhpaa", sum := "8b19f8258b030ca7c9fd305f717321730f31e82b05c56f4468e40ed82e06d5e6", func := "punchcut/punchcutlaw02.RootOf", spec := "rootOf", apart := false, narrowed := true }
def RootOfUptoSaid : Prop := rootOfUptoRow.holds Try.pinned (OpenSpec.upto rootOfSpec)

/-- 'punchcutlaw02.RootCompare', WHERE WHAT IT READS IS OF BULK AT MOST 1048576: true; the input reads as it did. -/
def rootCompareUptoRow : OpenClaim := { program := "ytccpcojknfnhpaa", sum := "8b19f8258b030ca7c9fd305f717321730f31e82b05c56f4468e40ed82e06d5e6", func := "punchcut/punchcutlaw02.RootCompare", spec := "rootCompare", apart := false, narrowed := true }
def RootCompareUptoSaid : Prop := rootCompareUptoRow.holds Try.pinned (OpenSpec.upto rootCompareSpec)

end Rows
end Go.Proofs.Ytccpcojknfnhpaa
