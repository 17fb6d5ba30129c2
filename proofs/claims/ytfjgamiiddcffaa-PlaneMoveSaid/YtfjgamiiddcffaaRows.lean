/-
  No cell of these rows narrows 'for every input' (looked for: loops, veiled, ifaces, maps, wideKeys, modest, calm, conditions, laid).
  DERIVED. THE GIVEN ROWS OF THIS SEAT. 3 by the template 'for every input the law returns true; each argument reads behind the call as it read before'; 0 by the template 'total and deterministic' (their statements: YtfjgamiiddcffaaTotals.lean).
  GIVEN WITH THE SEED: the statements are not yours to turn. If you find one false, say at which input.
  Laid BY PROGRAM, IN A SANDBOX (cutbox-rows.mjs): the forced cells as the released guide's own fill.sh prints them over the translation 94966f8fe9cb2949… (all of the seat's roots in one cut). By AI agents, Wed Nov 11 2026. No macro, syntax, notation, axiom, sorry.
-/
import Derived.Test.YtfjgamiiddcffaaChecked
import GoSem.Claim
import GoSem.ClaimJoined
import GoSem.ClaimMapViews
import Derived.JoinedTies
import Derived.KernelRfl
namespace Go.Proofs.Ytfjgamiiddcffaa
/- THE CELL 'sum', in the pinned program and in every row, IS THE sha256 OF THE DUMP (.gsa) THAT YtfjgamiiddcffaaProg.lean LOADS. Nothing in Lean hashes anything: it is a label: what it is worth is what the hold of that sum in a sandbox is worth. -/
noncomputable def Try.pinned : Pinned := { name := "ytfjgamiiddcffaa", sum := "94966f8fe9cb2949a8d9175d3ce717df66b2afd0c572a367a9ce1a87baab0c18", checked := Try.checked }
namespace Rows
def none {H : Type} : Left H := { results := [], args := [] }

/-- 'punchcutlaw03.PlaneTurn': WHATEVER THE INPUT: true; the input reads as it did. -/
def planeTurnSpec : ChangeSpec := { name := "planeTurn", fn := fun _ => fun
  | [d1, d2, d3] => { results := [.lit (.bool true)], args := [d1, d2, d3] }
  | _ => none }
def planeTurnRow : OpenClaim := { program := "ytfjgamiiddcffaa", sum := "94966f8fe9cb2949a8d9175d3ce717df66b2afd0c572a367a9ce1a87baab0c18", func := "punchcut/punchcutlaw03.PlaneTurn", spec := "planeTurn", unfollowed := true, recurses := true, apart := false }
def PlaneTurnSaid : Prop := planeTurnRow.holds Try.pinned (OpenSpec.ofChange planeTurnSpec)

/-- ITS FALSE NEIGHBOUR: 'it returns false'. Refute it at one input. -/
def planeTurnWrong : ChangeSpec := { name := "planeTurn", fn := fun _ => fun
  | [d1, d2, d3] => { results := [.lit (.bool false)], args := [d1, d2, d3] }
  | _ => none }
def PlaneTurnWrongFalsely : Prop := planeTurnRow.holds Try.pinned (OpenSpec.ofChange planeTurnWrong)

/-- 'punchcutlaw03.PlaneMove': WHATEVER THE INPUT: true; the input reads as it did. -/
def planeMoveSpec : ChangeSpec := { name := "planeMove", fn := fun _ => fun
  | [d1, d2, d3, d4, d5] => { results := [.lit (.bool true)], args := [d1, d2, d3, d4, d5] }
  | _ => none }
def planeMoveRow : OpenClaim := { program := "ytfjgamiiddcffaa", sum := "94966f8fe9cb2949a8d9175d3ce717df66b2afd0c572a367a9ce1a87baab0c18", func := "punchcut/punchcutlaw03.PlaneMove", spec := "planeMove", unfollowed := true, recurses := true, apart := false }
def PlaneMoveSaid : Prop := planeMoveRow.holds Try.pinned (OpenSpec.ofChange planeMoveSpec)

/-- ITS FALSE NEIGHBOUR: 'it returns false'. Refute it at one input. -/
def planeMoveWrong : ChangeSpec := { name := "planeMove", fn := fun _ => fun
  | [d1, d2, d3, d4, d5] => { results := [.lit (.bool false)], args := [d1, d2, d3, d4, d5] }
  | _ => none }
def PlaneMoveWrongFalsely : Prop := planeMoveRow.holds Try.pinned (OpenSpec.ofChange planeMoveWrong)

/-- 'punchcutlaw03.PlaneZero': WHATEVER THE INPUT: true; the input reads as it did. -/
def planeZeroSpec : ChangeSpec := { name := "planeZero", fn := fun _ => fun
  | [d1, d2, d3] => { results := [.lit (.bool true)], args := [d1, d2, d3] }
  | _ => none }
def planeZeroRow : OpenClaim := { program := "ytfjgamiiddcffaa", sum := "94966f8fe9cb2949a8d9175d3ce717df66b2afd0c572a367a9ce1a87baab0c18", func := "punchcut/punchcutlaw03.PlaneZero", spec := "planeZero", apart := false }
def PlaneZeroSaid : Prop := planeZeroRow.holds Try.pinned (OpenSpec.ofChange planeZeroSpec)

/-- ITS FALSE NEIGHBOUR: 'it returns false'. Refute it at one input. -/
def planeZeroWrong : ChangeSpec := { name := "planeZero", fn := fun _ => fun
  | [d1, d2, d3] => { results := [.lit (.bool false)], args := [d1, d2, d3] }
  | _ => none }
def PlaneZeroWrongFalsely : Prop := planeZeroRow.holds Try.pinned (OpenSpec.ofChange planeZeroWrong)

/- THE SECOND FORM. 'bulk': how many values and letters a reading holds, each counted each time it is reached (what is shared counts as often as it is met; a slice's spare places count too). A statement '..UptoSaid' is the law's where the arguments, and the package variables that the reading takes, are together of bulk at most 1048576: NARROWER than '..Said'. Prove '..Said' where nothing that the law and all that it calls make is longer than what came in: it says more and counts as full. Else prove '..UptoSaid'. A law counts once. -/
mutual
def uptoBulk {H : Type} : DataW H → Nat
  | .lit (.string bytes) => bytes.length + 1
  | .lit _ => 1
  | .nil => 1
  | .ptr d => uptoBulk d + 1
  | .slice elems spare => uptoBulkAll elems + uptoBulkAll spare + 1
  | .agg parts => uptoBulkAll parts + 1
  | .iface _ d => uptoBulk d + 1
  | .map entries => uptoBulkEntries entries + 1
  | .held _ => 1
def uptoBulkAll {H : Type} : List (DataW H) → Nat
  | [] => 0
  | d :: r => uptoBulk d + uptoBulkAll r
def uptoBulkEntries {H : Type} : List (Lit × DataW H) → Nat
  | [] => 0
  | x :: r => uptoBulkEntry x + uptoBulkEntries r
def uptoBulkEntry {H : Type} : Lit × DataW H → Nat
  | (.string bytes, d) => bytes.length + uptoBulk d + 1
  | (_, d) => uptoBulk d + 1
 end
def uptoSmall : (H : Type) → List (DataW H) → Bool := fun _ ds => decide (uptoBulkAll ds ≤ 1048576)
def OpenSpec.upto (s : _root_.Go.ChangeSpec) : _root_.Go.OpenSpec := { _root_.Go.OpenSpec.ofChange s with cond := some uptoSmall }

/-- 'punchcutlaw03.PlaneTurn', WHERE WHAT IT READS IS OF BULK AT MOST 1048576: true; the input reads as it did. -/
def planeTurnUptoRow : OpenClaim := { program := "ytfjgamiiddcffaa", sum := "94966f8fe9cb2949a8d9175d3ce717df66b2afd0c572a367a9ce1a87baab0c18", func := "punchcut/punchcutlaw03.PlaneTurn", spec := "planeTurn", unfollowed := true, recurses := true, apart := false, narrowed := true }
def PlaneTurnUptoSaid : Prop := planeTurnUptoRow.holds Try.pinned (OpenSpec.upto planeTurnSpec)

/-- 'punchcutlaw03.PlaneMove', WHERE WHAT IT READS IS OF BULK AT MOST 1048576: true; the input reads as it did. -/
def planeMoveUptoRow : OpenClaim := { program := "ytfjgamiiddcffaa", sum := "94966f8fe9cb2949a8d9175d3ce717df66b2afd0c572a367a9ce1a87baab0c18", func := "punchcut/punchcutlaw03.PlaneMove", spec := "planeMove", unfollowed := true, recurses := true, apart := false, narrowed := true }
def PlaneMoveUptoSaid : Prop := planeMoveUptoRow.holds Try.pinned (OpenSpec.upto planeMoveSpec)

/-- 'punchcutlaw03.PlaneZero', WHERE WHAT IT READS IS OF BULK AT MOST 1048576: true; the input reads as it did. -/
def planeZeroUptoRow : OpenClaim := { program := "ytfjgamiiddcffaa", sum := "94966f8fe9cb2949a8d9175d3ce717df66b2afd0c572a367a9ce1a87baab0c18", func := "punchcut/punchcutlaw03.PlaneZero", spec := "planeZero", apart := false, narrowed := true }
def PlaneZeroUptoSaid : Prop := planeZeroUptoRow.holds Try.pinned (OpenSpec.upto planeZeroSpec)

end Rows
end Go.Proofs.Ytfjgamiiddcffaa
