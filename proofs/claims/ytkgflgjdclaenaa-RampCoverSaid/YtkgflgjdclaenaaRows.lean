/-
  No cell of these rows narrows 'for every input' (looked for: loops, veiled, ifaces, maps, wideKeys, modest, calm, conditions, laid).
  DERIVED. THE GIVEN ROWS OF THIS SEAT. 6 by the template 'for every input the law returns true; each argument reads behind the call as it read before'; 0 by the template 'total and deterministic' (their statements: YtkgflgjdclaenaaTotals.lean).
  GIVEN WITH THE SEED: the statements are not yours to turn. If you find one false, say at which input.
  Laid BY PROGRAM, IN A SANDBOX (cutbox-rows.mjs): the forced cells as the released guide's own fill.sh prints them over the translation 1f21ff020ace84c3… (all of the seat's roots in one cut). By AI agents, Wed Nov 11 2026. No macro, syntax, notation, axiom, sorry.
-/
import Derived.Test.YtkgflgjdclaenaaChecked
import GoSem.Claim
import GoSem.ClaimJoined
import GoSem.ClaimMapViews
import Derived.JoinedTies
import Derived.KernelRfl
namespace Go.Proofs.Ytkgflgjdclaenaa
/- THE CELL 'sum', in the pinned program and in every row, IS THE sha256 OF THE DUMP (.gsa) THAT YtkgflgjdclaenaaProg.lean LOADS. Nothing in Lean hashes anything: it is a label: what it is worth is what the hold of that sum in a sandbox is worth. -/
noncomputable def Try.pinned : Pinned := { name := "ytkgflgjdclaenaa", sum := "1f21ff020ace84c3d36a50e145c337f343a282885a7231b489ef4ef0f100c10d", checked := Try.checked }
namespace Rows
def none {H : Type} : Left H := { results := [], args := [] }

/-- 'punchcutlaw18.RampBlend': WHATEVER THE INPUT: true; the input reads as it did. -/
def rampBlendSpec : ChangeSpec := { name := "rampBlend", fn := fun _ => fun
  | [d1, d2, d3] => { results := [.lit (.bool true)], args := [d1, d2, d3] }
  | _ => none }
def rampBlendRow : OpenClaim := { program := "ytkgflgjdclaenaa", sum := "1f21ff020ace84c3d36a50e145c337f343a282885a7231b489ef4ef0f100c10d", func := "punchcut/punchcutlaw18.RampBlend", spec := "rampBlend", apart := false }
def RampBlendSaid : Prop := rampBlendRow.holds Try.pinned (OpenSpec.ofChange rampBlendSpec)

/-- ITS FALSE NEIGHBOUR: 'it returns false'. Refute it at one input. -/
def rampBlendWrong : ChangeSpec := { name := "rampBlend", fn := fun _ => fun
  | [d1, d2, d3] => { results := [.lit (.bool false)], args := [d1, d2, d3] }
  | _ => none }
def RampBlendWrongFalsely : Prop := rampBlendRow.holds Try.pinned (OpenSpec.ofChange rampBlendWrong)

/-- 'punchcutlaw18.RampEnds': WHATEVER THE INPUT: true; the input reads as it did. -/
def rampEndsSpec : ChangeSpec := { name := "rampEnds", fn := fun _ => fun
  | [d1, d2, d3] => { results := [.lit (.bool true)], args := [d1, d2, d3] }
  | _ => none }
def rampEndsRow : OpenClaim := { program := "ytkgflgjdclaenaa", sum := "1f21ff020ace84c3d36a50e145c337f343a282885a7231b489ef4ef0f100c10d", func := "punchcut/punchcutlaw18.RampEnds", spec := "rampEnds", apart := false }
def RampEndsSaid : Prop := rampEndsRow.holds Try.pinned (OpenSpec.ofChange rampEndsSpec)

/-- ITS FALSE NEIGHBOUR: 'it returns false'. Refute it at one input. -/
def rampEndsWrong : ChangeSpec := { name := "rampEnds", fn := fun _ => fun
  | [d1, d2, d3] => { results := [.lit (.bool false)], args := [d1, d2, d3] }
  | _ => none }
def RampEndsWrongFalsely : Prop := rampEndsRow.holds Try.pinned (OpenSpec.ofChange rampEndsWrong)

/-- 'punchcutlaw18.RampLevel': WHATEVER THE INPUT: true; the input reads as it did. -/
def rampLevelSpec : ChangeSpec := { name := "rampLevel", fn := fun _ => fun
  | [d1, d2, d3, d4] => { results := [.lit (.bool true)], args := [d1, d2, d3, d4] }
  | _ => none }
def rampLevelRow : OpenClaim := { program := "ytkgflgjdclaenaa", sum := "1f21ff020ace84c3d36a50e145c337f343a282885a7231b489ef4ef0f100c10d", func := "punchcut/punchcutlaw18.RampLevel", spec := "rampLevel", apart := false }
def RampLevelSaid : Prop := rampLevelRow.holds Try.pinned (OpenSpec.ofChange rampLevelSpec)

/-- ITS FALSE NEIGHBOUR: 'it returns false'. Refute it at one input. -/
def rampLevelWrong : ChangeSpec := { name := "rampLevel", fn := fun _ => fun
  | [d1, d2, d3, d4] => { results := [.lit (.bool false)], args := [d1, d2, d3, d4] }
  | _ => none }
def RampLevelWrongFalsely : Prop := rampLevelRow.holds Try.pinned (OpenSpec.ofChange rampLevelWrong)

/-- 'punchcutlaw18.RampCover': WHATEVER THE INPUT: true; the input reads as it did. -/
def rampCoverSpec : ChangeSpec := { name := "rampCover", fn := fun _ => fun
  | [d1, d2, d3, d4] => { results := [.lit (.bool true)], args := [d1, d2, d3, d4] }
  | _ => none }
def rampCoverRow : OpenClaim := { program := "ytkgflgjdclaenaa", sum := "1f21ff020ace84c3d36a50e145c337f343a282885a7231b489ef4ef0f100c10d", func := "punchcut/punchcutlaw18.RampCover", spec := "rampCover", apart := false }
def RampCoverSaid : Prop := rampCoverRow.holds Try.pinned (OpenSpec.ofChange rampCoverSpec)

/-- ITS FALSE NEIGHBOUR: 'it returns false'. Refute it at one input. -/
def rampCoverWrong : ChangeSpec := { name := "rampCover", fn := fun _ => fun
  | [d1, d2, d3, d4] => { results := [.lit (.bool false)], args := [d1, d2, d3, d4] }
  | _ => none }
def RampCoverWrongFalsely : Prop := rampCoverRow.holds Try.pinned (OpenSpec.ofChange rampCoverWrong)

/-- 'punchcutlaw18.RampRises': WHATEVER THE INPUT: true; the input reads as it did. -/
def rampRisesSpec : ChangeSpec := { name := "rampRises", fn := fun _ => fun
  | [d1, d2, d3, d4, d5] => { results := [.lit (.bool true)], args := [d1, d2, d3, d4, d5] }
  | _ => none }
def rampRisesRow : OpenClaim := { program := "ytkgflgjdclaenaa", sum := "1f21ff020ace84c3d36a50e145c337f343a282885a7231b489ef4ef0f100c10d", func := "punchcut/punchcutlaw18.RampRises", spec := "rampRises", apart := false }
def RampRisesSaid : Prop := rampRisesRow.holds Try.pinned (OpenSpec.ofChange rampRisesSpec)

/-- ITS FALSE NEIGHBOUR: 'it returns false'. Refute it at one input. -/
def rampRisesWrong : ChangeSpec := { name := "rampRises", fn := fun _ => fun
  | [d1, d2, d3, d4, d5] => { results := [.lit (.bool false)], args := [d1, d2, d3, d4, d5] }
  | _ => none }
def RampRisesWrongFalsely : Prop := rampRisesRow.holds Try.pinned (OpenSpec.ofChange rampRisesWrong)

/-- 'punchcutlaw18.RampAway': WHATEVER THE INPUT: true; the input reads as it did. -/
def rampAwaySpec : ChangeSpec := { name := "rampAway", fn := fun _ => fun
  | [d1, d2, d3, d4, d5] => { results := [.lit (.bool true)], args := [d1, d2, d3, d4, d5] }
  | _ => none }
def rampAwayRow : OpenClaim := { program := "ytkgflgjdclaenaa", sum := "1f21ff020ace84c3d36a50e145c337f343a282885a7231b489ef4ef0f100c10d", func := "punchcut/punchcutlaw18.RampAway", spec := "rampAway", apart := false }
def RampAwaySaid : Prop := rampAwayRow.holds Try.pinned (OpenSpec.ofChange rampAwaySpec)

/-- ITS FALSE NEIGHBOUR: 'it returns false'. Refute it at one input. -/
def rampAwayWrong : ChangeSpec := { name := "rampAway", fn := fun _ => fun
  | [d1, d2, d3, d4, d5] => { results := [.lit (.bool false)], args := [d1, d2, d3, d4, d5] }
  | _ => none }
def RampAwayWrongFalsely : Prop := rampAwayRow.holds Try.pinned (OpenSpec.ofChange rampAwayWrong)

/- THE SECOND FORM. 'bulk': how many values and letters a reading holds, each counted each time it is reached (what is shared counts as often as it is met; a slice's spare places count too). A statement '..UptoSaid' is the law's where the arguments, and the package variables that the reading takes, are together of bulk at most 1048576: NARROWER than '..Said'. Prove '..Said' where nothing that the law and all that it calls make is longer than what came in: it says more and counts as full. Else prove '..UptoSaid'. A law counts once. -/
mutual
def uptoBulk {H : Type} : DataW H → Nat
  | .lit (.string bytes) => bytes.length + 1
  | .lit _ => 1
  | .nil => 1
  | .ptr d => uptoBulk d + 1
  | .slice elems spare => uptoBulkAll elems + uptoBulkAll spare + 1
  | .agg parts => uptoBulkAll parts + 1
  | .iface _ d => uptoBulk d + 1
  | .map entries => uptoBulkEntries entries + 1
  | .held _ => 1
def uptoBulkAll {H : Type} : List (DataW H) → Nat
  | [] => 0
  | d :: r => uptoBulk d + uptoBulkAll r
def uptoBulkEntries {H : Type} : List (Lit × DataW H) → Nat
  | [] => 0
  | x :: r => uptoBulkEntry x + uptoBulkEntries r
def uptoBulkEntry {H : Type} : Lit × DataW H → Nat
  | (.string bytes, d) => bytes.length + uptoBulk d + 1
  | (_, d) => uptoBulk d + 1
 end
def uptoSmall : (H : Type) → List (DataW H) → Bool := fun _ ds => decide (uptoBulkAll ds ≤ 1048576)
def OpenSpec.upto (s : _root_.Go.ChangeSpec) : _root_.Go.OpenSpec := { _root_.Go.OpenSpec.ofChange s with cond := some uptoSmall }

/-- 'punchcutlaw18.RampBlend', WHERE WHAT IT READS IS OF BULK AT MOST 1048576: true; the input reads as it did. -/
def rampBlendUptoRow : OpenClaim := { program := "ytkgflgjdclaenaa", sum := "1f21ff020ace84c3d36a50e145c337f343a282885a7231b489ef4ef0f100c10d", func := "punchcut/punchcutlaw18.RampBlend", spec := "rampBlend", apart := false, narrowed := true }
def RampBlendUptoSaid : Prop := rampBlendUptoRow.holds Try.pinned (OpenSpec.upto rampBlendSpec)

/-- 'punchcutlaw18.RampEnds', WHERE WHAT IT READS IS OF BULK AT MOST 1048576: true; the input reads as it did. -/
def rampEndsUptoRow : OpenClaim := { program := "ytkgflgjdclaenaa", sum := "1f21ff020ace84c3d36a50e145c337f343a282885a7231b489ef4ef0f100c10d", func := "punchcut/punchcutlaw18.RampEnds", spec := "rampEnds", apart := false, narrowed := true }
def RampEndsUptoSaid : Prop := rampEndsUptoRow.holds Try.pinned (OpenSpec.upto rampEndsSpec)

/-- 'punchcutlaw18.RampLevel', WHERE WHAT IT READS IS OF BULK AT MOST 1048576: true; the input reads as it did. -/
def rampLevelUptoRow : OpenClaim := { program := "ytkgflgjdclaenaa", sum := "1f21ff020ace84c3d36a50e145c337f343a282885a7231b489ef4ef0f100c10d", func := "punchcut/punchcutlaw18.RampLevel", spec := "rampLevel", apart := false, narrowed := true }
def RampLevelUptoSaid : Prop := rampLevelUptoRow.holds Try.pinned (OpenSpec.upto rampLevelSpec)

/-- 'punchcutlaw18.RampCover', WHERE WHAT IT READS IS OF BULK AT MOST 1048576: true; the input reads as it did. -/
def rampCoverUptoRow : OpenClaim := { program := "ytkgflgjdclaenaa", sum := "1f21ff020ace84c3d36a50e145c337f343a282885a7231b489ef4ef0f100c10d", func := "punchcut/punchcutlaw18.RampCover", spec := "rampCover", apart := false, narrowed := true }
def RampCoverUptoSaid : Prop := rampCoverUptoRow.holds Try.pinned (OpenSpec.upto rampCoverSpec)

/-- 'punchcutlaw18.RampRises', WHERE WHAT IT READS IS OF BULK AT MOST 1048576: true; the input reads as it did. -/
def rampRisesUptoRow : OpenClaim := { program := "ytkgflgjdclaenaa", sum := "1f21ff020ace84c3d36a50e145c337f343a282885a7231b489ef4ef0f100c10d", func := "punchcut/punchcutlaw18.RampRises", spec := "rampRises", apart := false, narrowed := true }
def RampRisesUptoSaid : Prop := rampRisesUptoRow.holds Try.pinned (OpenSpec.upto rampRisesSpec)

/-- 'punchcutlaw18.RampAway', WHERE WHAT IT READS IS OF BULK AT MOST 1048576: true; the input reads as it did. -/
def rampAwayUptoRow : OpenClaim := { program := "ytkgflgjdclaenaa", sum := "1f21ff020ace84c3d36a50e145c337f343a282885a7231b489ef4ef0f100c10d", func := "punchcut/punchcutlaw18.RampAway", spec := "rampAway", apart := false, narrowed := true }
def RampAwayUptoSaid : Prop := rampAwayUptoRow.holds Try.pinned (OpenSpec.upto rampAwaySpec)

end Rows
end Go.Proofs.Ytkgflgjdclaenaa
