/-
  No cell of these rows narrows 'for every input' (looked for: loops, veiled, ifaces, maps, wideKeys, modest, calm, conditions, laid).
  DERIVED. THE GIVEN ROWS OF THIS SEAT. 7 by the template 'for every input the law returns true; each argument reads behind the call as it read before'; 0 by the template 'total and deterministic' (their statements: YtignhpmfaodpjaaTotals.lean).
  GIVEN WITH THE SEED: the statements are not yours to turn. If you find one false, say at which input.
  Laid BY PROGRAM, IN A SANDBOX (cutbox-rows.mjs): the forced cells as the released guide's own fill.sh prints them over the translation f40a603fa02fed59… (all of the seat's roots in one cut). By AI agents, Wed Nov 11 2026. No macro, syntax, notation, axiom, sorry.
-/
import Derived.Test.YtignhpmfaodpjaaChecked
import GoSem.Claim
import GoSem.ClaimJoined
import GoSem.ClaimMapViews
import Derived.JoinedTies
import Derived.KernelRfl
namespace Go.Proofs.Ytignhpmfaodpjaa
/- THE CELL 'sum', in the pinned program and in every row, IS THE sha256 OF THE DUMP (.gsa) THAT YtignhpmfaodpjaaProg.lean LOADS. Nothing in Lean hashes anything: it is a label: what it is worth is what the hold of that sum in a sandbox is worth. -/
noncomputable def Try.pinned : Pinned := { name := "ytignhpmfaodpjaa", sum := "f40a603fa02fed59000cdf977c341eb3f2c1712530c322bb5a5ec67619ea9dd1", checked := Try.checked }
namespace Rows
def none {H : Type} : Left H := { results := [], args := [] }

/-- 'punchcutlaw17.BilinAt': WHATEVER THE INPUT: true; the input reads as it did. -/
def bilinAtSpec : ChangeSpec := { name := "bilinAt", fn := fun _ => fun
  | [d1, d2, d3, d4] => { results := [.lit (.bool true)], args := [d1, d2, d3, d4] }
  | _ => none }
def bilinAtRow : OpenClaim := { program := "ytignhpmfaodpjaa", sum := "f40a603fa02fed59000cdf977c341eb3f2c1712530c322bb5a5ec67619ea9dd1", func := "punchcut/punchcutlaw17.BilinAt", spec := "bilinAt", unfollowed := true, recurses := true, apart := false }
def BilinAtSaid : Prop := bilinAtRow.holds Try.pinned (OpenSpec.ofChange bilinAtSpec)

/-- ITS FALSE NEIGHBOUR: 'it returns false'. Refute it at one input. -/
def bilinAtWrong : ChangeSpec := { name := "bilinAt", fn := fun _ => fun
  | [d1, d2, d3, d4] => { results := [.lit (.bool false)], args := [d1, d2, d3, d4] }
  | _ => none }
def BilinAtWrongFalsely : Prop := bilinAtRow.holds Try.pinned (OpenSpec.ofChange bilinAtWrong)

/-- 'punchcutlaw17.BilinWrong': WHATEVER THE INPUT: true; the input reads as it did. -/
def bilinWrongSpec : ChangeSpec := { name := "bilinWrong", fn := fun _ => fun
  | [d1, d2, d3, d4, d5] => { results := [.lit (.bool true)], args := [d1, d2, d3, d4, d5] }
  | _ => none }
def bilinWrongRow : OpenClaim := { program := "ytignhpmfaodpjaa", sum := "f40a603fa02fed59000cdf977c341eb3f2c1712530c322bb5a5ec67619ea9dd1", func := "punchcut/punchcutlaw17.BilinWrong", spec := "bilinWrong", apart := false }
def BilinWrongSaid : Prop := bilinWrongRow.holds Try.pinned (OpenSpec.ofChange bilinWrongSpec)

/-- ITS FALSE NEIGHBOUR: 'it returns false'. Refute it at one input. -/
def bilinWrongWrong : ChangeSpec := { name := "bilinWrong", fn := fun _ => fun
  | [d1, d2, d3, d4, d5] => { results := [.lit (.bool false)], args := [d1, d2, d3, d4, d5] }
  | _ => none }
def BilinWrongWrongFalsely : Prop := bilinWrongRow.holds Try.pinned (OpenSpec.ofChange bilinWrongWrong)

/-- 'punchcutlaw17.BilinMiddle': WHATEVER THE INPUT: true; the input reads as it did. -/
def bilinMiddleSpec : ChangeSpec := { name := "bilinMiddle", fn := fun _ => fun
  | [d1, d2, d3, d4] => { results := [.lit (.bool true)], args := [d1, d2, d3, d4] }
  | _ => none }
def bilinMiddleRow : OpenClaim := { program := "ytignhpmfaodpjaa", sum := "f40a603fa02fed59000cdf977c341eb3f2c1712530c322bb5a5ec67619ea9dd1", func := "punchcut/punchcutlaw17.BilinMiddle", spec := "bilinMiddle", apart := false }
def BilinMiddleSaid : Prop := bilinMiddleRow.holds Try.pinned (OpenSpec.ofChange bilinMiddleSpec)

/-- ITS FALSE NEIGHBOUR: 'it returns false'. Refute it at one input. -/
def bilinMiddleWrong : ChangeSpec := { name := "bilinMiddle", fn := fun _ => fun
  | [d1, d2, d3, d4] => { results := [.lit (.bool false)], args := [d1, d2, d3, d4] }
  | _ => none }
def BilinMiddleWrongFalsely : Prop := bilinMiddleRow.holds Try.pinned (OpenSpec.ofChange bilinMiddleWrong)

/-- 'punchcutlaw17.BilinBetween': WHATEVER THE INPUT: true; the input reads as it did. -/
def bilinBetweenSpec : ChangeSpec := { name := "bilinBetween", fn := fun _ => fun
  | [d1, d2, d3, d4] => { results := [.lit (.bool true)], args := [d1, d2, d3, d4] }
  | _ => none }
def bilinBetweenRow : OpenClaim := { program := "ytignhpmfaodpjaa", sum := "f40a603fa02fed59000cdf977c341eb3f2c1712530c322bb5a5ec67619ea9dd1", func := "punchcut/punchcutlaw17.BilinBetween", spec := "bilinBetween", apart := false }
def BilinBetweenSaid : Prop := bilinBetweenRow.holds Try.pinned (OpenSpec.ofChange bilinBetweenSpec)

/-- ITS FALSE NEIGHBOUR: 'it returns false'. Refute it at one input. -/
def bilinBetweenWrong : ChangeSpec := { name := "bilinBetween", fn := fun _ => fun
  | [d1, d2, d3, d4] => { results := [.lit (.bool false)], args := [d1, d2, d3, d4] }
  | _ => none }
def BilinBetweenWrongFalsely : Prop := bilinBetweenRow.holds Try.pinned (OpenSpec.ofChange bilinBetweenWrong)

/-- 'punchcutlaw17.BilinFlip': WHATEVER THE INPUT: true; the input reads as it did. -/
def bilinFlipSpec : ChangeSpec := { name := "bilinFlip", fn := fun _ => fun
  | [d1, d2, d3, d4] => { results := [.lit (.bool true)], args := [d1, d2, d3, d4] }
  | _ => none }
def bilinFlipRow : OpenClaim := { program := "ytignhpmfaodpjaa", sum := "f40a603fa02fed59000cdf977c341eb3f2c1712530c322bb5a5ec67619ea9dd1", func := "punchcut/punchcutlaw17.BilinFlip", spec := "bilinFlip", apart := false }
def BilinFlipSaid : Prop := bilinFlipRow.holds Try.pinned (OpenSpec.ofChange bilinFlipSpec)

/-- ITS FALSE NEIGHBOUR: 'it returns false'. Refute it at one input. -/
def bilinFlipWrong : ChangeSpec := { name := "bilinFlip", fn := fun _ => fun
  | [d1, d2, d3, d4] => { results := [.lit (.bool false)], args := [d1, d2, d3, d4] }
  | _ => none }
def BilinFlipWrongFalsely : Prop := bilinFlipRow.holds Try.pinned (OpenSpec.ofChange bilinFlipWrong)

/-- 'punchcutlaw17.BilinLinear': WHATEVER THE INPUT: true; the input reads as it did. -/
def bilinLinearSpec : ChangeSpec := { name := "bilinLinear", fn := fun _ => fun
  | [d1, d2, d3] => { results := [.lit (.bool true)], args := [d1, d2, d3] }
  | _ => none }
def bilinLinearRow : OpenClaim := { program := "ytignhpmfaodpjaa", sum := "f40a603fa02fed59000cdf977c341eb3f2c1712530c322bb5a5ec67619ea9dd1", func := "punchcut/punchcutlaw17.BilinLinear", spec := "bilinLinear", apart := false }
def BilinLinearSaid : Prop := bilinLinearRow.holds Try.pinned (OpenSpec.ofChange bilinLinearSpec)

/-- ITS FALSE NEIGHBOUR: 'it returns false'. Refute it at one input. -/
def bilinLinearWrong : ChangeSpec := { name := "bilinLinear", fn := fun _ => fun
  | [d1, d2, d3] => { results := [.lit (.bool false)], args := [d1, d2, d3] }
  | _ => none }
def BilinLinearWrongFalsely : Prop := bilinLinearRow.holds Try.pinned (OpenSpec.ofChange bilinLinearWrong)

/-- 'punchcutlaw17.BilinFlat': WHATEVER THE INPUT: true; the input reads as it did. -/
def bilinFlatSpec : ChangeSpec := { name := "bilinFlat", fn := fun _ => fun
  | [d1, d2, d3, d4, d5, d6] => { results := [.lit (.bool true)], args := [d1, d2, d3, d4, d5, d6] }
  | _ => none }
def bilinFlatRow : OpenClaim := { program := "ytignhpmfaodpjaa", sum := "f40a603fa02fed59000cdf977c341eb3f2c1712530c322bb5a5ec67619ea9dd1", func := "punchcut/punchcutlaw17.BilinFlat", spec := "bilinFlat", apart := false }
def BilinFlatSaid : Prop := bilinFlatRow.holds Try.pinned (OpenSpec.ofChange bilinFlatSpec)

/-- ITS FALSE NEIGHBOUR: 'it returns false'. Refute it at one input. -/
def bilinFlatWrong : ChangeSpec := { name := "bilinFlat", fn := fun _ => fun
  | [d1, d2, d3, d4, d5, d6] => { results := [.lit (.bool false)], args := [d1, d2, d3, d4, d5, d6] }
  | _ => none }
def BilinFlatWrongFalsely : Prop := bilinFlatRow.holds Try.pinned (OpenSpec.ofChange bilinFlatWrong)

/- THE SECOND FORM. 'bulk': how many values and letters a reading holds, each counted each time it is reached (what is shared counts as often as it is met; a slice's spare places count too). A statement '..UptoSaid' is the law's where the arguments, and the package variables that the reading takes, are together of bulk at most 1048576: NARROWER than '..Said'. Prove '..Said' where nothing that the law and all that it calls make is longer than what came in: it says more and counts as full. Else prove '..UptoSaid'. A law counts once. -/
mutual
def uptoBulk {H : Type} : DataW H → Nat
  | .lit (.string bytes) => bytes.length + 1
  | .lit _ => 1
  | .nil => 1
  | .ptr d => uptoBulk d + 1
  | .slice elems spare => uptoBulkAll elems + uptoBulkAll spare + 1
  | .agg parts => uptoBulkAll parts + 1
  | .iface _ d => uptoBulk d + 1
  | .map entries => uptoBulkEntries entries + 1
  | .held _ => 1
def uptoBulkAll {H : Type} : List (DataW H) → Nat
  | [] => 0
  | d :: r => uptoBulk d + uptoBulkAll r
def uptoBulkEntries {H : Type} : List (Lit × DataW H) → Nat
  | [] => 0
  | x :: r => uptoBulkEntry x + uptoBulkEntries r
def uptoBulkEntry {H : Type} : Lit × DataW H → Nat
  | (.string bytes, d) => bytes.length + uptoBulk d + 1
  | (_, d) => uptoBulk d + 1
 end
def uptoSmall : (H : Type) → List (DataW H) → Bool := fun _ ds => decide (uptoBulkAll ds ≤ 1048576)
def OpenSpec.upto (s : _root_.Go.ChangeSpec) : _root_.Go.OpenSpec := { _root_.Go.OpenSpec.ofChange s with cond := some uptoSmall }

/-- 'punchcutlaw17.BilinAt', WHERE WHAT IT READS IS OF BULK AT MOST 1048576: true; the input reads as it did. -/
def bilinAtUptoRow : OpenClaim := { program := "ytignhpmfaodpjaa", sum := "f40a603fa02fed59000cdf977c341eb3f2c1712530c322bb5a5ec67619ea9dd1", func := "punchcut/punchcutlaw17.BilinAt", spec := "bilinAt", unfollowed := true, recurses := true, apart := false, narrowed := true }
def BilinAtUptoSaid : Prop := bilinAtUptoRow.holds Try.pinned (OpenSpec.upto bilinAtSpec)

/-- 'punchcutlaw17.BilinWrong', WHERE WHAT IT READS IS OF BULK AT MOST 1048576: true; the input reads as it did. -/
def bilinWrongUptoRow : OpenClaim := { program := "ytignhpmfaodpjaa", sum := "f40a603fa02fed59000cdf977c341eb3f2c1712530c322bb5a5ec67619ea9dd1", func := "punchcut/punchcutlaw17.BilinWrong", spec := "bilinWrong", apart := false, narrowed := true }
def BilinWrongUptoSaid : Prop := bilinWrongUptoRow.holds Try.pinned (OpenSpec.upto bilinWrongSpec)

/-- 'punchcutlaw17.BilinMiddle', WHERE WHAT IT READS IS OF BULK AT MOST 1048576: true; the input reads as it did. -/
def bilinMiddleUptoRow : OpenClaim := { program := "ytignhpmfaodpjaa", sum := "f40a603fa02fed59000cdf977c341eb3f2c1712530c322bb5a5ec67619ea9dd1", func := "punchcut/punchcutlaw17.BilinMiddle", spec := "bilinMiddle", apart := false, narrowed := true }
def BilinMiddleUptoSaid : Prop := bilinMiddleUptoRow.holds Try.pinned (OpenSpec.upto bilinMiddleSpec)

/-- 'punchcutlaw17.BilinBetween', WHERE WHAT IT READS IS OF BULK AT MOST 1048576: true; the input reads as it did. -/
def bilinBetweenUptoRow : OpenClaim := { program := "ytignhpmfaodpjaa", sum := "f40a603fa02fed59000cdf977c341eb3f2c1712530c322bb5a5ec67619ea9dd1", func := "punchcut/punchcutlaw17.BilinBetween", spec := "bilinBetween", apart := false, narrowed := true }
def BilinBetweenUptoSaid : Prop := bilinBetweenUptoRow.holds Try.pinned (OpenSpec.upto bilinBetweenSpec)

/-- 'punchcutlaw17.BilinFlip', WHERE WHAT IT READS IS OF BULK AT MOST 1048576: true; the input reads as it did. -/
def bilinFlipUptoRow : OpenClaim := { program := "ytignhpmfaodpjaa", sum := "f40a603fa02fed59000cdf977c341eb3f2c1712530c322bb5a5ec67619ea9dd1", func := "punchcut/punchcutlaw17.BilinFlip", spec := "bilinFlip", apart := false, narrowed := true }
def BilinFlipUptoSaid : Prop := bilinFlipUptoRow.holds Try.pinned (OpenSpec.upto bilinFlipSpec)

/-- 'punchcutlaw17.BilinLinear', WHERE WHAT IT READS IS OF BULK AT MOST 1048576: true; the input reads as it did. -/
def bilinLinearUptoRow : OpenClaim := { program := "ytignhpmfaodpjaa", sum := "f40a603fa02fed59000cdf977c341eb3f2c1712530c322bb5a5ec67619ea9dd1", func := "punchcut/punchcutlaw17.BilinLinear", spec := "bilinLinear", apart := false, narrowed := true }
def BilinLinearUptoSaid : Prop := bilinLinearUptoRow.holds Try.pinned (OpenSpec.upto bilinLinearSpec)

/-- 'punchcutlaw17.BilinFlat', WHERE WHAT IT READS IS OF BULK AT MOST 1048576: true; the input reads as it did. -/
def bilinFlatUptoRow : OpenClaim := { program := "ytignhpmfaodpjaa", sum := "f40a603fa02fed59000cdf977c341eb3f2c1712530c322bb5a5ec67619ea9dd1", func := "punchcut/punchcutlaw17.BilinFlat", spec := "bilinFlat", apart := false, narrowed := true }
def BilinFlatUptoSaid : Prop := bilinFlatUptoRow.holds Try.pinned (OpenSpec.upto bilinFlatSpec)

end Rows
end Go.Proofs.Ytignhpmfaodpjaa
