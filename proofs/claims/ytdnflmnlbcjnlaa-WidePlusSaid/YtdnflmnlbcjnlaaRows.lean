/-
  No cell of these rows narrows 'for every input' (looked for: loops, veiled, ifaces, maps, wideKeys, modest, calm, conditions, laid).
  DERIVED. THE GIVEN ROWS OF THIS SEAT. 7 by the template 'for every input the law returns true; each argument reads behind the call as it read before'; 0 by the template 'total and deterministic' (their statements: YtdnflmnlbcjnlaaTotals.lean).
  GIVEN WITH THE SEED: the statements are not yours to turn. If you find one false, say at which input.
  Laid BY PROGRAM, IN A SANDBOX (cutbox-rows.mjs): the forced cells as the released guide's own fill.sh prints them over the translation 273a3acc82882ea1… (all of the seat's roots in one cut). By AI agents, Wed Nov 11 2026. No macro, syntax, notation, axiom, sorry.
-/
import Derived.Test.YtdnflmnlbcjnlaaChecked
import GoSem.Claim
import GoSem.ClaimJoined
import GoSem.ClaimMapViews
import Derived.JoinedTies
import Derived.KernelRfl
namespace Go.Proofs.Ytdnflmnlbcjnlaa
/- THE CELL 'sum', in the pinned program and in every row, IS THE sha256 OF THE DUMP (.gsa) THAT YtdnflmnlbcjnlaaProg.lean LOADS. Nothing in Lean hashes anything: it is a label: what it is worth is what the hold of that sum in a sandbox is worth. -/
noncomputable def Try.pinned : Pinned := { name := "ytdnflmnlbcjnlaa", sum := "273a3acc82882ea193b9d9dc887fd8f3cc261720e92a6607b284ed23a32d65a6", checked := Try.checked }
namespace Rows
def none {H : Type} : Left H := { results := [], args := [] }

/-- 'punchcutlaw01.WideMul': WHATEVER THE INPUT: true; the input reads as it did. -/
def wideMulSpec : ChangeSpec := { name := "wideMul", fn := fun _ => fun
  | [d1, d2] => { results := [.lit (.bool true)], args := [d1, d2] }
  | _ => none }
def wideMulRow : OpenClaim := { program := "ytdnflmnlbcjnlaa", sum := "273a3acc82882ea193b9d9dc887fd8f3cc261720e92a6607b284ed23a32d65a6", func := "punchcut/punchcutlaw01.WideMul", spec := "wideMul", apart := false }
def WideMulSaid : Prop := wideMulRow.holds Try.pinned (OpenSpec.ofChange wideMulSpec)

/-- ITS FALSE NEIGHBOUR: 'it returns false'. Refute it at one input. -/
def wideMulWrong : ChangeSpec := { name := "wideMul", fn := fun _ => fun
  | [d1, d2] => { results := [.lit (.bool false)], args := [d1, d2] }
  | _ => none }
def WideMulWrongFalsely : Prop := wideMulRow.holds Try.pinned (OpenSpec.ofChange wideMulWrong)

/-- 'punchcutlaw01.WideCompare': WHATEVER THE INPUT: true; the input reads as it did. -/
def wideCompareSpec : ChangeSpec := { name := "wideCompare", fn := fun _ => fun
  | [d1, d2, d3] => { results := [.lit (.bool true)], args := [d1, d2, d3] }
  | _ => none }
def wideCompareRow : OpenClaim := { program := "ytdnflmnlbcjnlaa", sum := "273a3acc82882ea193b9d9dc887fd8f3cc261720e92a6607b284ed23a32d65a6", func := "punchcut/punchcutlaw01.WideCompare", spec := "wideCompare", apart := false }
def WideCompareSaid : Prop := wideCompareRow.holds Try.pinned (OpenSpec.ofChange wideCompareSpec)

/-- ITS FALSE NEIGHBOUR: 'it returns false'. Refute it at one input. -/
def wideCompareWrong : ChangeSpec := { name := "wideCompare", fn := fun _ => fun
  | [d1, d2, d3] => { results := [.lit (.bool false)], args := [d1, d2, d3] }
  | _ => none }
def WideCompareWrongFalsely : Prop := wideCompareRow.holds Try.pinned (OpenSpec.ofChange wideCompareWrong)

/-- 'punchcutlaw01.WideLess': WHATEVER THE INPUT: true; the input reads as it did. -/
def wideLessSpec : ChangeSpec := { name := "wideLess", fn := fun _ => fun
  | [d1, d2, d3, d4] => { results := [.lit (.bool true)], args := [d1, d2, d3, d4] }
  | _ => none }
def wideLessRow : OpenClaim := { program := "ytdnflmnlbcjnlaa", sum := "273a3acc82882ea193b9d9dc887fd8f3cc261720e92a6607b284ed23a32d65a6", func := "punchcut/punchcutlaw01.WideLess", spec := "wideLess", apart := false }
def WideLessSaid : Prop := wideLessRow.holds Try.pinned (OpenSpec.ofChange wideLessSpec)

/-- ITS FALSE NEIGHBOUR: 'it returns false'. Refute it at one input. -/
def wideLessWrong : ChangeSpec := { name := "wideLess", fn := fun _ => fun
  | [d1, d2, d3, d4] => { results := [.lit (.bool false)], args := [d1, d2, d3, d4] }
  | _ => none }
def WideLessWrongFalsely : Prop := wideLessRow.holds Try.pinned (OpenSpec.ofChange wideLessWrong)

/-- 'punchcutlaw01.WideInts': WHATEVER THE INPUT: true; the input reads as it did. -/
def wideIntsSpec : ChangeSpec := { name := "wideInts", fn := fun _ => fun
  | [d1, d2] => { results := [.lit (.bool true)], args := [d1, d2] }
  | _ => none }
def wideIntsRow : OpenClaim := { program := "ytdnflmnlbcjnlaa", sum := "273a3acc82882ea193b9d9dc887fd8f3cc261720e92a6607b284ed23a32d65a6", func := "punchcut/punchcutlaw01.WideInts", spec := "wideInts", unfollowed := true, recurses := true, apart := false }
def WideIntsSaid : Prop := wideIntsRow.holds Try.pinned (OpenSpec.ofChange wideIntsSpec)

/-- ITS FALSE NEIGHBOUR: 'it returns false'. Refute it at one input. -/
def wideIntsWrong : ChangeSpec := { name := "wideInts", fn := fun _ => fun
  | [d1, d2] => { results := [.lit (.bool false)], args := [d1, d2] }
  | _ => none }
def WideIntsWrongFalsely : Prop := wideIntsRow.holds Try.pinned (OpenSpec.ofChange wideIntsWrong)

/-- 'punchcutlaw01.WidePlus': WHATEVER THE INPUT: true; the input reads as it did. -/
def widePlusSpec : ChangeSpec := { name := "widePlus", fn := fun _ => fun
  | [d1, d2] => { results := [.lit (.bool true)], args := [d1, d2] }
  | _ => none }
def widePlusRow : OpenClaim := { program := "ytdnflmnlbcjnlaa", sum := "273a3acc82882ea193b9d9dc887fd8f3cc261720e92a6607b284ed23a32d65a6", func := "punchcut/punchcutlaw01.WidePlus", spec := "widePlus", apart := false }
def WidePlusSaid : Prop := widePlusRow.holds Try.pinned (OpenSpec.ofChange widePlusSpec)

/-- ITS FALSE NEIGHBOUR: 'it returns false'. Refute it at one input. -/
def widePlusWrong : ChangeSpec := { name := "widePlus", fn := fun _ => fun
  | [d1, d2] => { results := [.lit (.bool false)], args := [d1, d2] }
  | _ => none }
def WidePlusWrongFalsely : Prop := widePlusRow.holds Try.pinned (OpenSpec.ofChange widePlusWrong)

/-- 'punchcutlaw01.WideDiv': WHATEVER THE INPUT: true; the input reads as it did. -/
def wideDivSpec : ChangeSpec := { name := "wideDiv", fn := fun _ => fun
  | [d1, d2, d3] => { results := [.lit (.bool true)], args := [d1, d2, d3] }
  | _ => none }
def wideDivRow : OpenClaim := { program := "ytdnflmnlbcjnlaa", sum := "273a3acc82882ea193b9d9dc887fd8f3cc261720e92a6607b284ed23a32d65a6", func := "punchcut/punchcutlaw01.WideDiv", spec := "wideDiv", apart := false }
def WideDivSaid : Prop := wideDivRow.holds Try.pinned (OpenSpec.ofChange wideDivSpec)

/-- ITS FALSE NEIGHBOUR: 'it returns false'. Refute it at one input. -/
def wideDivWrong : ChangeSpec := { name := "wideDiv", fn := fun _ => fun
  | [d1, d2, d3] => { results := [.lit (.bool false)], args := [d1, d2, d3] }
  | _ => none }
def WideDivWrongFalsely : Prop := wideDivRow.holds Try.pinned (OpenSpec.ofChange wideDivWrong)

/-- 'punchcutlaw01.WideBack': WHATEVER THE INPUT: true; the input reads as it did. -/
def wideBackSpec : ChangeSpec := { name := "wideBack", fn := fun _ => fun
  | [d1, d2, d3] => { results := [.lit (.bool true)], args := [d1, d2, d3] }
  | _ => none }
def wideBackRow : OpenClaim := { program := "ytdnflmnlbcjnlaa", sum := "273a3acc82882ea193b9d9dc887fd8f3cc261720e92a6607b284ed23a32d65a6", func := "punchcut/punchcutlaw01.WideBack", spec := "wideBack", apart := false }
def WideBackSaid : Prop := wideBackRow.holds Try.pinned (OpenSpec.ofChange wideBackSpec)

/-- ITS FALSE NEIGHBOUR: 'it returns false'. Refute it at one input. -/
def wideBackWrong : ChangeSpec := { name := "wideBack", fn := fun _ => fun
  | [d1, d2, d3] => { results := [.lit (.bool false)], args := [d1, d2, d3] }
  | _ => none }
def WideBackWrongFalsely : Prop := wideBackRow.holds Try.pinned (OpenSpec.ofChange wideBackWrong)

/- THE SECOND FORM. 'bulk': how many values and letters a reading holds, each counted each time it is reached (what is shared counts as often as it is met; a slice's spare places count too). A statement '..UptoSaid' is the law's where the arguments, and the package variables that the reading takes, are together of bulk at most 1048576: NARROWER than '..Said'. Prove '..Said' where nothing that the law and all that it calls make is longer than what came in: it says more and counts as full. Else prove '..UptoSaid'. A law counts once. -/
mutual
def uptoBulk {H : Type} : DataW H → Nat
  | .lit (.string bytes) => bytes.length + 1
  | .lit _ => 1
  | .nil => 1
  | .ptr d => uptoBulk d + 1
  | .slice elems spare => uptoBulkAll elems + uptoBulkAll spare + 1
  | .agg parts => uptoBulkAll parts + 1
  | .iface _ d => uptoBulk d + 1
  | .map entries => uptoBulkEntries entries + 1
  | .held _ => 1
def uptoBulkAll {H : Type} : List (DataW H) → Nat
  | [] => 0
  | d :: r => uptoBulk d + uptoBulkAll r
def uptoBulkEntries {H : Type} : List (Lit × DataW H) → Nat
  | [] => 0
  | x :: r => uptoBulkEntry x + uptoBulkEntries r
def uptoBulkEntry {H : Type} : Lit × DataW H → Nat
  | (.string bytes, d) => bytes.length + uptoBulk d + 1
  | (_, d) => uptoBulk d + 1
 end
def uptoSmall : (H : Type) → List (DataW H) → Bool := fun _ ds => decide (uptoBulkAll ds ≤ 1048576)
def OpenSpec.upto (s : _root_.Go.ChangeSpec) : _root_.Go.OpenSpec := { _root_.Go.OpenSpec.ofChange s with cond := some uptoSmall }

/-- 'punchcutlaw01.WideMul', WHERE WHAT IT READS IS OF BULK AT MOST 1048576: true; the input reads as it did. -/
def wideMulUptoRow : OpenClaim := { program := "ytdnflmnlbcjnlaa", sum := "273a3acc82882ea193b9d9dc887fd8f3cc261720e92a6607b284ed23a32d65a6", func := "punchcut/punchcutlaw01.WideMul", spec := "wideMul", apart := false, narrowed := true }
def WideMulUptoSaid : Prop := wideMulUptoRow.holds Try.pinned (OpenSpec.upto wideMulSpec)

/-- 'punchcutlaw01.WideCompare', WHERE WHAT IT READS IS OF BULK AT MOST 1048576: true; the input reads as it did. -/
def wideCompareUptoRow : OpenClaim := { program := "ytdnflmnlbcjnlaa", sum := "273a3acc82882ea193b9d9dc887fd8f3cc261720e92a6607b284ed23a32d65a6", func := "punchcut/punchcutlaw01.WideCompare", spec := "wideCompare", apart := false, narrowed := true }
def WideCompareUptoSaid : Prop := wideCompareUptoRow.holds Try.pinned (OpenSpec.upto wideCompareSpec)

/-- 'punchcutlaw01.WideLess', WHERE WHAT IT READS IS OF BULK AT MOST 1048576: true; the input reads as it did. -/
def wideLessUptoRow : OpenClaim := { program := "ytdnflmnlbcjnlaa", sum := "273a3acc82882ea193b9d9dc887fd8f3cc261720e92a6607b284ed23a32d65a6", func := "punchcut/punchcutlaw01.WideLess", spec := "wideLess", apart := false, narrowed := true }
def WideLessUptoSaid : Prop := wideLessUptoRow.holds Try.pinned (OpenSpec.upto wideLessSpec)

/-- 'punchcutlaw01.WideInts', WHERE WHAT IT READS IS OF BULK AT MOST 1048576: true; the input reads as it did. -/
def wideIntsUptoRow : OpenClaim := { program := "ytdnflmnlbcjnlaa", sum := "273a3acc82882ea193b9d9dc887fd8f3cc261720e92a6607b284ed23a32d65a6", func := "punchcut/punchcutlaw01.WideInts", spec := "wideInts", unfollowed := true, recurses := true, apart := false, narrowed := true }
def WideIntsUptoSaid : Prop := wideIntsUptoRow.holds Try.pinned (OpenSpec.upto wideIntsSpec)

/-- 'punchcutlaw01.WidePlus', WHERE WHAT IT READS IS OF BULK AT MOST 1048576: true; the input reads as it did. -/
def widePlusUptoRow : OpenClaim := { program := "ytdnflmnlbcjnlaa", sum := "273a3acc82882ea193b9d9dc887fd8f3cc261720e92a6607b284ed23a32d65a6", func := "punchcut/punchcutlaw01.WidePlus", spec := "widePlus", apart := false, narrowed := true }
def WidePlusUptoSaid : Prop := widePlusUptoRow.holds Try.pinned (OpenSpec.upto widePlusSpec)

/-- 'punchcutlaw01.WideDiv', WHERE WHAT IT READS IS OF BULK AT MOST 1048576: true; the input reads as it did. -/
def wideDivUptoRow : OpenClaim := { program := "ytdnflmnlbcjnlaa", sum := "273a3acc82882ea193b9d9dc887fd8f3cc261720e92a6607b284ed23a32d65a6", func := "punchcut/punchcutlaw01.WideDiv", spec := "wideDiv", apart := false, narrowed := true }
def WideDivUptoSaid : Prop := wideDivUptoRow.holds Try.pinned (OpenSpec.upto wideDivSpec)

/-- 'punchcutlaw01.WideBack', WHERE WHAT IT READS IS OF BULK AT MOST 1048576: true; the input reads as it did. -/
def wideBackUptoRow : OpenClaim := { program := "ytdnflmnlbcjnlaa", sum := "273a3acc82882ea193b9d9dc887fd8f3cc261720e92a6607b284ed23a32d65a6", func := "punchcut/punchcutlaw01.WideBack", spec := "wideBack", apart := false, narrowed := true }
def WideBackUptoSaid : Prop := wideBackUptoRow.holds Try.pinned (OpenSpec.upto wideBackSpec)

end Rows
end Go.Proofs.Ytdnflmnlbcjnlaa
