/-
  No cell of these rows narrows 'for every input' (looked for: loops, veiled, ifaces, maps, wideKeys, modest, calm, conditions, laid).
  DERIVED. THE GIVEN ROWS OF THIS SEAT. 6 by the template 'for every input the law returns true; each argument reads behind the call as it read before'; 0 by the template 'total and deterministic' (their statements: YtfbnaicnmkkohaaTotals.lean).
  GIVEN WITH THE SEED: the statements are not yours to turn. If you find one false, say at which input.
  Laid BY PROGRAM, IN A SANDBOX (cutbox-rows.mjs): the forced cells as the released guide's own fill.sh prints them over the translation 7f34e83d9b630bc8… (all of the seat's roots in one cut). By AI agents, Wed Nov 11 2026. No macro, syntax, notation, axiom, sorry.
-/
import Derived.Test.YtfbnaicnmkkohaaChecked
import GoSem.Claim
import GoSem.ClaimJoined
import GoSem.ClaimMapViews
import Derived.JoinedTies
import Derived.KernelRfl
namespace Go.Proofs.Ytfbnaicnmkkohaa
/- THE CELL 'sum', in the pinned program and in every row, IS THE sha256 OF THE DUMP (.gsa) THAT YtfbnaicnmkkohaaProg.lean LOADS. Nothing in Lean hashes anything: it is a label: what it is worth is what the hold of that sum in a sandbox is worth. -/
noncomputable def Try.pinned : Pinned := { name := "ytfbnaicnmkkohaa", sum := "7f34e83d9b630bc8ec3aa0cea65a034cc36eb8a2448582b756e01708bae6bc50", checked := Try.checked }
namespace Rows
def none {H : Type} : Left H := { results := [], args := [] }

/-- 'punchcutlaw19.FrameDraw': WHATEVER THE INPUT: true; the input reads as it did. -/
def frameDrawSpec : ChangeSpec := { name := "frameDraw", fn := fun _ => fun
  | [d1, d2, d3, d4] => { results := [.lit (.bool true)], args := [d1, d2, d3, d4] }
  | _ => none }
def frameDrawRow : OpenClaim := { program := "ytfbnaicnmkkohaa", sum := "7f34e83d9b630bc8ec3aa0cea65a034cc36eb8a2448582b756e01708bae6bc50", func := "punchcut/punchcutlaw19.FrameDraw", spec := "frameDraw", unfollowed := true, recurses := true, apart := false }
def FrameDrawSaid : Prop := frameDrawRow.holds Try.pinned (OpenSpec.ofChange frameDrawSpec)

/-- ITS FALSE NEIGHBOUR: 'it returns false'. Refute it at one input. -/
def frameDrawWrong : ChangeSpec := { name := "frameDraw", fn := fun _ => fun
  | [d1, d2, d3, d4] => { results := [.lit (.bool false)], args := [d1, d2, d3, d4] }
  | _ => none }
def FrameDrawWrongFalsely : Prop := frameDrawRow.holds Try.pinned (OpenSpec.ofChange frameDrawWrong)

/-- 'punchcutlaw19.FrameWrong': WHATEVER THE INPUT: true; the input reads as it did. -/
def frameWrongSpec : ChangeSpec := { name := "frameWrong", fn := fun _ => fun
  | [d1, d2, d3, d4, d5, d6] => { results := [.lit (.bool true)], args := [d1, d2, d3, d4, d5, d6] }
  | _ => none }
def frameWrongRow : OpenClaim := { program := "ytfbnaicnmkkohaa", sum := "7f34e83d9b630bc8ec3aa0cea65a034cc36eb8a2448582b756e01708bae6bc50", func := "punchcut/punchcutlaw19.FrameWrong", spec := "frameWrong", unfollowed := true, recurses := true, apart := false }
def FrameWrongSaid : Prop := frameWrongRow.holds Try.pinned (OpenSpec.ofChange frameWrongSpec)

/-- ITS FALSE NEIGHBOUR: 'it returns false'. Refute it at one input. -/
def frameWrongWrong : ChangeSpec := { name := "frameWrong", fn := fun _ => fun
  | [d1, d2, d3, d4, d5, d6] => { results := [.lit (.bool false)], args := [d1, d2, d3, d4, d5, d6] }
  | _ => none }
def FrameWrongWrongFalsely : Prop := frameWrongRow.holds Try.pinned (OpenSpec.ofChange frameWrongWrong)

/-- 'punchcutlaw19.FrameOut': WHATEVER THE INPUT: true; the input reads as it did. -/
def frameOutSpec : ChangeSpec := { name := "frameOut", fn := fun _ => fun
  | [d1, d2, d3] => { results := [.lit (.bool true)], args := [d1, d2, d3] }
  | _ => none }
def frameOutRow : OpenClaim := { program := "ytfbnaicnmkkohaa", sum := "7f34e83d9b630bc8ec3aa0cea65a034cc36eb8a2448582b756e01708bae6bc50", func := "punchcut/punchcutlaw19.FrameOut", spec := "frameOut", unfollowed := true, recurses := true, apart := false }
def FrameOutSaid : Prop := frameOutRow.holds Try.pinned (OpenSpec.ofChange frameOutSpec)

/-- ITS FALSE NEIGHBOUR: 'it returns false'. Refute it at one input. -/
def frameOutWrong : ChangeSpec := { name := "frameOut", fn := fun _ => fun
  | [d1, d2, d3] => { results := [.lit (.bool false)], args := [d1, d2, d3] }
  | _ => none }
def FrameOutWrongFalsely : Prop := frameOutRow.holds Try.pinned (OpenSpec.ofChange frameOutWrong)

/-- 'punchcutlaw19.FramePlace': WHATEVER THE INPUT: true; the input reads as it did. -/
def framePlaceSpec : ChangeSpec := { name := "framePlace", fn := fun _ => fun
  | [d1, d2, d3] => { results := [.lit (.bool true)], args := [d1, d2, d3] }
  | _ => none }
def framePlaceRow : OpenClaim := { program := "ytfbnaicnmkkohaa", sum := "7f34e83d9b630bc8ec3aa0cea65a034cc36eb8a2448582b756e01708bae6bc50", func := "punchcut/punchcutlaw19.FramePlace", spec := "framePlace", unfollowed := true, recurses := true, apart := false }
def FramePlaceSaid : Prop := framePlaceRow.holds Try.pinned (OpenSpec.ofChange framePlaceSpec)

/-- ITS FALSE NEIGHBOUR: 'it returns false'. Refute it at one input. -/
def framePlaceWrong : ChangeSpec := { name := "framePlace", fn := fun _ => fun
  | [d1, d2, d3] => { results := [.lit (.bool false)], args := [d1, d2, d3] }
  | _ => none }
def FramePlaceWrongFalsely : Prop := framePlaceRow.holds Try.pinned (OpenSpec.ofChange framePlaceWrong)

/-- 'punchcutlaw19.FrameOne': WHATEVER THE INPUT: true; the input reads as it did. -/
def frameOneSpec : ChangeSpec := { name := "frameOne", fn := fun _ => fun
  | [d1, d2, d3] => { results := [.lit (.bool true)], args := [d1, d2, d3] }
  | _ => none }
def frameOneRow : OpenClaim := { program := "ytfbnaicnmkkohaa", sum := "7f34e83d9b630bc8ec3aa0cea65a034cc36eb8a2448582b756e01708bae6bc50", func := "punchcut/punchcutlaw19.FrameOne", spec := "frameOne", unfollowed := true, recurses := true, apart := false }
def FrameOneSaid : Prop := frameOneRow.holds Try.pinned (OpenSpec.ofChange frameOneSpec)

/-- ITS FALSE NEIGHBOUR: 'it returns false'. Refute it at one input. -/
def frameOneWrong : ChangeSpec := { name := "frameOne", fn := fun _ => fun
  | [d1, d2, d3] => { results := [.lit (.bool false)], args := [d1, d2, d3] }
  | _ => none }
def FrameOneWrongFalsely : Prop := frameOneRow.holds Try.pinned (OpenSpec.ofChange frameOneWrong)

/-- 'punchcutlaw19.FrameFull': WHATEVER THE INPUT: true; the input reads as it did. -/
def frameFullSpec : ChangeSpec := { name := "frameFull", fn := fun _ => fun
  | [d1, d2, d3] => { results := [.lit (.bool true)], args := [d1, d2, d3] }
  | _ => none }
def frameFullRow : OpenClaim := { program := "ytfbnaicnmkkohaa", sum := "7f34e83d9b630bc8ec3aa0cea65a034cc36eb8a2448582b756e01708bae6bc50", func := "punchcut/punchcutlaw19.FrameFull", spec := "frameFull", unfollowed := true, recurses := true, apart := false }
def FrameFullSaid : Prop := frameFullRow.holds Try.pinned (OpenSpec.ofChange frameFullSpec)

/-- ITS FALSE NEIGHBOUR: 'it returns false'. Refute it at one input. -/
def frameFullWrong : ChangeSpec := { name := "frameFull", fn := fun _ => fun
  | [d1, d2, d3] => { results := [.lit (.bool false)], args := [d1, d2, d3] }
  | _ => none }
def FrameFullWrongFalsely : Prop := frameFullRow.holds Try.pinned (OpenSpec.ofChange frameFullWrong)

/- THE SECOND FORM. 'bulk': how many values and letters a reading holds, each counted each time it is reached (what is shared counts as often as it is met; a slice's spare places count too). A statement '..UptoSaid' is the law's where the arguments, and the package variables that the reading takes, are together of bulk at most 1048576: NARROWER than '..Said'. Prove '..Said' where nothing that the law and all that it calls make is longer than what came in: it says more and counts as full. Else prove '..UptoSaid'. A law counts once. -/
mutual
def uptoBulk {H : Type} : DataW H → Nat
  | .lit (.string bytes) => bytes.length + 1
  | .lit _ => 1
  | .nil => 1
  | .ptr d => uptoBulk d + 1
  | .slice elems spare => uptoBulkAll elems + uptoBulkAll spare + 1
  | .agg parts => uptoBulkAll parts + 1
  | .iface _ d => uptoBulk d + 1
  | .map entries => uptoBulkEntries entries + 1
  | .held _ => 1
def uptoBulkAll {H : Type} : List (DataW H) → Nat
  | [] => 0
  | d :: r => uptoBulk d + uptoBulkAll r
def uptoBulkEntries {H : Type} : List (Lit × DataW H) → Nat
  | [] => 0
  | x :: r => uptoBulkEntry x + uptoBulkEntries r
def uptoBulkEntry {H : Type} : Lit × DataW H → Nat
  | (.string bytes, d) => bytes.length + uptoBulk d + 1
  | (_, d) => uptoBulk d + 1
 end
def uptoSmall : (H : Type) → List (DataW H) → Bool := fun _ ds => decide (uptoBulkAll ds ≤ 1048576)
def OpenSpec.upto (s : _root_.Go.ChangeSpec) : _root_.Go.OpenSpec := { _root_.Go.OpenSpec.ofChange s with cond := some uptoSmall }

/-- 'punchcutlaw19.FrameDraw', WHERE WHAT IT READS IS OF BULK AT MOST 1048576: true; the input reads as it did. -/
def frameDrawUptoRow : OpenClaim := { program := "ytfbnaicnmkkohaa", sum := "7f34e83d9b630bc8ec3aa0cea65a034cc36eb8a2448582b756e01708bae6bc50", func := "punchcut/punchcutlaw19.FrameDraw", spec := "frameDraw", unfollowed := true, recurses := true, apart := false, narrowed := true }
def FrameDrawUptoSaid : Prop := frameDrawUptoRow.holds Try.pinned (OpenSpec.upto frameDrawSpec)

/-- 'punchcutlaw19.FrameWrong', WHERE WHAT IT READS IS OF BULK AT MOST 1048576: true; the input reads as it did. -/
def frameWrongUptoRow : OpenClaim := { program := "ytfbnaicnmkkohaa", sum := "7f34e83d9b630bc8ec3aa0cea65a034cc36eb8a2448582b756e01708bae6bc50", func := "punchcut/punchcutlaw19.FrameWrong", spec := "frameWrong", unfollowed := true, recurses := true, apart := false, narrowed := true }
def FrameWrongUptoSaid : Prop := frameWrongUptoRow.holds Try.pinned (OpenSpec.upto frameWrongSpec)

/-- 'punchcutlaw19.FrameOut', WHERE WHAT IT READS IS OF BULK AT MOST 1048576: true; the input reads as it did. -/
def frameOutUptoRow : OpenClaim := { program := "ytfbnaicnmkkohaa", sum := "7f34e83d9b630bc8ec3aa0cea65a034cc36eb8a2448582b756e01708bae6bc50", func := "punchcut/punchcutlaw19.FrameOut", spec := "frameOut", unfollowed := true, recurses := true, apart := false, narrowed := true }
def FrameOutUptoSaid : Prop := frameOutUptoRow.holds Try.pinned (OpenSpec.upto frameOutSpec)

/-- 'punchcutlaw19.FramePlace', WHERE WHAT IT READS IS OF BULK AT MOST 1048576: true; the input reads as it did. -/
def framePlaceUptoRow : OpenClaim := { program := "ytfbnaicnmkkohaa", sum := "7f34e83d9b630bc8ec3aa0cea65a034cc36eb8a2448582b756e01708bae6bc50", func := "punchcut/punchcutlaw19.FramePlace", spec := "framePlace", unfollowed := true, recurses := true, apart := false, narrowed := true }
def FramePlaceUptoSaid : Prop := framePlaceUptoRow.holds Try.pinned (OpenSpec.upto framePlaceSpec)

/-- 'punchcutlaw19.FrameOne', WHERE WHAT IT READS IS OF BULK AT MOST 1048576: true; the input reads as it did. -/
def frameOneUptoRow : OpenClaim := { program := "ytfbnaicnmkkohaa", sum := "7f34e83d9b630bc8ec3aa0cea65a034cc36eb8a2448582b756e01708bae6bc50", func := "punchcut/punchcutlaw19.FrameOne", spec := "frameOne", unfollowed := true, recurses := true, apart := false, narrowed := true }
def FrameOneUptoSaid : Prop := frameOneUptoRow.holds Try.pinned (OpenSpec.upto frameOneSpec)

/-- 'punchcutlaw19.FrameFull', WHERE WHAT IT READS IS OF BULK AT MOST 1048576: true; the input reads as it did. -/
def frameFullUptoRow : OpenClaim := { program := "ytfbnaicnmkkohaa", sum := "7f34e83d9b630bc8ec3aa0cea65a034cc36eb8a2448582b756e01708bae6bc50", func := "punchcut/punchcutlaw19.FrameFull", spec := "frameFull", unfollowed := true, recurses := true, apart := false, narrowed := true }
def FrameFullUptoSaid : Prop := frameFullUptoRow.holds Try.pinned (OpenSpec.upto frameFullSpec)

end Rows
end Go.Proofs.Ytfbnaicnmkkohaa
