/- BilinWrong's walk in the row's order of arguments. Conditions: the field's row reads as a list of bytes. -/
import Derived.Test.YtignhpmfaodpjaaWrongAll
namespace Go.Proofs.Ytignhpmfaodpjaa.WrongWalk
open Go Go.RowKit Go.Proofs.YtignhpmfaodpjaaW.PrintWords
set_option linter.unusedVariables false
theorem walk (W H : Int) (A : Option Addr) (len cap : Nat) (l : List Int) (x y d op key aw ah ink : Int) (w : World) (hr : Kd.C (Kd.int .u8) w A len l) (hlc : len ≤ cap) (hcap : cap ≤ maxLen) (hnil : A = none → len = 0 ∧ cap = 0) (hl : ∀ z ∈ l, 0 ≤ z ∧ z ≤ 255)
    (v0 : (Lit.int .i64 x).wf = true) (v1 : (Lit.int .i64 y).wf = true) (v2 : (Lit.int .i64 d).wf = true) (w0 : (Lit.int .u8 op).wf = true) (w1 : (Lit.int .u8 key).wf = true) (w2 : (Lit.int .u8 aw).wf = true) (w3 : (Lit.int .u8 ah).wf = true) (w4 : (Lit.int .u8 ink).wf = true) :
    Calls Try.prog 4 #[.agg #[.int .i64 W, .int .i64 H, .slice A len cap], .int .i64 x, .int .i64 y, .int .i64 d, .agg #[.int .u8 op, .int .u8 key, .int .u8 aw, .int .u8 ah, .int .u8 ink]] w fun e w' => e = .returned (.bool true) ∧ Below w.heap.size w w' :=
  WrongAll.walk W H A len cap l x y d op key aw ah ink w hr hlc (by show cap ≤ maxLen; exact hcap) hnil hl w2 w3
end Go.Proofs.Ytignhpmfaodpjaa.WrongWalk
