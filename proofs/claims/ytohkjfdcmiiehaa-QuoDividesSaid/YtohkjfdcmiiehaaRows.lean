/-
  No cell of these rows narrows 'for every input' (looked for: loops, veiled, ifaces, maps, wideKeys, modest, calm, conditions, laid).
  DERIVED. THE GIVEN ROWS OF THIS SEAT. 8 by the template 'for every input the law returns true; each argument reads behind the call as it read before'; 0 by the template 'total and deterministic' (their statements: YtohkjfdcmiiehaaTotals.lean).
  GIVEN WITH THE SEED: the statements are not yours to turn. If you find one false, say at which input.
  Laid BY PROGRAM, IN A SANDBOX (cutbox-rows.mjs): the forced cells as the released guide's own fill.sh prints them over the translation 371983400d29f332… (all of the seat's roots in one cut). By AI agents, Wed Nov 11 2026. No macro, syntax, notation, axiom, sorry.
-/
import Derived.Test.YtohkjfdcmiiehaaChecked
import GoSem.Claim
import GoSem.ClaimJoined
import GoSem.ClaimMapViews
import Derived.JoinedTies
import Derived.KernelRfl
namespace Go.Proofs.Ytohkjfdcmiiehaa
/- THE CELL 'sum', in the pinned program and in every row, IS THE sha256 OF THE DUMP (.gsa) THAT YtohkjfdcmiiehaaProg.lean LOADS. Nothing in Lean hashes anything: it is a label: what it is worth is what the hold of that sum in a sandbox is worth. -/
noncomputable def Try.pinned : Pinned := { name := "ytohkjfdcmiiehaa", sum := "371983400d29f33244d58d2c0faca8a25c2743aa8233b2121313878ff61ca5f0", checked := Try.checked }
namespace Rows
def none {H : Type} : Left H := { results := [], args := [] }

/-- 'astrolabelaw03.QuoDivides': WHATEVER THE INPUT: true; the input reads as it did. -/
def quoDividesSpec : ChangeSpec := { name := "quoDivides", fn := fun _ => fun
  | [d1, d2] => { results := [.lit (.bool true)], args := [d1, d2] }
  | _ => none }
def quoDividesRow : OpenClaim := { program := "ytohkjfdcmiiehaa", sum := "371983400d29f33244d58d2c0faca8a25c2743aa8233b2121313878ff61ca5f0", func := "astrolabe/astrolabelaw03.QuoDivides", spec := "quoDivides", named := ["math/bits.overflowError"], apart := false }
def QuoDividesSaid : Prop := quoDividesRow.holds Try.pinned (OpenSpec.ofChange quoDividesSpec)

/-- ITS FALSE NEIGHBOUR: 'it returns false'. Refute it at one input. -/
def quoDividesWrong : ChangeSpec := { name := "quoDivides", fn := fun _ => fun
  | [d1, d2] => { results := [.lit (.bool false)], args := [d1, d2] }
  | _ => none }
def QuoDividesWrongFalsely : Prop := quoDividesRow.holds Try.pinned (OpenSpec.ofChange quoDividesWrong)

/-- 'astrolabelaw03.QuoRoots': WHATEVER THE INPUT: true; the input reads as it did. -/
def quoRootsSpec : ChangeSpec := { name := "quoRoots", fn := fun _ => fun
  | [d] => { results := [.lit (.bool true)], args := [d] }
  | _ => none }
def quoRootsRow : OpenClaim := { program := "ytohkjfdcmiiehaa", sum := "371983400d29f33244d58d2c0faca8a25c2743aa8233b2121313878ff61ca5f0", func := "astrolabe/astrolabelaw03.QuoRoots", spec := "quoRoots", named := ["math/bits.overflowError"], apart := false }
def QuoRootsSaid : Prop := quoRootsRow.holds Try.pinned (OpenSpec.ofChange quoRootsSpec)

/-- ITS FALSE NEIGHBOUR: 'it returns false'. Refute it at one input. -/
def quoRootsWrong : ChangeSpec := { name := "quoRoots", fn := fun _ => fun
  | [d] => { results := [.lit (.bool false)], args := [d] }
  | _ => none }
def QuoRootsWrongFalsely : Prop := quoRootsRow.holds Try.pinned (OpenSpec.ofChange quoRootsWrong)

/-- 'astrolabelaw03.QuoBack': WHATEVER THE INPUT: true; the input reads as it did. -/
def quoBackSpec : ChangeSpec := { name := "quoBack", fn := fun _ => fun
  | [d1, d2] => { results := [.lit (.bool true)], args := [d1, d2] }
  | _ => none }
def quoBackRow : OpenClaim := { program := "ytohkjfdcmiiehaa", sum := "371983400d29f33244d58d2c0faca8a25c2743aa8233b2121313878ff61ca5f0", func := "astrolabe/astrolabelaw03.QuoBack", spec := "quoBack", named := ["math/bits.overflowError"], apart := false }
def QuoBackSaid : Prop := quoBackRow.holds Try.pinned (OpenSpec.ofChange quoBackSpec)

/-- ITS FALSE NEIGHBOUR: 'it returns false'. Refute it at one input. -/
def quoBackWrong : ChangeSpec := { name := "quoBack", fn := fun _ => fun
  | [d1, d2] => { results := [.lit (.bool false)], args := [d1, d2] }
  | _ => none }
def QuoBackWrongFalsely : Prop := quoBackRow.holds Try.pinned (OpenSpec.ofChange quoBackWrong)

/-- 'astrolabelaw03.QuoSquares': WHATEVER THE INPUT: true; the input reads as it did. -/
def quoSquaresSpec : ChangeSpec := { name := "quoSquares", fn := fun _ => fun
  | [d] => { results := [.lit (.bool true)], args := [d] }
  | _ => none }
def quoSquaresRow : OpenClaim := { program := "ytohkjfdcmiiehaa", sum := "371983400d29f33244d58d2c0faca8a25c2743aa8233b2121313878ff61ca5f0", func := "astrolabe/astrolabelaw03.QuoSquares", spec := "quoSquares", named := ["math/bits.overflowError"], apart := false }
def QuoSquaresSaid : Prop := quoSquaresRow.holds Try.pinned (OpenSpec.ofChange quoSquaresSpec)

/-- ITS FALSE NEIGHBOUR: 'it returns false'. Refute it at one input. -/
def quoSquaresWrong : ChangeSpec := { name := "quoSquares", fn := fun _ => fun
  | [d] => { results := [.lit (.bool false)], args := [d] }
  | _ => none }
def QuoSquaresWrongFalsely : Prop := quoSquaresRow.holds Try.pinned (OpenSpec.ofChange quoSquaresWrong)

/-- 'astrolabelaw03.QuoGcds': WHATEVER THE INPUT: true; the input reads as it did. -/
def quoGcdsSpec : ChangeSpec := { name := "quoGcds", fn := fun _ => fun
  | [d1, d2, d3] => { results := [.lit (.bool true)], args := [d1, d2, d3] }
  | _ => none }
def quoGcdsRow : OpenClaim := { program := "ytohkjfdcmiiehaa", sum := "371983400d29f33244d58d2c0faca8a25c2743aa8233b2121313878ff61ca5f0", func := "astrolabe/astrolabelaw03.QuoGcds", spec := "quoGcds", named := ["math/bits.overflowError"], apart := false }
def QuoGcdsSaid : Prop := quoGcdsRow.holds Try.pinned (OpenSpec.ofChange quoGcdsSpec)

/-- ITS FALSE NEIGHBOUR: 'it returns false'. Refute it at one input. -/
def quoGcdsWrong : ChangeSpec := { name := "quoGcds", fn := fun _ => fun
  | [d1, d2, d3] => { results := [.lit (.bool false)], args := [d1, d2, d3] }
  | _ => none }
def QuoGcdsWrongFalsely : Prop := quoGcdsRow.holds Try.pinned (OpenSpec.ofChange quoGcdsWrong)

/-- 'astrolabelaw03.QuoSteps': WHATEVER THE INPUT: true; the input reads as it did. -/
def quoStepsSpec : ChangeSpec := { name := "quoSteps", fn := fun _ => fun
  | [d1, d2, d3, d4] => { results := [.lit (.bool true)], args := [d1, d2, d3, d4] }
  | _ => none }
def quoStepsRow : OpenClaim := { program := "ytohkjfdcmiiehaa", sum := "371983400d29f33244d58d2c0faca8a25c2743aa8233b2121313878ff61ca5f0", func := "astrolabe/astrolabelaw03.QuoSteps", spec := "quoSteps", named := ["math/bits.overflowError"], apart := false }
def QuoStepsSaid : Prop := quoStepsRow.holds Try.pinned (OpenSpec.ofChange quoStepsSpec)

/-- ITS FALSE NEIGHBOUR: 'it returns false'. Refute it at one input. -/
def quoStepsWrong : ChangeSpec := { name := "quoSteps", fn := fun _ => fun
  | [d1, d2, d3, d4] => { results := [.lit (.bool false)], args := [d1, d2, d3, d4] }
  | _ => none }
def QuoStepsWrongFalsely : Prop := quoStepsRow.holds Try.pinned (OpenSpec.ofChange quoStepsWrong)

/-- 'astrolabelaw03.QuoRests': WHATEVER THE INPUT: true; the input reads as it did. -/
def quoRestsSpec : ChangeSpec := { name := "quoRests", fn := fun _ => fun
  | [d1, d2, d3] => { results := [.lit (.bool true)], args := [d1, d2, d3] }
  | _ => none }
def quoRestsRow : OpenClaim := { program := "ytohkjfdcmiiehaa", sum := "371983400d29f33244d58d2c0faca8a25c2743aa8233b2121313878ff61ca5f0", func := "astrolabe/astrolabelaw03.QuoRests", spec := "quoRests", named := ["math/bits.overflowError"], apart := false }
def QuoRestsSaid : Prop := quoRestsRow.holds Try.pinned (OpenSpec.ofChange quoRestsSpec)

/-- ITS FALSE NEIGHBOUR: 'it returns false'. Refute it at one input. -/
def quoRestsWrong : ChangeSpec := { name := "quoRests", fn := fun _ => fun
  | [d1, d2, d3] => { results := [.lit (.bool false)], args := [d1, d2, d3] }
  | _ => none }
def QuoRestsWrongFalsely : Prop := quoRestsRow.holds Try.pinned (OpenSpec.ofChange quoRestsWrong)

/-- 'astrolabelaw03.QuoRising': WHATEVER THE INPUT: true; the input reads as it did. -/
def quoRisingSpec : ChangeSpec := { name := "quoRising", fn := fun _ => fun
  | [d1, d2, d3] => { results := [.lit (.bool true)], args := [d1, d2, d3] }
  | _ => none }
def quoRisingRow : OpenClaim := { program := "ytohkjfdcmiiehaa", sum := "371983400d29f33244d58d2c0faca8a25c2743aa8233b2121313878ff61ca5f0", func := "astrolabe/astrolabelaw03.QuoRising", spec := "quoRising", named := ["math/bits.overflowError"], apart := false }
def QuoRisingSaid : Prop := quoRisingRow.holds Try.pinned (OpenSpec.ofChange quoRisingSpec)

/-- ITS FALSE NEIGHBOUR: 'it returns false'. Refute it at one input. -/
def quoRisingWrong : ChangeSpec := { name := "quoRising", fn := fun _ => fun
  | [d1, d2, d3] => { results := [.lit (.bool false)], args := [d1, d2, d3] }
  | _ => none }
def QuoRisingWrongFalsely : Prop := quoRisingRow.holds Try.pinned (OpenSpec.ofChange quoRisingWrong)

/- THE SECOND FORM. 'bulk': how many values and letters a reading holds, each counted each time it is reached (what is shared counts as often as it is met; a slice's spare places count too). A statement '..UptoSaid' is the law's where the arguments, and the package variables that the reading takes, are together of bulk at most 1048576: NARROWER than '..Said'. Prove '..Said' where nothing that the law and all that it calls make is longer than what came in: it says more and counts as full. Else prove '..UptoSaid'. A law counts once. -/
mutual
def uptoBulk {H : Type} : DataW H → Nat
  | .lit (.string bytes) => bytes.length + 1
  | .lit _ => 1
  | .nil => 1
  | .ptr d => uptoBulk d + 1
  | .slice elems spare => uptoBulkAll elems + uptoBulkAll spare + 1
  | .agg parts => uptoBulkAll parts + 1
  | .iface _ d => uptoBulk d + 1
  | .map entries => uptoBulkEntries entries + 1
  | .held _ => 1
def uptoBulkAll {H : Type} : List (DataW H) → Nat
  | [] => 0
  | d :: r => uptoBulk d + uptoBulkAll r
def uptoBulkEntries {H : Type} : List (Lit × DataW H) → Nat
  | [] => 0
  | x :: r => uptoBulkEntry x + uptoBulkEntries r
def uptoBulkEntry {H : Type} : Lit × DataW H → Nat
  | (.string bytes, d) => bytes.length + uptoBulk d + 1
  | (_, d) => uptoBulk d + 1
 end
def uptoSmall : (H : Type) → List (DataW H) → Bool := fun _ ds => decide (uptoBulkAll ds ≤ 1048576)
def OpenSpec.upto (s : _root_.Go.ChangeSpec) : _root_.Go.OpenSpec := { _root_.Go.OpenSpec.ofChange s with cond := some uptoSmall }

/-- 'astrolabelaw03.QuoDivides', WHERE WHAT IT READS IS OF BULK AT MOST 1048576: true; the input reads as it did. -/
def quoDividesUptoRow : OpenClaim := { program := "ytohkjfdcmiiehaa", sum := "371983400d29f33244d58d2c0faca8a25c2743aa8233b2121313878ff61ca5f0", func := "astrolabe/astrolabelaw03.QuoDivides", spec := "quoDivides", named := ["math/bits.overflowError"], apart := false, narrowed := true }
def QuoDividesUptoSaid : Prop := quoDividesUptoRow.holds Try.pinned (OpenSpec.upto quoDividesSpec)

/-- 'astrolabelaw03.QuoRoots', WHERE WHAT IT READS IS OF BULK AT MOST 1048576: true; the input reads as it did. -/
def quoRootsUptoRow : OpenClaim := { program := "ytohkjfdcmiiehaa", sum := "371983400d29f33244d58d2c0faca8a25c2743aa8233b2121313878ff61ca5f0", func := "astrolabe/astrolabelaw03.QuoRoots", spec := "quoRoots", named := ["math/bits.overflowError"], apart := false, narrowed := true }
def QuoRootsUptoSaid : Prop := quoRootsUptoRow.holds Try.pinned (OpenSpec.upto quoRootsSpec)

/-- 'astrolabelaw03.QuoBack', WHERE WHAT IT READS IS OF BULK AT MOST 1048576: true; the input reads as it did. -/
def quoBackUptoRow : OpenClaim := { program := "ytohkjfdcmiiehaa", sum := "371983400d29f33244d58d2c0faca8a25c2743aa8233b2121313878ff61ca5f0", func := "astrolabe/astrolabelaw03.QuoBack", spec := "quoBack", named := ["math/bits.overflowError"], apart := false, narrowed := true }
def QuoBackUptoSaid : Prop := quoBackUptoRow.holds Try.pinned (OpenSpec.upto quoBackSpec)

/-- 'astrolabelaw03.QuoSquares', WHERE WHAT IT READS IS OF BULK AT MOST 1048576: true; the input reads as it did. -/
def quoSquaresUptoRow : OpenClaim := { program := "ytohkjfdcmiiehaa", sum := "371983400d29f33244d58d2c0faca8a25c2743aa8233b2121313878ff61ca5f0", func := "astrolabe/astrolabelaw03.QuoSquares", spec := "quoSquares", named := ["math/bits.overflowError"], apart := false, narrowed := true }
def QuoSquaresUptoSaid : Prop := quoSquaresUptoRow.holds Try.pinned (OpenSpec.upto quoSquaresSpec)

/-- 'astrolabelaw03.QuoGcds', WHERE WHAT IT READS IS OF BULK AT MOST 1048576: true; the input reads as it did. -/
def quoGcdsUptoRow : OpenClaim := { program := "ytohkjfdcmiiehaa", sum := "371983400d29f33244d58d2c0faca8a25c2743aa8233b2121313878ff61ca5f0", func := "astrolabe/astrolabelaw03.QuoGcds", spec := "quoGcds", named := ["math/bits.overflowError"], apart := false, narrowed := true }
def QuoGcdsUptoSaid : Prop := quoGcdsUptoRow.holds Try.pinned (OpenSpec.upto quoGcdsSpec)

/-- 'astrolabelaw03.QuoSteps', WHERE WHAT IT READS IS OF BULK AT MOST 1048576: true; the input reads as it did. -/
def quoStepsUptoRow : OpenClaim := { program := "ytohkjfdcmiiehaa", sum := "371983400d29f33244d58d2c0faca8a25c2743aa8233b2121313878ff61ca5f0", func := "astrolabe/astrolabelaw03.QuoSteps", spec := "quoSteps", named := ["math/bits.overflowError"], apart := false, narrowed := true }
def QuoStepsUptoSaid : Prop := quoStepsUptoRow.holds Try.pinned (OpenSpec.upto quoStepsSpec)

/-- 'astrolabelaw03.QuoRests', WHERE WHAT IT READS IS OF BULK AT MOST 1048576: true; the input reads as it did. -/
def quoRestsUptoRow : OpenClaim := { program := "ytohkjfdcmiiehaa", sum := "371983400d29f33244d58d2c0faca8a25c2743aa8233b2121313878ff61ca5f0", func := "astrolabe/astrolabelaw03.QuoRests", spec := "quoRests", named := ["math/bits.overflowError"], apart := false, narrowed := true }
def QuoRestsUptoSaid : Prop := quoRestsUptoRow.holds Try.pinned (OpenSpec.upto quoRestsSpec)

/-- 'astrolabelaw03.QuoRising', WHERE WHAT IT READS IS OF BULK AT MOST 1048576: true; the input reads as it did. -/
def quoRisingUptoRow : OpenClaim := { program := "ytohkjfdcmiiehaa", sum := "371983400d29f33244d58d2c0faca8a25c2743aa8233b2121313878ff61ca5f0", func := "astrolabe/astrolabelaw03.QuoRising", spec := "quoRising", named := ["math/bits.overflowError"], apart := false, narrowed := true }
def QuoRisingUptoSaid : Prop := quoRisingUptoRow.holds Try.pinned (OpenSpec.upto quoRisingSpec)

end Rows
end Go.Proofs.Ytohkjfdcmiiehaa
