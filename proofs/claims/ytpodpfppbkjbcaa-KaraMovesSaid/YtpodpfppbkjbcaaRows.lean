/-
  No cell of these rows narrows 'for every input' (looked for: loops, veiled, ifaces, maps, wideKeys, modest, calm, conditions, laid).
  DERIVED. THE GIVEN ROWS OF THIS SEAT. 5 by the template 'for every input the law returns true; each argument reads behind the call as it read before'; 0 by the template 'total and deterministic' (their statements: YtpodpfppbkjbcaaTotals.lean).
  GIVEN WITH THE SEED: the statements are not yours to turn. If you find one false, say at which input.
  Laid BY PROGRAM, IN A SANDBOX (cutbox-rows.mjs): the forced cells as the released guide's own fill.sh prints them over the translation 242c4c29cd5d6dd5… (all of the seat's roots in one cut). By AI agents, Wed Nov 11 2026. No macro, syntax, notation, axiom, sorry.
-/
import Derived.Test.YtpodpfppbkjbcaaChecked
import GoSem.Claim
import GoSem.ClaimJoined
import GoSem.ClaimMapViews
import Derived.JoinedTies
import Derived.KernelRfl
namespace Go.Proofs.Ytpodpfppbkjbcaa
/- THE CELL 'sum', in the pinned program and in every row, IS THE sha256 OF THE DUMP (.gsa) THAT YtpodpfppbkjbcaaProg.lean LOADS. Nothing in Lean hashes anything: it is a label: what it is worth is what the hold of that sum in a sandbox is worth. -/
noncomputable def Try.pinned : Pinned := { name := "ytpodpfppbkjbcaa", sum := "242c4c29cd5d6dd5a100ab90e381197c30102f04f83efd543f1a4e3a832a4113", checked := Try.checked }
namespace Rows
def none {H : Type} : Left H := { results := [], args := [] }

/-- 'astrolabelaw02.KaraFewer': WHATEVER THE INPUT: true; the input reads as it did. -/
def karaFewerSpec : ChangeSpec := { name := "karaFewer", fn := fun _ => fun
  | [d] => { results := [.lit (.bool true)], args := [d] }
  | _ => none }
def karaFewerRow : OpenClaim := { program := "ytpodpfppbkjbcaa", sum := "242c4c29cd5d6dd5a100ab90e381197c30102f04f83efd543f1a4e3a832a4113", func := "astrolabe/astrolabelaw02.KaraFewer", spec := "karaFewer", unfollowed := true, recurses := true, apart := false }
def KaraFewerSaid : Prop := karaFewerRow.holds Try.pinned (OpenSpec.ofChange karaFewerSpec)

/-- ITS FALSE NEIGHBOUR: 'it returns false'. Refute it at one input. -/
def karaFewerWrong : ChangeSpec := { name := "karaFewer", fn := fun _ => fun
  | [d] => { results := [.lit (.bool false)], args := [d] }
  | _ => none }
def KaraFewerWrongFalsely : Prop := karaFewerRow.holds Try.pinned (OpenSpec.ofChange karaFewerWrong)

/-- 'astrolabelaw02.KaraMuls': WHATEVER THE INPUT: true; the input reads as it did. -/
def karaMulsSpec : ChangeSpec := { name := "karaMuls", fn := fun _ => fun
  | [d1, d2, d3] => { results := [.lit (.bool true)], args := [d1, d2, d3] }
  | _ => none }
def karaMulsRow : OpenClaim := { program := "ytpodpfppbkjbcaa", sum := "242c4c29cd5d6dd5a100ab90e381197c30102f04f83efd543f1a4e3a832a4113", func := "astrolabe/astrolabelaw02.KaraMuls", spec := "karaMuls", unfollowed := true, recurses := true, apart := false }
def KaraMulsSaid : Prop := karaMulsRow.holds Try.pinned (OpenSpec.ofChange karaMulsSpec)

/-- ITS FALSE NEIGHBOUR: 'it returns false'. Refute it at one input. -/
def karaMulsWrong : ChangeSpec := { name := "karaMuls", fn := fun _ => fun
  | [d1, d2, d3] => { results := [.lit (.bool false)], args := [d1, d2, d3] }
  | _ => none }
def KaraMulsWrongFalsely : Prop := karaMulsRow.holds Try.pinned (OpenSpec.ofChange karaMulsWrong)

/-- 'astrolabelaw02.KaraLaws': WHATEVER THE INPUT: true; the input reads as it did. -/
def karaLawsSpec : ChangeSpec := { name := "karaLaws", fn := fun _ => fun
  | [d1, d2, d3] => { results := [.lit (.bool true)], args := [d1, d2, d3] }
  | _ => none }
def karaLawsRow : OpenClaim := { program := "ytpodpfppbkjbcaa", sum := "242c4c29cd5d6dd5a100ab90e381197c30102f04f83efd543f1a4e3a832a4113", func := "astrolabe/astrolabelaw02.KaraLaws", spec := "karaLaws", unfollowed := true, recurses := true, apart := false }
def KaraLawsSaid : Prop := karaLawsRow.holds Try.pinned (OpenSpec.ofChange karaLawsSpec)

/-- ITS FALSE NEIGHBOUR: 'it returns false'. Refute it at one input. -/
def karaLawsWrong : ChangeSpec := { name := "karaLaws", fn := fun _ => fun
  | [d1, d2, d3] => { results := [.lit (.bool false)], args := [d1, d2, d3] }
  | _ => none }
def KaraLawsWrongFalsely : Prop := karaLawsRow.holds Try.pinned (OpenSpec.ofChange karaLawsWrong)

/-- 'astrolabelaw02.KaraOnes': WHATEVER THE INPUT: true; the input reads as it did. -/
def karaOnesSpec : ChangeSpec := { name := "karaOnes", fn := fun _ => fun
  | [d1, d2] => { results := [.lit (.bool true)], args := [d1, d2] }
  | _ => none }
def karaOnesRow : OpenClaim := { program := "ytpodpfppbkjbcaa", sum := "242c4c29cd5d6dd5a100ab90e381197c30102f04f83efd543f1a4e3a832a4113", func := "astrolabe/astrolabelaw02.KaraOnes", spec := "karaOnes", unfollowed := true, recurses := true, apart := false }
def KaraOnesSaid : Prop := karaOnesRow.holds Try.pinned (OpenSpec.ofChange karaOnesSpec)

/-- ITS FALSE NEIGHBOUR: 'it returns false'. Refute it at one input. -/
def karaOnesWrong : ChangeSpec := { name := "karaOnes", fn := fun _ => fun
  | [d1, d2] => { results := [.lit (.bool false)], args := [d1, d2] }
  | _ => none }
def KaraOnesWrongFalsely : Prop := karaOnesRow.holds Try.pinned (OpenSpec.ofChange karaOnesWrong)

/-- 'astrolabelaw02.KaraMoves': WHATEVER THE INPUT: true; the input reads as it did. -/
def karaMovesSpec : ChangeSpec := { name := "karaMoves", fn := fun _ => fun
  | [d1, d2, d3, d4] => { results := [.lit (.bool true)], args := [d1, d2, d3, d4] }
  | _ => none }
def karaMovesRow : OpenClaim := { program := "ytpodpfppbkjbcaa", sum := "242c4c29cd5d6dd5a100ab90e381197c30102f04f83efd543f1a4e3a832a4113", func := "astrolabe/astrolabelaw02.KaraMoves", spec := "karaMoves", unfollowed := true, recurses := true, apart := false }
def KaraMovesSaid : Prop := karaMovesRow.holds Try.pinned (OpenSpec.ofChange karaMovesSpec)

/-- ITS FALSE NEIGHBOUR: 'it returns false'. Refute it at one input. -/
def karaMovesWrong : ChangeSpec := { name := "karaMoves", fn := fun _ => fun
  | [d1, d2, d3, d4] => { results := [.lit (.bool false)], args := [d1, d2, d3, d4] }
  | _ => none }
def KaraMovesWrongFalsely : Prop := karaMovesRow.holds Try.pinned (OpenSpec.ofChange karaMovesWrong)

/- THE SECOND FORM. 'bulk': how many values and letters a reading holds, each counted each time it is reached (what is shared counts as often as it is met; a slice's spare places count too). A statement '..UptoSaid' is the law's where the arguments, and the package variables that the reading takes, are together of bulk at most 1048576: NARROWER than '..Said'. Prove '..Said' where nothing that the law and all that it calls make is longer than what came in: it says more and counts as full. Else prove '..UptoSaid'. A law counts once. -/
mutual
def uptoBulk {H : Type} : DataW H → Nat
  | .lit (.string bytes) => bytes.length + 1
  | .lit _ => 1
  | .nil => 1
  | .ptr d => uptoBulk d + 1
  | .slice elems spare => uptoBulkAll elems + uptoBulkAll spare + 1
  | .agg parts => uptoBulkAll parts + 1
  | .iface _ d => uptoBulk d + 1
  | .map entries => uptoBulkEntries entries + 1
  | .held _ => 1
def uptoBulkAll {H : Type} : List (DataW H) → Nat
  | [] => 0
  | d :: r => uptoBulk d + uptoBulkAll r
def uptoBulkEntries {H : Type} : List (Lit × DataW H) → Nat
  | [] => 0
  | x :: r => uptoBulkEntry x + uptoBulkEntries r
def uptoBulkEntry {H : Type} : Lit × DataW H → Nat
  | (.string bytes, d) => bytes.length + uptoBulk d + 1
  | (_, d) => uptoBulk d + 1
 end
def uptoSmall : (H : Type) → List (DataW H) → Bool := fun _ ds => decide (uptoBulkAll ds ≤ 1048576)
def OpenSpec.upto (s : _root_.Go.ChangeSpec) : _root_.Go.OpenSpec := { _root_.Go.OpenSpec.ofChange s with cond := some uptoSmall }

/-- 'astrolabelaw02.KaraFewer', WHERE WHAT IT READS IS OF BULK AT MOST 1048576: true; the input reads as it did. -/
def karaFewerUptoRow : OpenClaim := { program := "ytpodpfppbkjbcaa", sum := "242c4c29cd5d6dd5a100ab90e381197c30102f04f83efd543f1a4e3a832a4113", func := "astrolabe/astrolabelaw02.KaraFewer", spec := "karaFewer", unfollowed := true, recurses := true, apart := false, narrowed := true }
def KaraFewerUptoSaid : Prop := karaFewerUptoRow.holds Try.pinned (OpenSpec.upto karaFewerSpec)

/-- 'astrolabelaw02.KaraMuls', WHERE WHAT IT READS IS OF BULK AT MOST 1048576: true; the input reads as it did. -/
def karaMulsUptoRow : OpenClaim := { program := "ytpodpfppbkjbcaa", sum := "242c4c29cd5d6dd5a100ab90e381197c30102f04f83efd543f1a4e3a832a4113", func := "astrolabe/astrolabelaw02.KaraMuls", spec := "karaMuls", unfollowed := true, recurses := true, apart := false, narrowed := true }
def KaraMulsUptoSaid : Prop := karaMulsUptoRow.holds Try.pinned (OpenSpec.upto karaMulsSpec)

/-- 'astrolabelaw02.KaraLaws', WHERE WHAT IT READS IS OF BULK AT MOST 1048576: true; the input reads as it did. -/
def karaLawsUptoRow : OpenClaim := { program := "ytpodpfppbkjbcaa", sum := "242c4c29cd5d6dd5a100ab90e381197c30102f04f83efd543f1a4e3a832a4113", func := "astrolabe/astrolabelaw02.KaraLaws", spec := "karaLaws", unfollowed := true, recurses := true, apart := false, narrowed := true }
def KaraLawsUptoSaid : Prop := karaLawsUptoRow.holds Try.pinned (OpenSpec.upto karaLawsSpec)

/-- 'astrolabelaw02.KaraOnes', WHERE WHAT IT READS IS OF BULK AT MOST 1048576: true; the input reads as it did. -/
def karaOnesUptoRow : OpenClaim := { program := "ytpodpfppbkjbcaa", sum := "242c4c29cd5d6dd5a100ab90e381197c30102f04f83efd543f1a4e3a832a4113", func := "astrolabe/astrolabelaw02.KaraOnes", spec := "karaOnes", unfollowed := true, recurses := true, apart := false, narrowed := true }
def KaraOnesUptoSaid : Prop := karaOnesUptoRow.holds Try.pinned (OpenSpec.upto karaOnesSpec)

/-- 'astrolabelaw02.KaraMoves', WHERE WHAT IT READS IS OF BULK AT MOST 1048576: true; the input reads as it did. -/
def karaMovesUptoRow : OpenClaim := { program := "ytpodpfppbkjbcaa", sum := "242c4c29cd5d6dd5a100ab90e381197c30102f04f83efd543f1a4e3a832a4113", func := "astrolabe/astrolabelaw02.KaraMoves", spec := "karaMoves", unfollowed := true, recurses := true, apart := false, narrowed := true }
def KaraMovesUptoSaid : Prop := karaMovesUptoRow.holds Try.pinned (OpenSpec.upto karaMovesSpec)

end Rows
end Go.Proofs.Ytpodpfppbkjbcaa
