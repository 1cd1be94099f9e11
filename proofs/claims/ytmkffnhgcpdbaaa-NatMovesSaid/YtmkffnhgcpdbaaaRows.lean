/-
  No cell of these rows narrows 'for every input' (looked for: loops, veiled, ifaces, maps, wideKeys, modest, calm, conditions, laid).
  DERIVED. THE GIVEN ROWS OF THIS SEAT. 8 by the template 'for every input the law returns true; each argument reads behind the call as it read before'; 0 by the template 'total and deterministic' (their statements: YtmkffnhgcpdbaaaTotals.lean).
  GIVEN WITH THE SEED: the statements are not yours to turn. If you find one false, say at which input.
  Laid BY PROGRAM, IN A SANDBOX (cutbox-rows.mjs): the forced cells as the released guide's own fill.sh prints them over the translation 9cc869a3af762bab… (all of the seat's roots in one cut). By AI agents, Wed Nov 11 2026. No macro, syntax, notation, axiom, sorry.
-/
import Derived.Test.YtmkffnhgcpdbaaaChecked
import GoSem.Claim
import GoSem.ClaimJoined
import GoSem.ClaimMapViews
import Derived.JoinedTies
import Derived.KernelRfl
namespace Go.Proofs.Ytmkffnhgcpdbaaa
/- THE CELL 'sum', in the pinned program and in every row, IS THE sha256 OF THE DUMP (.gsa) THAT YtmkffnhgcpdbaaaProg.lean LOADS. Nothing in Lean hashes anything: it is a label: what it is worth is what the hold of that sum in a sandbox is worth. -/
noncomputable def Try.pinned : Pinned := { name := "ytmkffnhgcpdbaaa", sum := "9cc869a3af762babf48433c92bca29f9e7fb42baf99654522934d4f23d87e1d2", checked := Try.checked }
namespace Rows
def none {H : Type} : Left H := { results := [], args := [] }

/-- 'astrolabelaw01.NatSmalls': WHATEVER THE INPUT: true; the input reads as it did. -/
def natSmallsSpec : ChangeSpec := { name := "natSmalls", fn := fun _ => fun
  | [d1, d2, d3] => { results := [.lit (.bool true)], args := [d1, d2, d3] }
  | _ => none }
def natSmallsRow : OpenClaim := { program := "ytmkffnhgcpdbaaa", sum := "9cc869a3af762babf48433c92bca29f9e7fb42baf99654522934d4f23d87e1d2", func := "astrolabe/astrolabelaw01.NatSmalls", spec := "natSmalls", apart := false }
def NatSmallsSaid : Prop := natSmallsRow.holds Try.pinned (OpenSpec.ofChange natSmallsSpec)

/-- ITS FALSE NEIGHBOUR: 'it returns false'. Refute it at one input. -/
def natSmallsWrong : ChangeSpec := { name := "natSmalls", fn := fun _ => fun
  | [d1, d2, d3] => { results := [.lit (.bool false)], args := [d1, d2, d3] }
  | _ => none }
def NatSmallsWrongFalsely : Prop := natSmallsRow.holds Try.pinned (OpenSpec.ofChange natSmallsWrong)

/-- 'astrolabelaw01.NatProducts': WHATEVER THE INPUT: true; the input reads as it did. -/
def natProductsSpec : ChangeSpec := { name := "natProducts", fn := fun _ => fun
  | [d1, d2, d3] => { results := [.lit (.bool true)], args := [d1, d2, d3] }
  | _ => none }
def natProductsRow : OpenClaim := { program := "ytmkffnhgcpdbaaa", sum := "9cc869a3af762babf48433c92bca29f9e7fb42baf99654522934d4f23d87e1d2", func := "astrolabe/astrolabelaw01.NatProducts", spec := "natProducts", apart := false }
def NatProductsSaid : Prop := natProductsRow.holds Try.pinned (OpenSpec.ofChange natProductsSpec)

/-- ITS FALSE NEIGHBOUR: 'it returns false'. Refute it at one input. -/
def natProductsWrong : ChangeSpec := { name := "natProducts", fn := fun _ => fun
  | [d1, d2, d3] => { results := [.lit (.bool false)], args := [d1, d2, d3] }
  | _ => none }
def NatProductsWrongFalsely : Prop := natProductsRow.holds Try.pinned (OpenSpec.ofChange natProductsWrong)

/-- 'astrolabelaw01.NatThere': WHATEVER THE INPUT: true; the input reads as it did. -/
def natThereSpec : ChangeSpec := { name := "natThere", fn := fun _ => fun
  | [d1, d2, d3] => { results := [.lit (.bool true)], args := [d1, d2, d3] }
  | _ => none }
def natThereRow : OpenClaim := { program := "ytmkffnhgcpdbaaa", sum := "9cc869a3af762babf48433c92bca29f9e7fb42baf99654522934d4f23d87e1d2", func := "astrolabe/astrolabelaw01.NatThere", spec := "natThere", apart := false }
def NatThereSaid : Prop := natThereRow.holds Try.pinned (OpenSpec.ofChange natThereSpec)

/-- ITS FALSE NEIGHBOUR: 'it returns false'. Refute it at one input. -/
def natThereWrong : ChangeSpec := { name := "natThere", fn := fun _ => fun
  | [d1, d2, d3] => { results := [.lit (.bool false)], args := [d1, d2, d3] }
  | _ => none }
def NatThereWrongFalsely : Prop := natThereRow.holds Try.pinned (OpenSpec.ofChange natThereWrong)

/-- 'astrolabelaw01.NatMoves': WHATEVER THE INPUT: true; the input reads as it did. -/
def natMovesSpec : ChangeSpec := { name := "natMoves", fn := fun _ => fun
  | [d1, d2, d3, d4] => { results := [.lit (.bool true)], args := [d1, d2, d3, d4] }
  | _ => none }
def natMovesRow : OpenClaim := { program := "ytmkffnhgcpdbaaa", sum := "9cc869a3af762babf48433c92bca29f9e7fb42baf99654522934d4f23d87e1d2", func := "astrolabe/astrolabelaw01.NatMoves", spec := "natMoves", apart := false }
def NatMovesSaid : Prop := natMovesRow.holds Try.pinned (OpenSpec.ofChange natMovesSpec)

/-- ITS FALSE NEIGHBOUR: 'it returns false'. Refute it at one input. -/
def natMovesWrong : ChangeSpec := { name := "natMoves", fn := fun _ => fun
  | [d1, d2, d3, d4] => { results := [.lit (.bool false)], args := [d1, d2, d3, d4] }
  | _ => none }
def NatMovesWrongFalsely : Prop := natMovesRow.holds Try.pinned (OpenSpec.ofChange natMovesWrong)

/-- 'astrolabelaw01.NatReckons': WHATEVER THE INPUT: true; the input reads as it did. -/
def natReckonsSpec : ChangeSpec := { name := "natReckons", fn := fun _ => fun
  | [d1, d2] => { results := [.lit (.bool true)], args := [d1, d2] }
  | _ => none }
def natReckonsRow : OpenClaim := { program := "ytmkffnhgcpdbaaa", sum := "9cc869a3af762babf48433c92bca29f9e7fb42baf99654522934d4f23d87e1d2", func := "astrolabe/astrolabelaw01.NatReckons", spec := "natReckons", apart := false }
def NatReckonsSaid : Prop := natReckonsRow.holds Try.pinned (OpenSpec.ofChange natReckonsSpec)

/-- ITS FALSE NEIGHBOUR: 'it returns false'. Refute it at one input. -/
def natReckonsWrong : ChangeSpec := { name := "natReckons", fn := fun _ => fun
  | [d1, d2] => { results := [.lit (.bool false)], args := [d1, d2] }
  | _ => none }
def NatReckonsWrongFalsely : Prop := natReckonsRow.holds Try.pinned (OpenSpec.ofChange natReckonsWrong)

/-- 'astrolabelaw01.NatOrder': WHATEVER THE INPUT: true; the input reads as it did. -/
def natOrderSpec : ChangeSpec := { name := "natOrder", fn := fun _ => fun
  | [d1, d2, d3] => { results := [.lit (.bool true)], args := [d1, d2, d3] }
  | _ => none }
def natOrderRow : OpenClaim := { program := "ytmkffnhgcpdbaaa", sum := "9cc869a3af762babf48433c92bca29f9e7fb42baf99654522934d4f23d87e1d2", func := "astrolabe/astrolabelaw01.NatOrder", spec := "natOrder", apart := false }
def NatOrderSaid : Prop := natOrderRow.holds Try.pinned (OpenSpec.ofChange natOrderSpec)

/-- ITS FALSE NEIGHBOUR: 'it returns false'. Refute it at one input. -/
def natOrderWrong : ChangeSpec := { name := "natOrder", fn := fun _ => fun
  | [d1, d2, d3] => { results := [.lit (.bool false)], args := [d1, d2, d3] }
  | _ => none }
def NatOrderWrongFalsely : Prop := natOrderRow.holds Try.pinned (OpenSpec.ofChange natOrderWrong)

/-- 'astrolabelaw01.NatSums': WHATEVER THE INPUT: true; the input reads as it did. -/
def natSumsSpec : ChangeSpec := { name := "natSums", fn := fun _ => fun
  | [d1, d2, d3] => { results := [.lit (.bool true)], args := [d1, d2, d3] }
  | _ => none }
def natSumsRow : OpenClaim := { program := "ytmkffnhgcpdbaaa", sum := "9cc869a3af762babf48433c92bca29f9e7fb42baf99654522934d4f23d87e1d2", func := "astrolabe/astrolabelaw01.NatSums", spec := "natSums", apart := false }
def NatSumsSaid : Prop := natSumsRow.holds Try.pinned (OpenSpec.ofChange natSumsSpec)

/-- ITS FALSE NEIGHBOUR: 'it returns false'. Refute it at one input. -/
def natSumsWrong : ChangeSpec := { name := "natSums", fn := fun _ => fun
  | [d1, d2, d3] => { results := [.lit (.bool false)], args := [d1, d2, d3] }
  | _ => none }
def NatSumsWrongFalsely : Prop := natSumsRow.holds Try.pinned (OpenSpec.ofChange natSumsWrong)

/-- 'astrolabelaw01.NatDoubles': WHATEVER THE INPUT: true; the input reads as it did. -/
def natDoublesSpec : ChangeSpec := { name := "natDoubles", fn := fun _ => fun
  | [d1, d2] => { results := [.lit (.bool true)], args := [d1, d2] }
  | _ => none }
def natDoublesRow : OpenClaim := { program := "ytmkffnhgcpdbaaa", sum := "9cc869a3af762babf48433c92bca29f9e7fb42baf99654522934d4f23d87e1d2", func := "astrolabe/astrolabelaw01.NatDoubles", spec := "natDoubles", apart := false }
def NatDoublesSaid : Prop := natDoublesRow.holds Try.pinned (OpenSpec.ofChange natDoublesSpec)

/-- ITS FALSE NEIGHBOUR: 'it returns false'. Refute it at one input. -/
def natDoublesWrong : ChangeSpec := { name := "natDoubles", fn := fun _ => fun
  | [d1, d2] => { results := [.lit (.bool false)], args := [d1, d2] }
  | _ => none }
def NatDoublesWrongFalsely : Prop := natDoublesRow.holds Try.pinned (OpenSpec.ofChange natDoublesWrong)

/- THE SECOND FORM. 'bulk': how many values and letters a reading holds, each counted each time it is reached (what is shared counts as often as it is met; a slice's spare places count too). A statement '..UptoSaid' is the law's where the arguments, and the package variables that the reading takes, are together of bulk at most 1048576: NARROWER than '..Said'. Prove '..Said' where nothing that the law and all that it calls make is longer than what came in: it says more and counts as full. Else prove '..UptoSaid'. A law counts once. -/
mutual
def uptoBulk {H : Type} : DataW H → Nat
  | .lit (.string bytes) => bytes.length + 1
  | .lit _ => 1
  | .nil => 1
  | .ptr d => uptoBulk d + 1
  | .slice elems spare => uptoBulkAll elems + uptoBulkAll spare + 1
  | .agg parts => uptoBulkAll parts + 1
  | .iface _ d => uptoBulk d + 1
  | .map entries => uptoBulkEntries entries + 1
  | .held _ => 1
def uptoBulkAll {H : Type} : List (DataW H) → Nat
  | [] => 0
  | d :: r => uptoBulk d + uptoBulkAll r
def uptoBulkEntries {H : Type} : List (Lit × DataW H) → Nat
  | [] => 0
  | x :: r => uptoBulkEntry x + uptoBulkEntries r
def uptoBulkEntry {H : Type} : Lit × DataW H → Nat
  | (.string bytes, d) => bytes.length + uptoBulk d + 1
  | (_, d) => uptoBulk d + 1
 end
def uptoSmall : (H : Type) → List (DataW H) → Bool := fun _ ds => decide (uptoBulkAll ds ≤ 1048576)
def OpenSpec.upto (s : _root_.Go.ChangeSpec) : _root_.Go.OpenSpec := { _root_.Go.OpenSpec.ofChange s with cond := some uptoSmall }

/-- 'astrolabelaw01.NatSmalls', WHERE WHAT IT READS IS OF BULK AT MOST 1048576: true; the input reads as it did. -/
def natSmallsUptoRow : OpenClaim := { program := "ytmkffnhgcpdbaaa", sum := "9cc869a3af762babf48433c92bca29f9e7fb42baf99654522934d4f23d87e1d2", func := "astrolabe/astrolabelaw01.NatSmalls", spec := "natSmalls", apart := false, narrowed := true }
def NatSmallsUptoSaid : Prop := natSmallsUptoRow.holds Try.pinned (OpenSpec.upto natSmallsSpec)

/-- 'astrolabelaw01.NatProducts', WHERE WHAT IT READS IS OF BULK AT MOST 1048576: true; the input reads as it did. -/
def natProductsUptoRow : OpenClaim := { program := "ytmkffnhgcpdbaaa", sum := "9cc869a3af762babf48433c92bca29f9e7fb42baf99654522934d4f23d87e1d2", func := "astrolabe/astrolabelaw01.NatProducts", spec := "natProducts", apart := false, narrowed := true }
def NatProductsUptoSaid : Prop := natProductsUptoRow.holds Try.pinned (OpenSpec.upto natProductsSpec)

/-- 'astrolabelaw01.NatThere', WHERE WHAT IT READS IS OF BULK AT MOST 1048576: true; the input reads as it did. -/
def natThereUptoRow : OpenClaim := { program := "ytmkffnhgcpdbaaa", sum := "9cc869a3af762babf48433c92bca29f9e7fb42baf99654522934d4f23d87e1d2", func := "astrolabe/astrolabelaw01.NatThere", spec := "natThere", apart := false, narrowed := true }
def NatThereUptoSaid : Prop := natThereUptoRow.holds Try.pinned (OpenSpec.upto natThereSpec)

/-- 'astrolabelaw01.NatMoves', WHERE WHAT IT READS IS OF BULK AT MOST 1048576: true; the input reads as it did. -/
def natMovesUptoRow : OpenClaim := { program := "ytmkffnhgcpdbaaa", sum := "9cc869a3af762babf48433c92bca29f9e7fb42baf99654522934d4f23d87e1d2", func := "astrolabe/astrolabelaw01.NatMoves", spec := "natMoves", apart := false, narrowed := true }
def NatMovesUptoSaid : Prop := natMovesUptoRow.holds Try.pinned (OpenSpec.upto natMovesSpec)

/-- 'astrolabelaw01.NatReckons', WHERE WHAT IT READS IS OF BULK AT MOST 1048576: true; the input reads as it did. -/
def natReckonsUptoRow : OpenClaim := { program := "ytmkffnhgcpdbaaa", sum := "9cc869a3af762babf48433c92bca29f9e7fb42baf99654522934d4f23d87e1d2", func := "astrolabe/astrolabelaw01.NatReckons", spec := "natReckons", apart := false, narrowed := true }
def NatReckonsUptoSaid : Prop := natReckonsUptoRow.holds Try.pinned (OpenSpec.upto natReckonsSpec)

/-- 'astrolabelaw01.NatOrder', WHERE WHAT IT READS IS OF BULK AT MOST 1048576: true; the input reads as it did. -/
def natOrderUptoRow : OpenClaim := { program := "ytmkffnhgcpdbaaa", sum := "9cc869a3af762babf48433c92bca29f9e7fb42baf99654522934d4f23d87e1d2", func := "astrolabe/astrolabelaw01.NatOrder", spec := "natOrder", apart := false, narrowed := true }
def NatOrderUptoSaid : Prop := natOrderUptoRow.holds Try.pinned (OpenSpec.upto natOrderSpec)

/-- 'astrolabelaw01.NatSums', WHERE WHAT IT READS IS OF BULK AT MOST 1048576: true; the input reads as it did. -/
def natSumsUptoRow : OpenClaim := { program := "ytmkffnhgcpdbaaa", sum := "9cc869a3af762babf48433c92bca29f9e7fb42baf99654522934d4f23d87e1d2", func := "astrolabe/astrolabelaw01.NatSums", spec := "natSums", apart := false, narrowed := true }
def NatSumsUptoSaid : Prop := natSumsUptoRow.holds Try.pinned (OpenSpec.upto natSumsSpec)

/-- 'astrolabelaw01.NatDoubles', WHERE WHAT IT READS IS OF BULK AT MOST 1048576: true; the input reads as it did. -/
def natDoublesUptoRow : OpenClaim := { program := "ytmkffnhgcpdbaaa", sum := "9cc869a3af762babf48433c92bca29f9e7fb42baf99654522934d4f23d87e1d2", func := "astrolabe/astrolabelaw01.NatDoubles", spec := "natDoubles", apart := false, narrowed := true }
def NatDoublesUptoSaid : Prop := natDoublesUptoRow.holds Try.pinned (OpenSpec.upto natDoublesSpec)

end Rows
end Go.Proofs.Ytmkffnhgcpdbaaa
