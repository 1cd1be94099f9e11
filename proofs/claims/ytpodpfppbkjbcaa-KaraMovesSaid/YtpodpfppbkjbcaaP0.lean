/- What the Go functions of these names come to, as plain Lean functions, and the walks that show it. Written for this claim by a turned copy of the print program; Lean checks it. -/
import Derived.Test.YtpodpfppbkjbcaaProg
import Derived.Below
import Derived.Deep.Draws
import Derived.Deep.AppendLies
import Derived.Maps.AppendAt
import Derived.OwnWalk
import Derived.Laws.BytesArg
import Derived.Laws.MakeOwn
import Derived.Laws.OwnMore
import Derived.Deep.OwnRows
import Derived.Tactics
import Derived.Lib.ConvBytes
import Derived.Laws.Slices
import Derived.WalkKit
import Derived.KernelRfl
import Derived.RowKit3
import Derived.Deep.LoopGhost
import Derived.Deep.QuietTactic
import Derived.BigQuiet
import Derived.WideLaws
import Derived.Deep.DeepCutAuto
import Derived.Deep.CutBlock
import Derived.Deep.RegionHeld3
import Derived.Laws.Rows
import Derived.Lib.AppendStr
import Derived.ArgAppend
import Derived.Laws.IdiomCopy
import Derived.OrdersHeld
import Derived.Laws.BitsLemmas
import Derived.RowKit
import Derived.Lib.BitFns
import Derived.Lib.SliceRun
import Derived.Test.YtpodpfppbkjbcaaNum
import Derived.Test.YtpodpfppbkjbcaaWWords
import Derived.Test.YtpodpfppbkjbcaaWLast
import Derived.Test.YtpodpfppbkjbcaaWTab
import Derived.Test.YtpodpfppbkjbcaaWFour
import Derived.Test.YtpodpfppbkjbcaaWQPut
import Derived.Test.YtpodpfppbkjbcaaWApart
import Derived.Test.YtpodpfppbkjbcaaWArr
import Derived.Test.YtpodpfppbkjbcaaWZeros
import Derived.Test.YtpodpfppbkjbcaaWFoot
import Derived.Test.YtpodpfppbkjbcaaWKept
import Derived.Test.YtpodpfppbkjbcaaWShare
import Derived.Test.YtpodpfppbkjbcaaWN
import Derived.Test.YtpodpfppbkjbcaaWFootNe
import Derived.Test.YtpodpfppbkjbcaaWAt
import Derived.Test.YtpodpfppbkjbcaaWEqStruct
import Derived.Test.YtpodpfppbkjbcaaWRepsOne
import Derived.Test.YtpodpfppbkjbcaaWInv
import Derived.Test.YtpodpfppbkjbcaaWInvWords
import Derived.Test.YtpodpfppbkjbcaaWGuard
import Derived.Test.YtpodpfppbkjbcaaWNEv
import Derived.Test.YtpodpfppbkjbcaaWMore
namespace Go.Proofs.Ytpodpfppbkjbcaa.P
open Go.RowKit Go.Proofs.YtpodpfppbkjbcaaW.PrintWords Go.Proofs.YtpodpfppbkjbcaaW.PrintLast Go.Proofs.YtpodpfppbkjbcaaW.PrintMore
attribute [local go_sem] max2_int min2_int max_two min_two max_three min_three max_four min_four   -- for this text's walks alone
set_option linter.unusedVariables false
set_option linter.unusedSimpArgs false



def errW : Option Int → Value
  | none => .nilIface
  | some c => .iface 0 (.int .i64 c)
theorem errW_none : errW none = .nilIface := rfl
theorem errW_some (c : Int) : errW (some c) = .iface 0 (.int .i64 c) := rfl

theorem info31 : (Try.prog.info? 31).map (fun i => (i.zero, i.size, i.bytes)) = some (some (.int .u32 0), 1, 4) := by kernel_rfl
-- the values' own types
def rd_L1 (xs : List (List Int)) (i : Int) : (List Int) := xs.getD i.toNat ([] : List Int)
theorem at_L1 {w : World} {A : Option Addr} {n : Nat} {xs : List (List Int)} (h : Kd.C (Kd.slice 31 (Kd.int .u32)) w A n xs) (i : Int) (h0 : 0 ≤ i) (h1 : i < n) : ∃ ad A0 c0, A = some ad ∧ w.cell? (ad.add i.toNat) = some (.slice A0 (rd_L1 xs i).length c0) ∧ (rd_L1 xs i).length ≤ c0 ∧ (Kd.int .u32).C w A0 (rd_L1 xs i).length (rd_L1 xs i) := by
  obtain ⟨ad, c, e, _, hK, hc0⟩ := Kd.C_get h ([] : List Int) i h0 h1
  have hc : ∀ j u, c[j]? = some u → w.cell? (ad.add (i.toNat * 1 + j)) = some u := hc0
  obtain ⟨A0, c0, rfl, l0, g0⟩ := hK
  exact ⟨ad, A0, c0, e, by have hq := hc 0 _ rfl; rwa [Nat.mul_one, Nat.add_zero] at hq, l0, g0⟩

end Go.Proofs.Ytpodpfppbkjbcaa.P
