/- The plain law of the document's own answer to chapter 1: its moves. -/
import Derived.Test.YtpodpfppbkjbcaaP4
import Derived.Test.YtpodpfppbkjbcaaRa
namespace Go.Proofs.Ytpodpfppbkjbcaa.Sp
open Go.RowKit Go.Proofs.Ytpodpfppbkjbcaa.P Go.Proofs.Ytpodpfppbkjbcaa.Num Go.Proofs.YtpodpfppbkjbcaaW.PrintWords Go.Proofs.YtpodpfppbkjbcaaW.PrintLast Go.Proofs.YtpodpfppbkjbcaaW.PrintMore

theorem or64c {x c r : Nat} (hx : x < 4294967296) (hr : r < 32) (hc : c < 2 ^ r) : Go.bits .or .u64 ((x * 2 ^ r : Nat) : Int) (c : Int) = ((x * 2 ^ r + c : Nat) : Int) := by
  have h2 : 2 ^ r ≤ 2147483648 := Nat.pow_le_pow_right (n := 2) (by omega) (show r ≤ 31 by omega)
  have h3 := Nat.mul_le_mul (show x ≤ 4294967295 by omega) h2
  have hm : x * 2 ^ r % 2 ^ r = 0 := Nat.mul_mod_left x (2 ^ r)
  have e := (bits_nat .u64 64 (by decide) (fun n h0 h1 => u64 h0 (by omega)) (x * 2 ^ r) c (by omega) (by omega)).2
  rw [e, Nat.or_comm, or_low hc hm, Nat.add_comm]

theorem Dig_snoc {l : List Int} {v : Int} (h : Dig l) (hv : 0 ≤ v ∧ v < 4294967296) : Dig (l ++ [v]) := Dig_append.2 ⟨h, Dig_cons.2 ⟨hv, Dig_nil⟩⟩
theorem val_snoc (l : List Int) (v : Int) : val (l ++ [v]) = val l + 4294967296 ^ l.length * v.toNat := by
  rw [val_append, val_cons, val_nil, Nat.mul_zero, Nat.add_zero]

theorem rshl_alg {vo V b w p x c P lo hi : Nat} (hv : vo + b * w * c = V * p * b) (hP : P = x * p + c) (hl : lo + 4294967296 * hi = P) : vo + b * w * lo + b * w * (4294967296 * hi) = (V + w * x) * p * b := by
  have : b * w * lo + b * w * (4294967296 * hi) = b * w * (x * p) + b * w * c := by rw [← Nat.mul_add, ← Nat.mul_add, hl, hP]
  rw [Nat.add_assoc, this, Nat.add_comm (b * w * (x * p)), ← Nat.add_assoc, hv]
  exact shl_alg _ _ _ _ _

end Go.Proofs.Ytpodpfppbkjbcaa.Sp
