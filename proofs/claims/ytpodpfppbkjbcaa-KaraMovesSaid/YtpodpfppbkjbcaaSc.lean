/- The plain law of chapter 1's comparison and difference. -/
import Derived.Test.YtpodpfppbkjbcaaP1
import Derived.Test.YtpodpfppbkjbcaaSb
namespace Go.Proofs.Ytpodpfppbkjbcaa.Sp
open Go.RowKit Go.Proofs.Ytpodpfppbkjbcaa.P Go.Proofs.Ytpodpfppbkjbcaa.Num Go.Proofs.YtpodpfppbkjbcaaW.PrintWords Go.Proofs.YtpodpfppbkjbcaaW.PrintLast Go.Proofs.YtpodpfppbkjbcaaW.PrintMore

/-- How two numbers stand. -/
def cmp (x y : Nat) : Int := if x < y then -1 else if x = y then 0 else 1

theorem div_step (x m : Nat) : x / 4294967296 ^ m = x / 4294967296 ^ (m + 1) * 4294967296 + x / 4294967296 ^ m % 4294967296 := by
  rw [Nat.pow_succ, ← Nat.div_div_eq_div_mul]
  omega

theorem lt_of_div {x y p : Nat} (h : x / p < y / p) : x < y := by
  apply Nat.lt_of_not_le
  intro h1
  have := Nat.div_le_div_right (c := p) h1
  omega

theorem cmp_digit {x y m : Nat} (h : x / 4294967296 ^ (m + 1) = y / 4294967296 ^ (m + 1)) (hd : x / 4294967296 ^ m % 4294967296 < y / 4294967296 ^ m % 4294967296) : x < y := by
  apply lt_of_div (p := 4294967296 ^ m)
  rw [div_step x m, div_step y m, h]
  omega

theorem same_digit {x y m : Nat} (h : x / 4294967296 ^ (m + 1) = y / 4294967296 ^ (m + 1)) (hd : x / 4294967296 ^ m % 4294967296 = y / 4294967296 ^ m % 4294967296) : x / 4294967296 ^ m = y / 4294967296 ^ m := by
  rw [div_step x m, div_step y m, h, hd]

theorem lt_of_len {x y : Nat} (h : (dg x).length < (dg y).length) : x < y := by
  have h1 := lt_of_dg_length (n := x) (Nat.le_refl _)
  have h2 := le_of_dg_length (n := y) (k := (dg x).length) h
  exact Nat.lt_of_lt_of_le h1 h2

theorem xor32 (a b : Nat) (ha : a < 4294967296) (hb : b < 4294967296) : Go.bits .xor .u32 (a : Int) (b : Int) = ((a ^^^ b : Nat) : Int) := by
  have hl : a ^^^ b < 4294967296 := Nat.xor_lt_two_pow (n := 32) ha hb
  have ha' : a % 2 ^ IntKind.u32.bits = a := Nat.mod_eq_of_lt ha
  have hb' : b % 2 ^ IntKind.u32.bits = b := Nat.mod_eq_of_lt hb
  simp only [Go.bits, BitVec.ofInt_natCast, BitVec.toNat_xor, BitVec.toNat_ofNat, ha', hb']
  rw [u32m]
  omega

theorem or32 (a b : Nat) (ha : a < 4294967296) (hb : b < 4294967296) : Go.bits .or .u32 (a : Int) (b : Int) = ((a ||| b : Nat) : Int) :=
  (bits_nat .u32 32 (by decide) (fun n h0 h1 => by rw [u32m]; omega) a b ha hb).2
theorem and32 (a b : Nat) (ha : a < 4294967296) (hb : b < 4294967296) : Go.bits .and .u32 (a : Int) (b : Int) = ((a &&& b : Nat) : Int) :=
  (bits_nat .u32 32 (by decide) (fun n h0 h1 => by rw [u32m]; omega) a b ha hb).1

theorem borrow_nat (x y d : Nat) : ((4294967295 ^^^ x) &&& y ||| (4294967295 ^^^ (x ^^^ y)) &&& d) / 2147483648 =
    ((1 ^^^ x / 2147483648) &&& (y / 2147483648)) ||| ((1 ^^^ (x / 2147483648 ^^^ y / 2147483648)) &&& (d / 2147483648)) := by
  have e : ∀ n : Nat, n / 2147483648 = n >>> 31 := fun n => (Nat.shiftRight_eq_div_pow n 31).symm
  simp only [e, Nat.shiftRight_or_distrib, Nat.shiftRight_and_distrib, Nat.shiftRight_xor_distrib]
  rfl

theorem Sub32_eq {x y c : Int} (hx : 0 ≤ x ∧ x < 4294967296) (hy : 0 ≤ y ∧ y < 4294967296) (hc : 0 ≤ c ∧ c ≤ 1) :
    bits_Sub32.f x y c = some ((x - y - c) % 4294967296, if x < y + c then 1 else 0) := by
  unfold bits_Sub32.f
  have e1 : ((x - y) % 4294967296 - c) % 4294967296 = (x - y - c) % 4294967296 := by omega
  rw [e1]
  obtain ⟨a, rfl⟩ := Int.eq_ofNat_of_zero_le hx.1
  obtain ⟨b, rfl⟩ := Int.eq_ofNat_of_zero_le hy.1
  obtain ⟨d, hd⟩ := Int.eq_ofNat_of_zero_le (show 0 ≤ ((a : Int) - b - c) % 4294967296 by omega)
  have em : IntKind.u32.max = ((4294967295 : Nat) : Int) := by decide
  have ha : a < 4294967296 := by omega
  have hb : b < 4294967296 := by omega
  have hdl : d < 4294967296 := by omega
  rw [hd, em, xor32 _ _ (by omega) ha, xor32 _ _ ha hb]
  have l1 : 4294967295 ^^^ a < 4294967296 := Nat.xor_lt_two_pow (n := 32) (by omega) ha
  have l2 : a ^^^ b < 4294967296 := Nat.xor_lt_two_pow (n := 32) ha hb
  have l3 : 4294967295 ^^^ (a ^^^ b) < 4294967296 := Nat.xor_lt_two_pow (n := 32) (by omega) l2
  have l4 : (4294967295 ^^^ a) &&& b < 4294967296 := Nat.lt_of_le_of_lt Nat.and_le_right hb
  have l5 : (4294967295 ^^^ (a ^^^ b)) &&& d < 4294967296 := Nat.lt_of_le_of_lt Nat.and_le_right hdl
  rw [xor32 _ _ (by omega) l2, and32 _ _ l1 hb, and32 _ _ l3 hdl, or32 _ _ l4 l5]
  have hn := borrow_nat a b d
  clear l1 l2 l3 l4 l5
  have key : (((4294967295 ^^^ a) &&& b ||| (4294967295 ^^^ (a ^^^ b)) &&& d : Nat) : Int) / 2147483648 = if (a : Int) < b + c then 1 else 0 := by
    have : (((4294967295 ^^^ a) &&& b ||| (4294967295 ^^^ (a ^^^ b)) &&& d : Nat) : Int) / 2147483648 = ((((4294967295 ^^^ a) &&& b ||| (4294967295 ^^^ (a ^^^ b)) &&& d) / 2147483648 : Nat) : Int) := by simp
    rw [this, hn]
    clear this hn em
    have ta : a / 2147483648 = 0 ∨ a / 2147483648 = 1 := by clear hd; omega
    have tb : b / 2147483648 = 0 ∨ b / 2147483648 = 1 := by clear hd ta; omega
    have td : d / 2147483648 = 0 ∨ d / 2147483648 = 1 := by clear hd ta tb; omega
    have hcc : c = 0 ∨ c = 1 := by clear hd ta tb td; omega
    clear hx hy hc e1
    rcases ta with ta | ta <;> rcases tb with tb | tb <;> rcases td with td | td <;> rcases hcc with rfl | rfl <;> simp only [ta, tb, td] <;> split <;> first | rfl | (exfalso; omega)
  rw [key]

end Go.Proofs.Ytpodpfppbkjbcaa.Sp
