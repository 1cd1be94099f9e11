/- The plain law of chapter 1's comparison and difference. -/
import Derived.Test.YtohkjfdcmiiehaaP1
import Derived.Test.YtohkjfdcmiiehaaP3
import Derived.Test.YtohkjfdcmiiehaaSb
namespace Go.Proofs.Ytohkjfdcmiiehaa.Sp
open Go.RowKit Go.Proofs.Ytohkjfdcmiiehaa.P Go.Proofs.Ytohkjfdcmiiehaa.Num Go.Proofs.YtohkjfdcmiiehaaW.PrintWords Go.Proofs.YtohkjfdcmiiehaaW.PrintLast Go.Proofs.YtohkjfdcmiiehaaW.PrintMore

/-- How two numbers stand. -/
def cmp (x y : Nat) : Int := if x < y then -1 else if x = y then 0 else 1

theorem div_step (x m : Nat) : x / 4294967296 ^ m = x / 4294967296 ^ (m + 1) * 4294967296 + x / 4294967296 ^ m % 4294967296 := by
  rw [Nat.pow_succ, ← Nat.div_div_eq_div_mul]
  omega

theorem lt_of_div {x y p : Nat} (h : x / p < y / p) : x < y := by
  apply Nat.lt_of_not_le
  intro h1
  have := Nat.div_le_div_right (c := p) h1
  omega

theorem cmp_digit {x y m : Nat} (h : x / 4294967296 ^ (m + 1) = y / 4294967296 ^ (m + 1)) (hd : x / 4294967296 ^ m % 4294967296 < y / 4294967296 ^ m % 4294967296) : x < y := by
  apply lt_of_div (p := 4294967296 ^ m)
  rw [div_step x m, div_step y m, h]
  omega

theorem same_digit {x y m : Nat} (h : x / 4294967296 ^ (m + 1) = y / 4294967296 ^ (m + 1)) (hd : x / 4294967296 ^ m % 4294967296 = y / 4294967296 ^ m % 4294967296) : x / 4294967296 ^ m = y / 4294967296 ^ m := by
  rw [div_step x m, div_step y m, h, hd]

theorem Cmp_loop (x y n : Nat) (hx : (dg x).length = n) (hy : (dg y).length = n) (hn : n ≤ 100000000) :
    ∀ (m i : Nat), m + i = n → x / 4294967296 ^ m = y / 4294967296 ^ m → Ev (fun k => nat_Cmp.l0 k (dg x) (dg y) n i) (cmp x y) := by
  intro m
  induction m with
  | zero =>
    intro i hi he
    simp only [Nat.pow_zero, Nat.div_one] at he
    refine Ev.step (f := fun _ => some 0) (fun k => ?_) (Ev.eq (Ev.now _) (by unfold cmp; rw [if_neg (by omega), if_pos he]))
    simp only [nat_Cmp.l0]
    rw [if_neg (by omega)]
  | succ m ih =>
    intro i hi
    have un : ∀ k, nat_Cmp.l0 (k + 1) (dg x) (dg y) n i = if rd (dg x) m < rd (dg y) m then some (-1) else if rd (dg x) m > rd (dg y) m then some 1 else nat_Cmp.l0 k (dg x) (dg y) n (i + 1 : Nat) := by
      intro k
      clear ih
      have w1 : wrap64 (((dg x).length : Int) - 1) = (m + i : Nat) := by rw [hx, w64] <;> omega
      have w2 : wrap64 (((dg y).length : Int) - 1) = (m + i : Nat) := by rw [hy, w64] <;> omega
      have w3 : wrap64 (((m + i : Nat) : Int) - (i : Int)) = (m : Nat) := by clear w1 w2; rw [w64] <;> omega
      have w4 : wrap64 ((i : Int) + 1) = ((i + 1 : Nat) : Int) := by clear w1 w2 w3; rw [w64] <;> omega
      have f1 : (i : Int) < (n : Int) := by clear w1 w2 w3 w4; omega
      have f2 : (0 : Int) ≤ (m : Int) := Int.natCast_nonneg m
      have f3 : (m : Int) < ((dg x).length : Int) := by clear w1 w2 w3 w4; omega
      have f4 : (m : Int) < ((dg y).length : Int) := by clear w1 w2 w3 w4; omega
      simp only [nat_Cmp.l0]
      rw [if_pos f1, w1, w2, w3, if_pos f2, if_pos f3, if_pos f2, if_pos f4, w4]
    have a1 : rd (dg x) m = ((x / 4294967296 ^ m % 4294967296 : Nat) : Int) := by rw [rd_nat, dg_getD]
    have a2 : rd (dg y) m = ((y / 4294967296 ^ m % 4294967296 : Nat) : Int) := by rw [rd_nat, dg_getD]
    rw [a1, a2] at un
    have ihn := ih (i + 1) (by omega)
    clear ih a1 a2 hi hx hy hn
    intro he
    have c1 := @cmp_digit x y m he
    have c2 := @cmp_digit y x m he.symm
    have c3 := @same_digit x y m he
    clear he
    generalize x / 4294967296 ^ m % 4294967296 = p at un c1 c2 c3
    generalize y / 4294967296 ^ m % 4294967296 = q at un c1 c2 c3
    by_cases h1 : p < q
    · have h := c1 h1
      refine Ev.step (f := fun _ => some (-1)) (fun k => ?_) (Ev.eq (Ev.now _) (by unfold cmp; rw [if_pos h]))
      rw [un, if_pos (Int.ofNat_lt.2 h1)]
    · by_cases h2 : q < p
      · have h := c2 h2
        refine Ev.step (f := fun _ => some 1) (fun k => ?_) (Ev.eq (Ev.now _) (by unfold cmp; rw [if_neg (Nat.lt_asymm h), if_neg (Nat.ne_of_gt h)]))
        rw [un, if_neg (fun h => h1 (Int.ofNat_lt.1 h)), if_pos (Int.ofNat_lt.2 h2)]
      · refine Ev.step (fun k => ?_) (ihn (c3 (Nat.le_antisymm (Nat.le_of_not_lt h2) (Nat.le_of_not_lt h1))))
        rw [un, if_neg (fun h => h1 (Int.ofNat_lt.1 h)), if_neg (fun h => h2 (Int.ofNat_lt.1 h))]

theorem lt_of_len {x y : Nat} (h : (dg x).length < (dg y).length) : x < y := by
  have h1 := lt_of_dg_length (n := x) (Nat.le_refl _)
  have h2 := le_of_dg_length (n := y) (k := (dg x).length) h
  exact Nat.lt_of_lt_of_le h1 h2

theorem Cmp_sp {a b : List Int} (ha : Dig a) (hb : Dig b) (hn : a.length ≤ 100000000) (hm : b.length ≤ 100000000) :
    Ev (fun k => nat_Cmp.f k a b) (cmp (val a) (val b)) := by
  refine Ev.bind (f := fun k t129 => _) (trim_sp (by omega) ha) (Ev.bind (f := fun k t132 => _) (trim_sp (by omega) hb) ?_)
  have la := dg_len ha
  have lb := dg_len hb
  by_cases h : (dg (val a)).length = (dg (val b)).length
  · have e : val a / 4294967296 ^ (dg (val a)).length = val b / 4294967296 ^ (dg (val a)).length := by
      rw [Nat.div_eq_of_lt (lt_of_dg_length (Nat.le_refl _)), Nat.div_eq_of_lt (lt_of_dg_length (by omega))]
    refine Ev.congr (fun k => ?_) (Cmp_loop (val a) (val b) (dg (val a)).length rfl h.symm (by omega) (dg (val a)).length 0 (by omega) e)
    rw [if_pos (by omega)]
    rfl
  · by_cases h1 : (dg (val a)).length < (dg (val b)).length
    · have := lt_of_len h1
      refine Ev.congr (f := fun _ => some (-1)) (fun k => ?_) (Ev.eq (Ev.now _) (by unfold cmp; rw [if_pos this]))
      rw [if_neg (by omega), if_pos (by omega)]
    · have := lt_of_len (x := val b) (y := val a) (by omega)
      refine Ev.congr (f := fun _ => some 1) (fun k => ?_) (Ev.eq (Ev.now _) (by unfold cmp; rw [if_neg (by omega), if_neg (by omega)]))
      rw [if_neg (by omega), if_neg (by omega)]

/-! Differences -/
theorem xor32 (a b : Nat) (ha : a < 4294967296) (hb : b < 4294967296) : Go.bits .xor .u32 (a : Int) (b : Int) = ((a ^^^ b : Nat) : Int) := by
  have hl : a ^^^ b < 4294967296 := Nat.xor_lt_two_pow (n := 32) ha hb
  have ha' : a % 2 ^ IntKind.u32.bits = a := Nat.mod_eq_of_lt ha
  have hb' : b % 2 ^ IntKind.u32.bits = b := Nat.mod_eq_of_lt hb
  simp only [Go.bits, BitVec.ofInt_natCast, BitVec.toNat_xor, BitVec.toNat_ofNat, ha', hb']
  rw [u32m]
  omega

theorem or32 (a b : Nat) (ha : a < 4294967296) (hb : b < 4294967296) : Go.bits .or .u32 (a : Int) (b : Int) = ((a ||| b : Nat) : Int) :=
  (bits_nat .u32 32 (by decide) (fun n h0 h1 => by rw [u32m]; omega) a b ha hb).2
theorem and32 (a b : Nat) (ha : a < 4294967296) (hb : b < 4294967296) : Go.bits .and .u32 (a : Int) (b : Int) = ((a &&& b : Nat) : Int) :=
  (bits_nat .u32 32 (by decide) (fun n h0 h1 => by rw [u32m]; omega) a b ha hb).1

theorem borrow_nat (x y d : Nat) : ((4294967295 ^^^ x) &&& y ||| (4294967295 ^^^ (x ^^^ y)) &&& d) / 2147483648 =
    ((1 ^^^ x / 2147483648) &&& (y / 2147483648)) ||| ((1 ^^^ (x / 2147483648 ^^^ y / 2147483648)) &&& (d / 2147483648)) := by
  have e : ∀ n : Nat, n / 2147483648 = n >>> 31 := fun n => (Nat.shiftRight_eq_div_pow n 31).symm
  simp only [e, Nat.shiftRight_or_distrib, Nat.shiftRight_and_distrib, Nat.shiftRight_xor_distrib]
  rfl

theorem Sub32_eq {x y c : Int} (hx : 0 ≤ x ∧ x < 4294967296) (hy : 0 ≤ y ∧ y < 4294967296) (hc : 0 ≤ c ∧ c ≤ 1) :
    bits_Sub32.f x y c = some ((x - y - c) % 4294967296, if x < y + c then 1 else 0) := by
  unfold bits_Sub32.f
  have e1 : ((x - y) % 4294967296 - c) % 4294967296 = (x - y - c) % 4294967296 := by omega
  rw [e1]
  obtain ⟨a, rfl⟩ := Int.eq_ofNat_of_zero_le hx.1
  obtain ⟨b, rfl⟩ := Int.eq_ofNat_of_zero_le hy.1
  obtain ⟨d, hd⟩ := Int.eq_ofNat_of_zero_le (show 0 ≤ ((a : Int) - b - c) % 4294967296 by omega)
  have em : IntKind.u32.max = ((4294967295 : Nat) : Int) := by decide
  have ha : a < 4294967296 := by omega
  have hb : b < 4294967296 := by omega
  have hdl : d < 4294967296 := by omega
  rw [hd, em, xor32 _ _ (by omega) ha, xor32 _ _ ha hb]
  have l1 : 4294967295 ^^^ a < 4294967296 := Nat.xor_lt_two_pow (n := 32) (by omega) ha
  have l2 : a ^^^ b < 4294967296 := Nat.xor_lt_two_pow (n := 32) ha hb
  have l3 : 4294967295 ^^^ (a ^^^ b) < 4294967296 := Nat.xor_lt_two_pow (n := 32) (by omega) l2
  have l4 : (4294967295 ^^^ a) &&& b < 4294967296 := Nat.lt_of_le_of_lt Nat.and_le_right hb
  have l5 : (4294967295 ^^^ (a ^^^ b)) &&& d < 4294967296 := Nat.lt_of_le_of_lt Nat.and_le_right hdl
  rw [xor32 _ _ (by omega) l2, and32 _ _ l1 hb, and32 _ _ l3 hdl, or32 _ _ l4 l5]
  have hn := borrow_nat a b d
  clear l1 l2 l3 l4 l5
  have key : (((4294967295 ^^^ a) &&& b ||| (4294967295 ^^^ (a ^^^ b)) &&& d : Nat) : Int) / 2147483648 = if (a : Int) < b + c then 1 else 0 := by
    have : (((4294967295 ^^^ a) &&& b ||| (4294967295 ^^^ (a ^^^ b)) &&& d : Nat) : Int) / 2147483648 = ((((4294967295 ^^^ a) &&& b ||| (4294967295 ^^^ (a ^^^ b)) &&& d) / 2147483648 : Nat) : Int) := by simp
    rw [this, hn]
    clear this hn em
    have ta : a / 2147483648 = 0 ∨ a / 2147483648 = 1 := by clear hd; omega
    have tb : b / 2147483648 = 0 ∨ b / 2147483648 = 1 := by clear hd ta; omega
    have td : d / 2147483648 = 0 ∨ d / 2147483648 = 1 := by clear hd ta tb; omega
    have hcc : c = 0 ∨ c = 1 := by clear hd ta tb td; omega
    clear hx hy hc e1
    rcases ta with ta | ta <;> rcases tb with tb | tb <;> rcases td with td | td <;> rcases hcc with rfl | rfl <;> simp only [ta, tb, td] <;> split <;> first | rfl | (exfalso; omega)
  rw [key]

end Go.Proofs.Ytohkjfdcmiiehaa.Sp
